/- A symbolic machine for Go code over plain data, and functions of the program as it shows them. No statement is proved in this file. -/
import Derived.KernelRfl
import Derived.Test.YthgjhpbapddpnaaXc
set_option linter.unusedSimpArgs false
set_option linter.unusedVariables false
set_option linter.unusedSectionVars false

namespace Go.Proofs.Ythgjhpbapddpnaa
open Sx Go
set_option maxRecDepth 100000
def iP:ao:=⟨[.val true (.prod .elem (.prod .int (.prod .u64 (.prod .u64 .elem)))),.val true .elem,.val true .elem],[],true,0,false⟩
abbrev JJ:Type:=(((ac×(Int×(UInt64×(UInt64×ac)))))×(ac)×(ac)×Unit)×(Unit)
def nv:ar:=⟨[.val true .elem],[],false⟩
def Qv:SV->Option ar:=λ_=>some nv
def sY (a0:(ac×(Int×(UInt64×(UInt64×ac))))) (a1:ac) (a2:ac):OT iP.Y:=
 let z0:Bool:= !a0.snd.snd.fst==(0:UInt64)
 let z1:Nat:=ac.nat a0.fst
 let z2:ac:=ofN (ac.nat a1%z1)
 let z3:ac:=ofN (ac.nat a2%z1)
 let z4:Nat:=am3 a0
 let z5:ac:=ofN (ac.nat z2*ac.nat z3*z4%z1)
 (gd [fg ((a0,a1,()),()),fg ((a0,a2,()),())] (.br (z0)
 (gd [z0] (.ok ⟨nv,(({w0:=z2.w0*z3.w0%a0.snd.snd.fst,w1:=0,w2:=0,w3:=0},()),())⟩))
 (gd [pb ((a0,z2,z3,()),()),pb ((a0,z5,a0.snd.snd.snd.snd,()),())] (.ok ⟨nv,((ofN (ac.nat z5*ac.nat a0.snd.snd.snd.snd*z4%z1),()),())⟩))))
theorem atr (x:JJ) (Q:iP.Y->Prop):wpf te GL ay 1000 Try.f71 (iP.inp.inj x).tm (iP.inp.inj x).hp (fnK iP Qv Q) (λ_ _=>False)=(sY (x.1.1) (x.1.2.1) (x.1.2.2.1)).wpR Q:=by kernel_rfl
theorem adi (pre:JJ->Bool) (F:JJ->OT iP.Y) (hF:∀ (x:JJ) oy,pre x=true->(F x).run=some oy->(sY (x.1.1) (x.1.2.1) (x.1.2.2.1)).run=some oy):aa Try.prog 71 (iP.aD pre F):=
 aB ap zS WX (f:=71) (fn:=Try.f71) (c:=al Try.f71) (by kernel_rfl) (by kernel_rfl) (by kernel_rfl) (S:=iP) (k:=0) (by kernel_rfl) (λR hR=>af) (n:=1000) (sel:=Qv) (λv o h=>by cases h;rfl) (pre:=pre) (F:=F) (T:=λx=>sY (x.1.1) (x.1.2.1) (x.1.2.2.1)) (λx Q=>atr x Q) hF
theorem aij {p A B r s:Nat} (h:r*s*r%p=1%p):A*B*r%p*s*r%p=A*B%p:=by
 have e:A*B*r*(s*r)=A*B*(r*s*r):=by
  rw [Nat.mul_assoc (A*B) r (s*r),Nat.mul_assoc r s r]
 rw [Nat.mul_assoc,Nat.mul_mod,Nat.mod_mod,<-Nat.mul_mod,e,Nat.mul_mod,h,<-Nat.mul_mod,Nat.mul_one]
theorem anX {n:HT} (h:iL n=true):am3 n*n.2.2.2.2.nat*am3 n%n.1.nat=1%n.1.nat:=by
 rcases gx h with rfl|rfl<;>decide+kernel
theorem avy:iL (aL 2)=true:=by decide+kernel
theorem avx:iL (aL 3)=true:=by decide+kernel
theorem aiX {n:HT} (h:iL n=true):iI n=true:=by
 rcases gx h with rfl|rfl<;>decide+kernel
theorem AH {n:HT} {a b:ac} {m:UInt64} (hn0:iI n=true) (h1:n.1=⟨m,0,0,0⟩) (h2:n.2.2.1=m) (hs:eT m=true):(sY n a b).run=some ⟨nv,((cQ n.1.nat a b,()),())⟩:=by
 have hm:=jF hs
 have hb':m.toNat<=16521217:=by rcases dr hs with rfl|rfl<;>decide
 have hn:n.1.nat=m.toNat:=by rw [h1];show m.toNat+_*(0+_*(0+_*0))=_;omega
 have hz:(!(n.2.2.1==0))=true:=by
  rw [h2]
  rcases dr hs with rfl|rfl<;>rfl
 have ha:=Nat.mod_lt a.nat hm
 have hb:=Nat.mod_lt b.nat hm
 have hab:a.nat%m.toNat*(b.nat%m.toNat)<18446744073709551616:=by
  have:a.nat%m.toNat*(b.nat%m.toNat)<=16521217*16521217:=Nat.mul_le_mul (by omega) (by omega)
  omega
 have e:UInt64.ofNat (a.nat%m.toNat)*UInt64.ofNat (b.nat%m.toNat)%m=UInt64.ofNat (a.nat*b.nat%m.toNat):=by
  have hlt:=Nat.mod_lt (a.nat*b.nat) hm
  rw [<-UInt64.toNat_inj,UInt64.toNat_mod,UInt64.toNat_mul,UInt64.toNat_ofNat',UInt64.toNat_ofNat',UInt64.toNat_ofNat',Nat.mod_eq_of_lt (a:=a.nat%m.toNat) (by omega),Nat.mod_eq_of_lt (a:=b.nat%m.toNat) (by omega),
   Nat.mod_eq_of_lt (a:=a.nat%m.toNat*(b.nat%m.toNat)) (by omega),Nat.mod_eq_of_lt (a:=a.nat*b.nat%m.toNat) (by omega),<-Nat.mul_mod]
 have hlt:=Nat.mod_lt (a.nat*b.nat) hm
 unfold sY
 refine (ah ?_).trans ((OT.au hz).trans ((ah ?_).trans ?_))
 ·simp only [List.all_cons,List.all_nil,Bool.and_true,Bool.and_eq_true]
  exact ⟨hn0,hn0⟩
 ·simp only [hz,List.all_cons,List.all_nil,Bool.and_true]
 ·unfold cQ
  rw [hn,oR (n:=a.nat*b.nat%m.toNat) (by omega),<-e]
  show some (⟨nv,((⟨UInt64.ofNat (a.nat%m.toNat)*UInt64.ofNat (b.nat%m.toNat)%n.2.2.1,0,0,0⟩,()),())⟩:iP.Y)=_
  rw [h2]
theorem EF {n:HT} {a b:ac} (h:iL n=true) (h2:n.2.2.1=0):(sY n a b).run=some ⟨nv,((cQ n.1.nat a b,()),())⟩:=by
 have hn0:=aiX h
 have hp:=u7 hn0
 have hz:(!(n.2.2.1==0))=false:=by rw [h2];rfl
 have e1:(ofN (a.nat%n.1.nat)).nat=a.nat%n.1.nat:=cj hp
 have e2:(ofN (b.nat%n.1.nat)).nat=b.nat%n.1.nat:=cj hp
 have e3:(ofN (a.nat%n.1.nat*(b.nat%n.1.nat)*am3 n%n.1.nat)).nat=a.nat%n.1.nat*(b.nat%n.1.nat)*am3 n%n.1.nat:=cj hp
 unfold sY
 refine (ah ?_).trans ((OT.aw hz).trans ((ah ?_).trans ?_))
 ·simp only [List.all_cons,List.all_nil,Bool.and_true,Bool.and_eq_true]
  exact ⟨hn0,hn0⟩
 ·simp only [List.all_cons,List.all_nil,Bool.and_true,Bool.and_eq_true,pb,h,true_and,e1,e2,e3]
  exact ⟨Nat.ble_eq_true_of_le (Nat.mod_lt _ hp.1),Nat.ble_eq_true_of_le (Nat.mod_lt _ hp.1)⟩
 ·simp only [e1,e2,e3,aij (anX h),cQ,<-Nat.mul_mod]
  rfl
def eW (x:JJ):Bool:=iI x.1.1
def ajj (x:JJ):OT iP.Y:=.ok ⟨nv,((cQ x.1.1.1.nat x.1.2.1 x.1.2.2.1,()),())⟩
theorem aoj:aa Try.prog 71 (iP.aD eW ajj):=adi _ _ λx oy hp ho=>by
 rw [<-ho]
 clear ho
 obtain ⟨⟨n,a,b,⟨⟩⟩,⟨⟩⟩:=x
 have hp':iI n=true:=hp
 rcases sR hp' with rfl|rfl|rfl|rfl
 ·exact AH hp' (m:=16513537) rfl rfl rfl
 ·exact AH hp' (m:=16521217) rfl rfl rfl
 ·exact EF avy rfl
 ·exact EF avx rfl
def yN:bI:=(iP.aD eW ajj)
theorem Vw:aa Try.prog 71 yN:=aoj
theorem Vv:aC yN:=ax
def GS:Env:=av 71 yN GL
theorem zU:aI Try.prog GS:=ag Vw zS
theorem Br:aq GS:=ab Vv Bp
theorem WZ:aP Try.prog te GS:=aF follows ap zU Br
def pg:ao:=⟨[.val false .int,.val true .elem,.val true .elem],[],true,0,false⟩
abbrev adh:Type:=((Int)×(ac)×(ac)×Unit)×(Unit)
def EE:ar:=⟨[.val true .elem],[],false⟩
def ZV:SV->Option ar:=λ_=>some EE
def aji (a0:Int) (a1:ac) (a2:ac):OT pg.Y:=
 let z0:ac×Int×UInt64×UInt64×ac:=aL (Int.toNat a0)
 (.br (ak a0)
 (gd [eW ((z0,a1,a2,()),())] (.ok ⟨EE,((cQ (ac.nat z0.fst) a1 a2,()),())⟩))
 (.ok ⟨EE,(({w0:=0,w1:=0,w2:=0,w3:=0},()),())⟩))
theorem avF (x:adh) (Q:pg.Y->Prop):wpf te GS ay 1000 Try.f56 (pg.inp.inj x).tm (pg.inp.inj x).hp (fnK pg ZV Q) (λ_ _=>False)=(aji (x.1.1) (x.1.2.1) (x.1.2.2.1)).wpR Q:=by kernel_rfl
theorem ajh (pre:adh->Bool) (F:adh->OT pg.Y) (hF:∀ (x:adh) oy,pre x=true->(F x).run=some oy->(aji (x.1.1) (x.1.2.1) (x.1.2.2.1)).run=some oy):aa Try.prog 56 (pg.aD pre F):=
 aB ap zU WZ (f:=56) (fn:=Try.f56) (c:=al Try.f56) (by kernel_rfl) (by kernel_rfl) (by kernel_rfl) (S:=pg) (k:=0) (by kernel_rfl) (λR hR=>af) (n:=1000) (sel:=ZV) (λv o h=>by cases h;rfl) (pre:=pre) (F:=F) (T:=λx=>aji (x.1.1) (x.1.2.1) (x.1.2.2.1)) (λx Q=>avF x Q) hF
def ZW (_:adh):Bool:=true
def apU (x:adh):OT pg.Y:=.br (ak x.1.1) (.ok ⟨EE,((cQ (pS x.1.1) x.1.2.1 x.1.2.2.1,()),())⟩) (.ok ⟨EE,((⟨0,0,0,0⟩,()),())⟩)
theorem atq:aa Try.prog 56 (pg.aD ZW apU):=ajh _ _ λx oy hp ho=>by
 rw [<-ho]
 clear ho
 obtain ⟨⟨s,a,b,⟨⟩⟩,⟨⟩⟩:=x
 cases hs:ak s
 ·exact (OT.aw hs).trans (OT.aw (b:=ak s) hs).symm
 ·refine (OT.au hs).trans ((ah ?_).trans (OT.au (b:=ak s) hs).symm)
  simp only [List.all_cons,List.all_nil,Bool.and_true]
  exact gu hs
def ED:bI:=(pg.aD ZW apU)
theorem adg:aa Try.prog 56 ED:=atq
theorem adf:aC ED:=ax
def Sl:Env:=av 56 ED GS
theorem GQ:aI Try.prog Sl:=ag adg zU
theorem GR:aq Sl:=ab adf Br
theorem aeA:aP Try.prog te Sl:=aF follows ap GQ GR
def kf:ao:=⟨[.val true .elem],[],true,0,false⟩
abbrev JN:Type:=((ac)×Unit)×(Unit)
def Mu:ar:=⟨[.val true .elem],[],false⟩
def QA:SV->Option ar:=λ_=>some Mu
def VA (a0:ac):OT kf.Y:=
 (.ok ⟨Mu,(({w0:=aT a0.w0 (1:Int)|||bL a0.w1 (63:Int),w1:=aT a0.w1 (1:Int)|||bL a0.w2 (63:Int),w2:=aT a0.w2 (1:Int)|||bL a0.w3 (63:Int),w3:=aT a0.w3 (1:Int)},()),())⟩)
theorem atu (x:JN) (Q:kf.Y->Prop):wpf te Sl ay 1000 Try.f70 (kf.inp.inj x).tm (kf.inp.inj x).hp (fnK kf QA Q) (λ_ _=>False)=(VA (x.1.1)).wpR Q:=by kernel_rfl
theorem adt (pre:JN->Bool) (F:JN->OT kf.Y) (hF:∀ (x:JN) oy,pre x=true->(F x).run=some oy->(VA (x.1.1)).run=some oy):aa Try.prog 70 (kf.aD pre F):=
 aB ap GQ aeA (f:=70) (fn:=Try.f70) (c:=al Try.f70) (by kernel_rfl) (by kernel_rfl) (by kernel_rfl) (S:=kf) (k:=0) (by kernel_rfl) (λR hR=>af) (n:=1000) (sel:=QA) (λv o h=>by cases h;rfl) (pre:=pre) (F:=F) (T:=λx=>VA (x.1.1)) (λx Q=>atu x Q) hF
theorem Ej (x y:UInt64):(aT x 1|||bL y 63).toNat=x.toNat/2+9223372036854775808*(y.toNat%2):=by
 have hx:=x.toNat_lt
 have e1:(aT x 1).toNat=x.toNat/2:=eI x 1 (by omega)
 have e2:(bL y 63).toNat=9223372036854775808*(y.toNat%2):=by
  have:=jG y 63 (by omega)
  have e:(bL y 63).toNat=y.toNat*2^63%2^64:=this
  rw [e]
  omega
 rw [UInt64.toNat_or,e1,e2,Nat.or_comm]
 have:=Nat.two_pow_add_eq_or_of_lt (i:=63) (b:=x.toNat/2) (by omega) (y.toNat%2)
 rw [Nat.add_comm]
 exact this.symm
theorem Ek (x N:Nat):(x+18446744073709551616*N)/2=(x/2+9223372036854775808*(N%2))+18446744073709551616*(N/2):=by
 omega
theorem UU (y N:Nat):(y+18446744073709551616*N)%2=y%2:=by
 omega
def cT (a:ac):ac:=ofN (a.nat/2)
theorem ZH (a:ac):cT a=⟨aT a.w0 1|||bL a.w1 63,aT a.w1 1|||bL a.w2 63,aT a.w2 1|||bL a.w3 63,aT a.w3 1⟩:=by
 refine ah8 (k:=0) ?_
 rw [Ej,Ej,Ej,Nat.mul_zero,Nat.add_zero]
 unfold Sx.ac.nat
 have e3:(aT a.w3 1).toNat=a.w3.toNat/2:=eI a.w3 1 (by omega)
 rw [Ek,UU,Ek,UU,Ek,e3]
def QB (_:JN):Bool:=true
def VB (x:JN):OT kf.Y:=.ok ⟨Mu,((cT x.1.1,()),())⟩
theorem aok:aa Try.prog 70 (kf.aD QB VB):=adt _ _ λx oy hp ho=>by
 rw [<-ho]
 clear ho
 obtain ⟨⟨a,⟨⟩⟩,⟨⟩⟩:=x
 simp only [VB,ZH]
 rfl
def yO:bI:=(kf.aD QB VB)
theorem Vz:aa Try.prog 70 yO:=aok
theorem Vy:aC yO:=ax
def zW:Env:=av 70 yO Sl
theorem rO:aI Try.prog zW:=ag Vz GQ
theorem Bs:aq zW:=ab Vy GR
theorem GY:aP Try.prog te zW:=aF follows ap rO Bs
def eg:ao:=⟨[.val true .elem,.val false .int],[],true,0,false⟩
abbrev rc:Type:=((ac)×(Int)×Unit)×(Unit)
def l8:Shape:=⟨12,[(2,.ptr 0 0 0),(4,.ptr 1 0 0),(5,.val false .int),(6,.val false .int)],[(0,.row .u64),(1,.row .u64)],0,true⟩
abbrev bF:Type:=((Unit)×(Unit)×(Int)×(Int)×Unit)×((List (UInt64))×(List (UInt64))×Unit)
def kT:Shape:=⟨12,[(2,.ptr 0 0 0),(4,.ptr 1 0 0)],[(0,.row .u64),(1,.row .u64)],0,true⟩
abbrev gz:Type:=((Unit)×(Unit)×Unit)×((List (UInt64))×(List (UInt64))×Unit)
def JL:SE->Option Shape:=kv [(0,kT)] none
def ads (a5:Int) (a6:Int) (c0:List (UInt64)) (c1:List (UInt64)):OT (Sum bF aJ):=
 let z0:Nat:=List.length c0
 let z1:ac:=cT {w0:=List.getD c0 0 0,w1:=List.getD c0 1 0,w2:=List.getD c0 2 0,w3:=List.getD c0 3 0}
 (.br (decide (a6<a5))
 (gd [decide (4<=z0),decide ((4/1:Nat)+0<=z0),inR (a6+(1:Int))] (.ok (.inl (((),((),(a5,(a6+(1:Int),())))),(List.set (List.set (List.set (List.set c0 0 z1.w0) 1 z1.w1) 2 z1.w2) 3 z1.w3,(c1,()))))))
 (.ok (.inr ⟨(.exit 0,kT),(((),((),())),(c0,(c1,())))⟩)))
def ma (s:bF):OT (Sum bF aJ):=ads (s.1.2.2.1) (s.1.2.2.2.1) (s.2.1) (s.2.2.1)
theorem adp (s:bF) (Q:Sum bF aJ->Prop):wps te zW ay 1000 (bk (al Try.f67) 0) (l8.inj s) (cO l8 JL (Q:Sum l8.T aJ->Prop))=(ma s).wpR Q:=by kernel_rfl
def rb (g0_0:bF->gz) (s:bF):OT aJ:=(.ok ⟨(.exit 0,kT),g0_0 s⟩)
def l9:ar:=⟨[.val true .elem],[],false⟩
def EL:SV->Option ar:=λ_=>some l9
def EN (ok0:bF->Bool) (g0_0:bF->gz) (a0:ac) (a1:Int):OT eg.Y:=
 let z0:(PUnit×PUnit×Int×Int×PUnit)×List UInt64×List UInt64×PUnit:=(((),(),a1,(0:Int),()),[a0.w0,a0.w1,a0.w2,a0.w3],[(0:UInt64),(0:UInt64),(0:UInt64),(0:UInt64)],())
 let z1:=(g0_0 z0).snd
 let z2:=z1.fst
 let z3:=z1.snd.fst
 let z4:List UInt64:=lay z3 z2 4 (0:UInt64)
 (gd [ok0 z0,decide (4<=List.length z2),decide ((4/1:Nat)+0<=List.length z3),decide (4<=List.length z4)] (.ok ⟨l9,(({w0:=List.getD z4 0 0,w1:=List.getD z4 1 0,w2:=List.getD z4 2 0,w3:=List.getD z4 3 0},()),())⟩))
theorem ajo (ok0:bF->Bool) (g0_0:bF->gz) (x:rc) (Q:eg.Y->Prop):wpf te zW (bu 0 (dq l8 0 ok0 (rb g0_0)) ay) 1000 Try.f67 (eg.inp.inj x).tm (eg.inp.inj x).hp (fnK eg EL Q) (λ_ _=>False)=(EN ok0 g0_0 (x.1.1) (x.1.2.1)).wpR Q:=by kernel_rfl
theorem Qy (ok0:bF->Bool) (g0_0:bF->gz) (h0:∀ s:bF,ok0 s=true->∃ m e,aA (ma) m s=some e/\(rb g0_0 s).run=some e) (pre:rc->Bool) (F:rc->OT eg.Y) (hF:∀ (x:rc) oy,pre x=true->(F x).run=some oy->(EN ok0 g0_0 (x.1.1) (x.1.2.1)).run=some oy):aa Try.prog 67 (eg.aD pre F):=
 aB ap rO GY (f:=67) (fn:=Try.f67) (c:=al Try.f67) (by kernel_rfl) (by kernel_rfl) (by kernel_rfl) (S:=eg) (k:=0) (by kernel_rfl) (λR hR=>(aH (c:=(al Try.f67)) (by kernel_rfl) (id:=0) (by kernel_rfl) (bn ap rO GY (sh:=l8) hR (xs:=JL) (aG (by kernel_rfl) (by kernel_rfl) hR) aV af (n:=1000) (T:=ma) (λs Q=>adp s Q) (ok:=ok0) (f:=rb g0_0) h0) af)) (n:=1000) (sel:=EL) (λv o h=>by cases h;rfl) (pre:=pre) (F:=F) (T:=λx=>EN ok0 g0_0 (x.1.1) (x.1.2.1)) (λx Q=>ajo ok0 g0_0 x Q) hF
def dh (a:ac) (n:Nat):ac:=ofN (a.nat/2^n)
theorem sW (a:ac):∀ n,upto (λ_ e=>cT e) a n=dh a n
 |0=>by
  show a=ofN (a.nat/2^0)
  rw [Nat.pow_zero,Nat.div_one,m9]
 |n+1=>by
  show cT (upto (λ_ e=>cT e) a n)=_
  rw [sW a n]
  unfold cT dh
  have:=gO a
  have h2:a.nat/2^n<=a.nat:=Nat.div_le_self _ _
  rw [iJ (by omega),Nat.div_div_eq_div_mul,<-Nat.pow_succ]
def EM (s:bF):Bool:=decide (s.1.2.2.2.1=0/\0<=s.1.2.2.1/\s.1.2.2.1<=1000000/\s.2.1.length=4)
def JM (s:bF):gz:=(((),(),()),(lst (dh (elemOf s.2.1) s.1.2.2.1.toNat),s.2.2.1,()))
theorem adr:∀ s:bF,EM s=true->∃ m e,aA ma m s=some e/\(rb JM s).run=some e:=by
 rintro ⟨⟨⟨⟩,⟨⟩,k,i,⟨⟩⟩,⟨l,o,⟨⟩⟩⟩ h
 have h':=of_decide_eq_true h
 dsimp only at h'
 obtain ⟨rfl,h0,h1,hl⟩:=h'
 obtain ⟨a,rfl⟩:∃ a,l=lst a:=⟨elemOf l,(aM hl).symm⟩
 have:=(bw (T:=ma) (λi a=>((((),(),k,(i:Int),()),(lst a,o,())):bF)) (λ_ e=>cT e)
  (λa=>(⟨(.exit 0,kT),(((),(),()),(lst a,o,()))⟩:aJ)) k.toNat a (λ_ _=>True) trivial (λi a hi _=>⟨?_,trivial⟩) (λa _=> ?_)).1
 ·rw [sW] at this
  obtain ⟨m,hm⟩:=this
  exact ⟨m,_,hm,rfl⟩
 ·refine (OT.au (decide_eq_true (by dsimp only;omega))).trans ((ah ?_).trans rfl)
  simp only [List.all_cons,List.all_nil,Bool.and_true,Bool.and_eq_true]
  exact ⟨rfl,rfl,aS (by omega)⟩
 ·exact OT.aw (decide_eq_false (by dsimp only;omega))
def nw (x:rc):Bool:=decide (0<=x.1.2.1/\x.1.2.1<=1000000)
def Qz (x:rc):OT eg.Y:=.ok ⟨l9,((dh x.1.1 x.1.2.1.toNat,()),())⟩
theorem adq:aa Try.prog 67 (eg.aD nw Qz):=Qy EM JM adr _ _ λx oy hp ho=>by
 rw [<-ho]
 clear ho
 obtain ⟨⟨a,k,⟨⟩⟩,⟨⟩⟩:=x
 have hp':0<=k/\k<=1000000:=of_decide_eq_true hp
 refine (ah ?_).trans ?_
 ·simp only [List.all_cons,List.all_nil,Bool.and_true,Bool.and_eq_true]
  exact ⟨decide_eq_true ⟨rfl,hp'.1,hp'.2,rfl⟩,rfl,rfl,rfl⟩
 ·show some (⟨l9,((elemOf (lay [0,0,0,0] (lst (dh a k.toNat)) 4 0),()),())⟩:eg.Y)=some ⟨l9,((dh a k.toNat,()),())⟩
  rw [auc _ _ rfl rfl]
  rfl
def pk:bI:=(eg.aD nw Qz)
theorem Mt:aa Try.prog 67 pk:=adq
theorem Ms:aC pk:=ax
def mv:Env:=av 67 pk zW
theorem k8:aI Try.prog mv:=ag Mt rO
theorem se:aq mv:=ab Ms Bs
theorem wO:aP Try.prog te mv:=aF follows ap k8 se
end Go.Proofs.Ythgjhpbapddpnaa

namespace Go.Proofs.Ythgjhpbapddpnaa
open Sx Go
def dw (k:ac):Bool:=(k.w0==0&&(k.w1==0&&(k.w2==0&&(k.w3==0&&true))))
def av9 (k:ac):Bool:=(k.w0&&&1==1)
theorem jl (k:ac):dw k=Nat.beq k.nat 0:=by
 unfold dw Sx.ac.nat
 have e:∀ x:UInt64,(x==0)=decide (x.toNat=0):=λx=>by
  by_cases h:x=0
  ·subst h;rfl
  ·have h':¬x.toNat=0:=λh'=>h (UInt64.toNat_inj.1 h')
   rw [decide_eq_false h']
   simpa using h
 rw [e,e,e,e]
 generalize k.w0.toNat=a
 generalize k.w1.toNat=b
 generalize k.w2.toNat=c
 generalize k.w3.toNat=d
 by_cases h:a=0/\b=0/\c=0/\d=0
 ·obtain ⟨rfl,rfl,rfl,rfl⟩:=h
  rfl
 ·have h1:¬(a+18446744073709551616*(b+18446744073709551616*(c+18446744073709551616*d))=0):=λh1=>h (by omega)
  have h2:Nat.beq (a+18446744073709551616*(b+18446744073709551616*(c+18446744073709551616*d))) 0=false:=by
   cases hb:Nat.beq (a+18446744073709551616*(b+18446744073709551616*(c+18446744073709551616*d))) 0
   ·rfl
   ·exact absurd (Nat.eq_of_beq_eq_true hb) h1
  rw [h2]
  by_cases ha:a=0
  ·by_cases hb:b=0
   ·by_cases hc:c=0
    ·have hd:¬d=0:=λhd=>h ⟨ha,hb,hc,hd⟩
     simp [hd]
    ·simp [hc]
   ·simp [hb]
  ·simp [ha]
theorem anz (k:ac):av9 k=Nat.beq (k.nat%2) 1:=by
 have e:(k.w0&&&1).toNat=k.w0.toNat%2:=by
  rw [UInt64.toNat_and]
  exact Nat.and_two_pow_sub_one_eq_mod k.w0.toNat 1
 have e2:k.nat%2=k.w0.toNat%2:=by
  unfold Sx.ac.nat
  rw [UU]
 rw [e2,<-e]
 unfold av9
 by_cases h:k.w0&&&1=1
 ·rw [h];rfl
 ·have h':¬(k.w0&&&1).toNat=1:=λh'=>h (UInt64.toNat_inj.1 h')
  have h2:Nat.beq (k.w0&&&1).toNat 1=false:=by
   cases hb:Nat.beq (k.w0&&&1).toNat 1
   ·rfl
   ·exact absurd (Nat.eq_of_beq_eq_true hb) h'
  rw [h2]
  simpa using h
theorem P8 (k:ac):(cT k).nat=k.nat/2:=by
 have:=gO k
 exact iJ (by omega)
def ans (p:Nat):Nat->ac->ac->ac->ac
 |0,o,_,_=>o
 |n+1,o,x,k=>cond (dw k) o (ans p n (cond (av9 k) (cQ p o x) o) (cQ p x x) (cT k))
def apF (p:Nat):Nat->Nat->Nat->Nat->Nat
 |0,o,_,_=>o
 |n+1,o,x,k=>cond (Nat.beq k 0) o (apF p n (cond (Nat.beq (k%2) 1) (o*x%p) o) (x*x%p) (k/2))
theorem ahZ {p:Nat} (hp:0<p/\p<57896044618658097711785492504343953926634992332820282019728792003956564819968):∀ (n:Nat) (o x k:ac),ans p n o x k=ofN (apF p n o.nat x.nat k.nat)
 |0,o,x,k=>(m9 o).symm
 |n+1,o,x,k=>by
  have e:∀ a b:ac,(cQ p a b).nat=a.nat*b.nat%p:=λa b=>cj hp
  simp only [ans,apF,jl,anz]
  cases Nat.beq k.nat 0
  ·simp only [cond_false]
   rw [ahZ hp n,e,P8]
   cases Nat.beq (k.nat%2) 1
   ·rfl
   ·simp only [cond_true,e]
  ·simp only [cond_true]
   exact (m9 o).symm
def fS (p:Nat) (a k:ac):ac:=cond (Nat.beq p 0) ⟨0,0,0,0⟩ (ofN (apF p 256 1 (a.nat%p) k.nat))
theorem MD {p:Nat} (hp:0<p) (a k:ac):fS p a k=ofN (apF p 256 1 (a.nat%p) k.nat):=by
 unfold fS
 cases p with
 |zero=>exact absurd hp (Nat.lt_irrefl _)
 |succ p=>rfl
end Go.Proofs.Ythgjhpbapddpnaa

namespace Go.Proofs.Ythgjhpbapddpnaa
open Sx Go
set_option maxRecDepth 100000
def kU:ao:=⟨[.val false .int,.val true .elem,.val true .elem],[],true,0,false⟩
abbrev QC:Type:=((Int)×(ac)×(ac)×Unit)×(Unit)
def EP:Shape:=⟨40,[(4,.ptr 0 0 0),(5,.ptr 1 0 0),(6,.ptr 2 0 0),(7,.ptr 3 0 0),(9,.ptr 4 0 0)],[(0,.row .u64),(1,.row .u64),(2,.row .u64),(3,.cells [.val false .u64,.val false .u64,.val false .u64,.val false .u64,.val false .int,.val false .u64,.val false .u64,.val false .u64,.val false .u64,.val false .u64,.val false .u64]),(4,.row .u64)],0,true⟩
abbrev da:Type:=((Unit)×(Unit)×(Unit)×(Unit)×(Unit)×Unit)×((List (UInt64))×(List (UInt64))×(List (UInt64))×((UInt64)×(UInt64)×(UInt64)×(UInt64)×(Int)×(UInt64)×(UInt64)×(UInt64)×(UInt64)×(UInt64)×(UInt64)×Unit)×(List (UInt64))×Unit)
def vH:Shape:=⟨40,[(6,.ptr 0 0 0),(9,.ptr 1 0 0)],[(0,.row .u64),(1,.row .u64)],0,true⟩
abbrev mc:Type:=((Unit)×(Unit)×Unit)×((List (UInt64))×(List (UInt64))×Unit)
def ajr:SE->Option Shape:=kv [(0,vH)] none
def atx (c0:List (UInt64)) (c1:List (UInt64)) (c2:List (UInt64)) (c3_0:UInt64) (c3_1:UInt64) (c3_2:UInt64) (c3_3:UInt64) (c3_4:Int) (c3_5:UInt64) (c3_6:UInt64) (c3_7:UInt64) (c3_8:UInt64) (c3_9:UInt64) (c3_10:UInt64) (c4:List (UInt64)):OT (Sum da aJ):=
 let z0:Nat:=List.length c1
 let z1:Bool:=decide (4<=z0)
 let z2:UInt64:=List.getD c1 0 0
 let z3:UInt64:=List.getD c1 1 0
 let z4:UInt64:=List.getD c1 2 0
 let z5:UInt64:=List.getD c1 3 0
 let z6:Nat:=List.length c4
 let z7:Nat:=List.length c0
 let z8:Bool:=decide (4<=z7)
 let z9:ac:= {w0:=c3_0,w1:=c3_1,w2:=c3_2,w3:=c3_3}
 let z10:ac×Int×UInt64×UInt64×ac:=(z9,c3_4,c3_5,c3_6,{w0:=c3_7,w1:=c3_8,w2:=c3_9,w3:=c3_10})
 let z11:ac:= {w0:=List.getD c4 0 0,w1:=List.getD c4 1 0,w2:=List.getD c4 2 0,w3:=List.getD c4 3 0}
 let z12:ac:= {w0:=List.getD c0 0 0,w1:=List.getD c0 1 0,w2:=List.getD c0 2 0,w3:=List.getD c0 3 0}
 let z13:ac×PUnit:=(z12,())
 let z14:Bool:=eW ((z10,z12,z13),())
 let z15:Bool:=decide ((4/1:Nat)+0<=z7)
 let z16:Bool:=decide ((4/1:Nat)+0<=z0)
 let z17:Nat:=ac.nat z9
 let z18:ac:=cQ z17 z12 z12
 let z19:List UInt64:=List.set (List.set (List.set (List.set c0 0 z18.w0) 1 z18.w1) 2 z18.w2) 3 z18.w3
 let z20:ac:=cT {w0:=z2,w1:=z3,w2:=z4,w3:=z5}
 let z21:List UInt64:=List.set (List.set (List.set (List.set c1 0 z20.w0) 1 z20.w1) 2 z20.w2) 3 z20.w3
 let z22:ac:=cQ z17 z11 z12
 (gd [z1] (.br (!(z2==(0:UInt64)&&(z3==(0:UInt64)&&(z4==(0:UInt64)&&(z5==(0:UInt64)&&true)))))
 (gd [decide (0<z0)] (.br (z2&&&(1:UInt64)==(1:UInt64))
  (gd [decide (4<=z6),z8,eW ((z10,z11,z13),()),decide ((4/1:Nat)+0<=z6),z8,z8,z14,z15,z1,z16] (.ok (.inl (((),((),((),((),((),()))))),(z19,(z21,(c2,((c3_0,(c3_1,(c3_2,(c3_3,(c3_4,(c3_5,(c3_6,(c3_7,(c3_8,(c3_9,(c3_10,()))))))))))),(List.set (List.set (List.set (List.set c4 0 z22.w0) 1 z22.w1) 2 z22.w2) 3 z22.w3,())))))))))
  (gd [z8,z8,z14,z15,z1,z16] (.ok (.inl (((),((),((),((),((),()))))),(z19,(z21,(c2,((c3_0,(c3_1,(c3_2,(c3_3,(c3_4,(c3_5,(c3_6,(c3_7,(c3_8,(c3_9,(c3_10,()))))))))))),(c4,())))))))))))
 (.ok (.inr ⟨(.exit 0,vH),(((),((),())),(c2,(c4,())))⟩))))
def EQ (s:da):OT (Sum da aJ):=atx (s.2.1) (s.2.2.1) (s.2.2.2.1) (s.2.2.2.2.1.1) (s.2.2.2.2.1.2.1) (s.2.2.2.2.1.2.2.1) (s.2.2.2.2.1.2.2.2.1) (s.2.2.2.2.1.2.2.2.2.1) (s.2.2.2.2.1.2.2.2.2.2.1) (s.2.2.2.2.1.2.2.2.2.2.2.1) (s.2.2.2.2.1.2.2.2.2.2.2.2.1) (s.2.2.2.2.1.2.2.2.2.2.2.2.2.1) (s.2.2.2.2.1.2.2.2.2.2.2.2.2.2.1) (s.2.2.2.2.1.2.2.2.2.2.2.2.2.2.2.1) (s.2.2.2.2.2.1)
theorem atv (s:da) (Q:Sum da aJ->Prop):wps te mv ay 1000 (bk (al Try.f68) 0) (EP.inj s) (cO EP ajr (Q:Sum EP.T aJ->Prop))=(EQ s).wpR Q:=by kernel_rfl
def Mw (g0_0:da->mc) (s:da):OT aJ:=(.ok ⟨(.exit 0,vH),g0_0 s⟩)
def yQ:ar:=⟨[.val true .elem],[],false⟩
def Z4:SV->Option ar:=λ_=>some yQ
def ajw (ok0:da->Bool) (g0_0:da->mc) (a0:Int) (a1:ac) (a2:ac):OT kU.Y:=
 let z0:ac×Int×UInt64×UInt64×ac:=aL (Int.toNat a0)
 let z1:=z0.fst
 let z2:ac:=ofN (ac.nat a1%ac.nat z1)
 let z3:=z0.snd
 let z4:=z3.snd
 let z5:=z4.snd
 let z6:=z5.snd
 let z7:(PUnit×PUnit×PUnit×PUnit×PUnit×PUnit)×List UInt64×List UInt64×List UInt64×(UInt64×UInt64×UInt64×UInt64×Int×UInt64×UInt64×UInt64×UInt64×UInt64×UInt64×PUnit)×List UInt64×PUnit:=(((),(),(),(),(),()),[z2.w0,z2.w1,z2.w2,z2.w3],[a2.w0,a2.w1,a2.w2,a2.w3],[(0:UInt64),(0:UInt64),(0:UInt64),(0:UInt64)],(z1.w0,z1.w1,z1.w2,z1.w3,z3.fst,z4.fst,z5.fst,z6.w0,z6.w1,z6.w2,z6.w3,()),[(1:UInt64),(0:UInt64),(0:UInt64),(0:UInt64)],())
 let z8:=(g0_0 z7).snd
 let z9:=z8.snd.fst
 let z10:=z8.fst
 let z11:List UInt64:=lay z10 z9 4 (0:UInt64)
 (.br (ak a0)
 (gd [fg ((z0,a1,()),()),ok0 z7,decide (4<=List.length z9),decide ((4/1:Nat)+0<=List.length z10),decide (4<=List.length z11)] (.ok ⟨yQ,(({w0:=List.getD z11 0 0,w1:=List.getD z11 1 0,w2:=List.getD z11 2 0,w3:=List.getD z11 3 0},()),())⟩))
 (.ok ⟨yQ,(({w0:=0,w1:=0,w2:=0,w3:=0},()),())⟩))
theorem avI (ok0:da->Bool) (g0_0:da->mc) (x:QC) (Q:kU.Y->Prop):wpf te mv (bu 0 (dq EP 0 ok0 (Mw g0_0)) ay) 1000 Try.f68 (kU.inp.inj x).tm (kU.inp.inj x).hp (fnK kU Z4 Q) (λ_ _=>False)=(ajw ok0 g0_0 (x.1.1) (x.1.2.1) (x.1.2.2.1)).wpR Q:=by kernel_rfl
theorem ajt (ok0:da->Bool) (g0_0:da->mc) (h0:∀ s:da,ok0 s=true->∃ m e,aA (EQ) m s=some e/\(Mw g0_0 s).run=some e) (pre:QC->Bool) (F:QC->OT kU.Y) (hF:∀ (x:QC) oy,pre x=true->(F x).run=some oy->(ajw ok0 g0_0 (x.1.1) (x.1.2.1) (x.1.2.2.1)).run=some oy):aa Try.prog 68 (kU.aD pre F):=
 aB ap k8 wO (f:=68) (fn:=Try.f68) (c:=al Try.f68) (by kernel_rfl) (by kernel_rfl) (by kernel_rfl) (S:=kU) (k:=0) (by kernel_rfl) (λR hR=>(aH (c:=(al Try.f68)) (by kernel_rfl) (id:=0) (by kernel_rfl) (bn ap k8 wO (sh:=EP) hR (xs:=ajr) (aG (by kernel_rfl) (by kernel_rfl) hR) aV af (n:=1000) (T:=EQ) (λs Q=>atv s Q) (ok:=ok0) (f:=Mw g0_0) h0) af)) (n:=1000) (sel:=Z4) (λv o h=>by cases h;rfl) (pre:=pre) (F:=F) (T:=λx=>ajw ok0 g0_0 (x.1.1) (x.1.2.1) (x.1.2.2.1)) (λx Q=>avI ok0 g0_0 x Q) hF
theorem aju {x0 x1 x2 x3 x5 x6 x7 x8 x9 x10:UInt64} {x4:Int} {c2:List UInt64} (hn:iI (⟨x0,x1,x2,x3⟩,x4,x5,x6,⟨x7,x8,x9,x10⟩)=true):∀ (n:Nat) (o x k:ac),k.nat<2^n->
 ∃ m,aA EQ m (((),(),(),(),(),()),(lst x,lst k,c2,(x0,x1,x2,x3,x4,x5,x6,x7,x8,x9,x10,()),lst o,()))=some ⟨(.exit 0,vH),(((),(),()),(c2,lst (ans (ac.mk x0 x1 x2 x3).nat n o x k),()))⟩:=by
 intro n
 induction n with
 |zero=>
  intro o x k hk
  have hz:(!dw k)=false:=by
   rw [jl,show k.nat=0 by omega]
   rfl
  exact ⟨1,bt ((ah rfl).trans (OT.aw hz))⟩
 |succ n ih=>
  intro o x k hk
  cases hz:dw k
  ·have hk2:(cT k).nat<2^n:=by
    rw [P8]
    rw [Nat.pow_succ] at hk
    omega
   have hz':(!dw k)=true:=by rw [hz];rfl
   cases ho:av9 k
   ·obtain ⟨m,hm⟩:=ih o (cQ (ac.mk x0 x1 x2 x3).nat x x) (cT k) hk2
    simp only [ans,hz,ho,cond_false]
    refine ⟨m+1,aU ?_ hm⟩
    refine (ah rfl).trans ((OT.au hz').trans ((ah rfl).trans ((OT.aw ho).trans ((ah ?_).trans rfl))))
    simp only [List.all_cons,List.all_nil,Bool.and_true,Bool.and_eq_true]
    exact ⟨rfl,rfl,hn,rfl,rfl,rfl⟩
   ·obtain ⟨m,hm⟩:=ih (cQ (ac.mk x0 x1 x2 x3).nat o x) (cQ (ac.mk x0 x1 x2 x3).nat x x) (cT k) hk2
    simp only [ans,hz,ho,cond_false,cond_true]
    refine ⟨m+1,aU ?_ hm⟩
    refine (ah rfl).trans ((OT.au hz').trans ((ah rfl).trans ((OT.au ho).trans ((ah ?_).trans rfl))))
    simp only [List.all_cons,List.all_nil,Bool.and_true,Bool.and_eq_true]
    exact ⟨rfl,rfl,hn,rfl,rfl,rfl,hn,rfl,rfl,rfl⟩
  ·simp only [ans,hz,cond_true]
   have hz':(!dw k)=false:=by rw [hz];rfl
   exact ⟨1,bt ((ah rfl).trans (OT.aw hz'))⟩
def awv (s:da):HT:=(⟨s.2.2.2.2.1.1,s.2.2.2.2.1.2.1,s.2.2.2.2.1.2.2.1,s.2.2.2.2.1.2.2.2.1⟩,s.2.2.2.2.1.2.2.2.2.1,s.2.2.2.2.1.2.2.2.2.2.1,s.2.2.2.2.1.2.2.2.2.2.2.1,⟨s.2.2.2.2.1.2.2.2.2.2.2.2.1,s.2.2.2.2.1.2.2.2.2.2.2.2.2.1,s.2.2.2.2.1.2.2.2.2.2.2.2.2.2.1,s.2.2.2.2.1.2.2.2.2.2.2.2.2.2.2.1⟩)
def Mv (s:da):Bool:=iI (awv s)&&decide (s.2.1.length=4/\s.2.2.1.length=4/\s.2.2.2.2.2.1.length=4)
def ajv (s:da):mc:=(((),(),()),(s.2.2.2.1,lst (ans (awv s).1.nat 256 (elemOf s.2.2.2.2.2.1) (elemOf s.2.1) (elemOf s.2.2.1)),()))
theorem atw:∀ s:da,Mv s=true->∃ m e,aA EQ m s=some e/\(Mw ajv s).run=some e:=by
 rintro ⟨⟨⟨⟩,⟨⟩,⟨⟩,⟨⟩,⟨⟩,⟨⟩⟩,⟨c0,c1,c2,⟨x0,x1,x2,x3,x4,x5,x6,x7,x8,x9,x10,⟨⟩⟩,c4,⟨⟩⟩⟩ h
 simp only [Mv,Bool.and_eq_true,decide_eq_true_eq,awv] at h
 obtain ⟨hn,h0,h1,h4⟩:=h
 obtain ⟨x,rfl⟩:∃ a,c0=lst a:=⟨elemOf c0,(aM h0).symm⟩
 obtain ⟨k,rfl⟩:∃ a,c1=lst a:=⟨elemOf c1,(aM h1).symm⟩
 obtain ⟨o,rfl⟩:∃ a,c4=lst a:=⟨elemOf c4,(aM h4).symm⟩
 obtain ⟨m,hm⟩:=aju (c2:=c2) hn 256 o x k (gO k)
 exact ⟨m,_,hm,rfl⟩
def Z5 (_:QC):Bool:=true
def apX (x:QC):OT kU.Y:=.br (ak x.1.1) (.ok ⟨yQ,((fS (pS x.1.1) x.1.2.1 x.1.2.2.1,()),())⟩) (.ok ⟨yQ,((⟨0,0,0,0⟩,()),())⟩)
theorem aom {p:Nat} (hp:0<p/\p<57896044618658097711785492504343953926634992332820282019728792003956564819968) (a k:ac):elemOf (lay [0,0,0,0] (lst (ans p 256 ⟨1,0,0,0⟩ (ofN (a.nat%p)) k)) 4 0)=fS p a k:=by
 rw [auc _ _ rfl rfl,adK,ahZ hp,cj hp,MD hp.1]
 rfl
theorem ajs:aa Try.prog 68 (kU.aD Z5 apX):=ajt Mv ajv atw _ _ λx oy hp ho=>by
 rw [<-ho]
 clear ho
 obtain ⟨⟨s,a,k,⟨⟩⟩,⟨⟩⟩:=x
 cases hs:ak s
 ·exact (OT.aw hs).trans (OT.aw (b:=ak s) hs).symm
 ·have hn:=gu hs
  have hfin:=aom (iT hs) a k
  have hn2:iI (aL s.toNat)=true:=hn
  refine (OT.au hs).trans (Eq.trans ?_ (OT.au (b:=ak s) hs).symm)
  simp only [<-hfin]
  refine (ah ?_).trans rfl
  simp only [List.all_cons,List.all_nil,Bool.and_true,Bool.and_eq_true]
  refine ⟨hn,?_,rfl,rfl,rfl⟩
  show (iI _&&decide _)=true
  rw [Bool.and_eq_true]
  exact ⟨hn,decide_eq_true ⟨rfl,rfl,rfl⟩⟩
def EO:bI:=(kU.aD Z5 apX)
theorem adv:aa Try.prog 68 EO:=ajs
theorem adu:aC EO:=ax
def So:Env:=av 68 EO mv
theorem GZ:aI Try.prog So:=ag adv k8
theorem G0:aq So:=ab adu se
theorem aeC:aP Try.prog te So:=aF follows ap GZ G0
def pj:ao:=⟨[.val false .int,.val true .elem],[],true,0,false⟩
abbrev ado:Type:=((Int)×(ac)×Unit)×(Unit)
def pi:ar:=⟨[.val true .elem,.val false .int],[],false⟩
def Z2:SV->Option ar:=λ_=>some pi
def ajn (a0:Int) (a1:ac):OT pj.Y:=
 let z0:Bool:=ak a0
 let z1:ac×Int×UInt64×UInt64×ac:=aL (Int.toNat a0)
 let z2:=z1.fst
 let z3:ac:=ofN (ac.nat a1%ac.nat z2)
 let z4:ac:= {w0:=0,w1:=0,w2:=0,w3:=0}
 (.br (z0)
 (gd [fg ((z1,a1,()),())] (.br (z3.w0==(0:UInt64)&&(z3.w1==(0:UInt64)&&(z3.w2==(0:UInt64)&&(z3.w3==(0:UInt64)&&true))))
  (.ok ⟨pi,((z4,((10:Int),())),())⟩)
  (.br (z0)
   (.ok ⟨pi,((fS (pS a0) a1 (fo z2 {w0:=2,w1:=0,w2:=0,w3:=0}).fst,((0:Int),())),())⟩)
   (.ok ⟨pi,((z4,((0:Int),())),())⟩))))
 (.ok ⟨pi,((z4,((20:Int),())),())⟩))
theorem avH (x:ado) (Q:pj.Y->Prop):wpf te So ay 1000 Try.f90 (pj.inp.inj x).tm (pj.inp.inj x).hp (fnK pj Z2 Q) (λ_ _=>False)=(ajn (x.1.1) (x.1.2.1)).wpR Q:=by kernel_rfl
theorem ajm (pre:ado->Bool) (F:ado->OT pj.Y) (hF:∀ (x:ado) oy,pre x=true->(F x).run=some oy->(ajn (x.1.1) (x.1.2.1)).run=some oy):aa Try.prog 90 (pj.aD pre F):=
 aB ap GZ aeC (f:=90) (fn:=Try.f90) (c:=al Try.f90) (by kernel_rfl) (by kernel_rfl) (by kernel_rfl) (S:=pj) (k:=0) (by kernel_rfl) (λR hR=>af) (n:=1000) (sel:=Z2) (λv o h=>by cases h;rfl) (pre:=pre) (F:=F) (T:=λx=>ajn (x.1.1) (x.1.2.1)) (λx Q=>avH x Q) hF
def awp (p:Nat) (a:ac):ac:=ofN (apF p 256 1 (a.nat%p) (p-2))
theorem apH {s:Int} (h:ak s=true):2<=pS s:=by
 rcases bD h with rfl|rfl|rfl|rfl<;>decide+kernel
theorem as4 {s:Int} (h:ak s=true) (a:ac):fS (pS s) a (fo (aL s.toNat).1 ⟨2,0,0,0⟩).1=awp (pS s) a:=by
 rw [MD (iT h).1]
 unfold awp
 have h2:2<=(aL s.toNat).1.nat:=apH h
 rw [kC (show (ac.mk 2 0 0 0).nat<=_ from h2)]
 rfl
theorem ald {p:Nat} (hp:0<p/\p<57896044618658097711785492504343953926634992332820282019728792003956564819968) (n:Nat):dw (ofN (n%p))=Nat.beq (n%p) 0:=by
 rw [jl,cj hp]
def Z3 (_:ado):Bool:=true
def apW (x:ado):OT pj.Y:=.br (ak x.1.1) (.br (Nat.beq (x.1.2.1.nat%pS x.1.1) 0) (.ok ⟨pi,((⟨0,0,0,0⟩,((10:Int),())),())⟩) (.ok ⟨pi,((awp (pS x.1.1) x.1.2.1,((0:Int),())),())⟩))
 (.ok ⟨pi,((⟨0,0,0,0⟩,((20:Int),())),())⟩)
theorem att:aa Try.prog 90 (pj.aD Z3 apW):=ajm _ _ λx oy hp ho=>by
 rw [<-ho]
 clear ho
 obtain ⟨⟨s,a,⟨⟩⟩,⟨⟩⟩:=x
 cases hs:ak s
 ·exact (OT.aw hs).trans (OT.aw (b:=ak s) hs).symm
 ·have hz:dw (ofN (a.nat%pS s))=Nat.beq (a.nat%pS s) 0:=ald (iT hs) _
  refine (OT.au hs).trans (Eq.trans ((ah ?_).trans ?_) (OT.au (b:=ak s) hs).symm)
  ·simp only [List.all_cons,List.all_nil,Bool.and_true]
   exact gu hs
  ·cases hb:Nat.beq (a.nat%pS s) 0
   ·rw [hb] at hz
    refine (OT.aw hz).trans ((OT.au hs).trans (Eq.trans ?_ (OT.aw rfl).symm))
    simp only [as4 hs]
   ·rw [hb] at hz
    exact (OT.au hz).trans (OT.au rfl).symm
def EJ:bI:=(pj.aD Z3 apW)
theorem adn:aa Try.prog 90 EJ:=att
theorem adm:aC EJ:=ax
def Sn:Env:=av 90 EJ So
theorem GW:aI Try.prog Sn:=ag adn GZ
theorem GX:aq Sn:=ab adm G0
theorem aeB:aP Try.prog te Sn:=aF follows ap GW GX
def gG:ao:=⟨[.val false .int],[],true,0,false⟩
abbrev yY:Type:=((Int)×Unit)×(Unit)
def gF:ar:=⟨[.val true .elem,.val false .bool],[],false⟩
def J6:SV->Option ar:=λ_=>some gF
def MQ (a0:Int):OT gG.Y:=
 let z0:ac:= {w0:=5,w1:=0,w2:=0,w3:=0}
 let z1:ac:= {w0:=0,w1:=0,w2:=0,w3:=0}
 (.br (a0==(0:Int))
 (.ok ⟨gF,(({w0:=23,w1:=0,w2:=0,w3:=0},(true,())),())⟩)
 (.br (a0==(1:Int))
  (.ok ⟨gF,(({w0:=21,w1:=0,w2:=0,w3:=0},(true,())),())⟩)
  (.br (a0==(2:Int))
   (.br (a0==(2:Int))
    (.ok ⟨gF,((z0,(true,())),())⟩)
    (.ok ⟨gF,((z1,(false,())),())⟩))
   (.br (a0==(3:Int))
    (.ok ⟨gF,((z0,(true,())),())⟩)
    (.ok ⟨gF,((z1,(false,())),())⟩)))))
theorem aoz (x:yY) (Q:gG.Y->Prop):wpf te Sn ay 1000 Try.f31 (gG.inp.inj x).tm (gG.inp.inj x).hp (fnK gG J6 Q) (λ_ _=>False)=(MQ (x.1.1)).wpR Q:=by kernel_rfl
theorem V0 (pre:yY->Bool) (F:yY->OT gG.Y) (hF:∀ (x:yY) oy,pre x=true->(F x).run=some oy->(MQ (x.1.1)).run=some oy):aa Try.prog 31 (gG.aD pre F):=
 aB ap GW aeB (f:=31) (fn:=Try.f31) (c:=al Try.f31) (by kernel_rfl) (by kernel_rfl) (by kernel_rfl) (S:=gG) (k:=0) (by kernel_rfl) (λR hR=>af) (n:=1000) (sel:=J6) (λv o h=>by cases h;rfl) (pre:=pre) (F:=F) (T:=λx=>MQ (x.1.1)) (λx Q=>aoz x Q) hF
def bOf:Nat->ac
 |0=>⟨23,0,0,0⟩
 |1=>⟨21,0,0,0⟩
 |_=>⟨5,0,0,0⟩
abbrev bS (s:Int):ac:=bOf s.toNat
def J7 (_:yY):Bool:=true
def aap (x:yY):OT gG.Y:=.br (ak x.1.1) (.ok ⟨gF,((bS x.1.1,(true,())),())⟩) (.ok ⟨gF,((⟨0,0,0,0⟩,(false,())),())⟩)
theorem akc:aa Try.prog 31 (gG.aD J7 aap):=V0 _ _ λx oy _ ho=>by
 rw [<-ho]
 clear ho
 obtain ⟨⟨s,⟨⟩⟩,⟨⟩⟩:=x
 cases hs:ak s
 ·obtain ⟨h0,h1,h2,h3⟩:=qw hs
  exact (OT.aw h0).trans ((OT.aw h1).trans ((OT.aw h2).trans ((OT.aw h3).trans (OT.aw (b:=ak s) hs).symm)))
 ·rcases bD hs with h|h|h|h
  all_goals
   have h:s=_:=h
   subst h
   rfl
def td:bI:=(gG.aD J7 aap)
theorem Q7:aa Try.prog 31 td:=akc
theorem Q6:aC td:=ax
def wU:Env:=av 31 td Sn
theorem tH:aI Try.prog wU:=ag Q7 GW
theorem wT:aq wU:=ab Q6 GX
theorem Su:aP Try.prog te wU:=aF follows ap tH wT
def pC:ao:=⟨[],[],true,0,false⟩
abbrev adT:Type:=(Unit)×(Unit)
def VT:ar:=⟨[.val true (.prod .elem (.prod .elem .bool))],[],false⟩
def aam:SV->Option ar:=λ_=>some VT
def aj6:OT pC.Y:=
 let z0:ac:= {w0:=0,w1:=0,w2:=0,w3:=0}
 (.ok ⟨VT,(((z0,z0,true),()),())⟩)
theorem avR (x:adT) (Q:pC.Y->Prop):wpf te wU ay 1000 Try.f27 (pC.inp.inj x).tm (pC.inp.inj x).hp (fnK pC aam Q) (λ_ _=>False)=(aj6).wpR Q:=by kernel_rfl
theorem aj5 (pre:adT->Bool) (F:adT->OT pC.Y) (hF:∀ (x:adT) oy,pre x=true->(F x).run=some oy->(aj6).run=some oy):aa Try.prog 27 (pC.aD pre F):=
 aB ap tH Su (f:=27) (fn:=Try.f27) (c:=al Try.f27) (by kernel_rfl) (by kernel_rfl) (by kernel_rfl) (S:=pC) (k:=0) (by kernel_rfl) (λR hR=>af) (n:=1000) (sel:=aam) (λv o h=>by cases h;rfl) (pre:=pre) (F:=F) (T:=λx=>aj6) (λx Q=>avR x Q) hF
def AD:ac×(ac×Bool):=(⟨0,0,0,0⟩,⟨0,0,0,0⟩,true)
def aan (_:adT):Bool:=true
def ap2 (_:adT):OT pC.Y:=.ok ⟨VT,((AD,()),())⟩
theorem atP:aa Try.prog 27 (pC.aD aan ap2):=aj5 _ _ λx oy _ ho=>ho
def Fc:bI:=(pC.aD aan ap2)
theorem adR:aa Try.prog 27 Fc:=atP
theorem adQ:aC Fc:=ax
def Ss:Env:=av 27 Fc wU
theorem G6:aI Try.prog Ss:=ag adR tH
theorem G7:aq Ss:=ab adQ wT
theorem aeE:aP Try.prog te Ss:=aF follows ap G6 G7
def kh:ao:=⟨[.val false .int,.val true .elem,.val true .elem],[],true,0,false⟩
abbrev J5:Type:=((Int)×(ac)×(ac)×Unit)×(Unit)
def ij:ar:=⟨[.val true .elem],[],false⟩
def Q5:SV->Option ar:=λ_=>some ij
def VZ (a0:Int) (a1:ac) (a2:ac):OT kh.Y:=
 let z0:Bool:=ak a0
 let z1:Nat:=pS a0
 let z2:ac:= {w0:=0,w1:=0,w2:=0,w3:=0}
 let z3:ac:=n8 z1 z2 a2
 (.br (z0)
 (.br (z0)
  (.br (z0)
   (.ok ⟨ij,((n8 z1 (cQ z1 (cQ z1 a1 a1) a1) a2,()),())⟩)
   (.ok ⟨ij,((z2,()),())⟩))
  (.br (z0)
   (.ok ⟨ij,((z3,()),())⟩)
   (.ok ⟨ij,((z2,()),())⟩)))
 (.br (z0)
  (.br (z0)
   (.ok ⟨ij,((n8 z1 (cQ z1 z2 a1) a2,()),())⟩)
   (.ok ⟨ij,((z2,()),())⟩))
  (.br (z0)
   (.ok ⟨ij,((z3,()),())⟩)
   (.ok ⟨ij,((z2,()),())⟩))))
theorem atQ (x:J5) (Q:kh.Y->Prop):wpf te Ss ay 1000 Try.f35 (kh.inp.inj x).tm (kh.inp.inj x).hp (fnK kh Q5 Q) (λ_ _=>False)=(VZ (x.1.1) (x.1.2.1) (x.1.2.2.1)).wpR Q:=by kernel_rfl
theorem adV (pre:J5->Bool) (F:J5->OT kh.Y) (hF:∀ (x:J5) oy,pre x=true->(F x).run=some oy->(VZ (x.1.1) (x.1.2.1) (x.1.2.2.1)).run=some oy):aa Try.prog 35 (kh.aD pre F):=
 aB ap G6 aeE (f:=35) (fn:=Try.f35) (c:=al Try.f35) (by kernel_rfl) (by kernel_rfl) (by kernel_rfl) (S:=kh) (k:=0) (by kernel_rfl) (λR hR=>af) (n:=1000) (sel:=Q5) (λv o h=>by cases h;rfl) (pre:=pre) (F:=F) (T:=λx=>VZ (x.1.1) (x.1.2.1) (x.1.2.2.1)) (λx Q=>atQ x Q) hF
def tc (p:Nat) (x b:ac):ac:=n8 p (cQ p (cQ p x x) x) b
def pH (x:J5):Bool:=ak x.1.1
def akb (x:J5):OT kh.Y:=.ok ⟨ij,((tc (pS x.1.1) x.1.2.1 x.1.2.2.1,()),())⟩
theorem aoy:aa Try.prog 35 (kh.aD pH akb):=adV _ _ λx oy hp ho=>by
 rw [<-ho]
 clear ho
 obtain ⟨⟨s,a,b,⟨⟩⟩,⟨⟩⟩:=x
 have hs:ak s=true:=hp
 exact (OT.au hs).trans ((OT.au hs).trans ((OT.au hs).trans rfl))
def yX:bI:=(kh.aD pH akb)
theorem VY:aa Try.prog 35 yX:=aoy
theorem VX:aC yX:=ax
def G9:Env:=av 35 yX Ss
theorem zZ:aI Try.prog G9:=ag VY G6
theorem Bv:aq G9:=ab VX G7
theorem W1:aP Try.prog te G9:=aF follows ap zZ Bv
def BJ:ao:=⟨[.val false .int,.val true (.prod .elem (.prod .elem .bool))],[],true,0,false⟩
abbrev auk:Type:=((Int)×((ac×(ac×Bool)))×Unit)×(Unit)
def r6:ar:=⟨[.val false .bool],[],false⟩
def aj1:SV->Option ar:=λ_=>some r6
def atO (a0:Int) (a1:(ac×(ac×Bool))):OT BJ.Y:=
 let z0:Bool:=ak a0
 let z1:Nat:=ac.nat (aL (Int.toNat a0)).fst
 let z2:ac:=bS a0
 let z3:Bool:=pH ((a0,a1.fst,z2,()),())
 let z4:Nat:=pS a0
 let z5:ac:=cQ z4 a1.snd.fst a1.snd.fst
 let z6:ac:=tc z4 a1.fst z2
 let z7:=z6.w0
 let z8:=z6.w1
 let z9:=z6.w2
 let z10:=z6.w3
 (.br (z0)
 (.br (a1.snd.snd)
  (.ok ⟨r6,((a1.fst.w0==(0:UInt64)&&(a1.fst.w1==(0:UInt64)&&(a1.fst.w2==(0:UInt64)&&(a1.fst.w3==(0:UInt64)&&true)))&&(a1.snd.fst.w0==(0:UInt64)&&(a1.snd.fst.w1==(0:UInt64)&&(a1.snd.fst.w2==(0:UInt64)&&(a1.snd.fst.w3==(0:UInt64)&&true)))&&(a1.snd.snd==true&&true)),()),())⟩)
  (.br (z0)
   (.br (Nat.blt (ac.nat a1.fst) z1)
    (.br (Nat.blt (ac.nat a1.snd.fst) z1)
     (.br (z0)
      (gd [z3] (.ok ⟨r6,((z5.w0==z7&&(z5.w1==z8&&(z5.w2==z9&&(z5.w3==z10&&true))),()),())⟩))
      (gd [z3] (.ok ⟨r6,(((0:UInt64)==z7&&((0:UInt64)==z8&&((0:UInt64)==z9&&((0:UInt64)==z10&&true))),()),())⟩)))
     (.ok ⟨r6,((false,()),())⟩))
    (.ok ⟨r6,((false,()),())⟩))
   (.ok ⟨r6,((false,()),())⟩)))
 (.ok ⟨r6,((false,()),())⟩))
theorem awu (x:auk) (Q:BJ.Y->Prop):wpf te G9 ay 1000 Try.f28 (BJ.inp.inj x).tm (BJ.inp.inj x).hp (fnK BJ aj1 Q) (λ_ _=>False)=(atO (x.1.1) (x.1.2.1)).wpR Q:=by kernel_rfl
theorem aow (pre:auk->Bool) (F:auk->OT BJ.Y) (hF:∀ (x:auk) oy,pre x=true->(F x).run=some oy->(atO (x.1.1) (x.1.2.1)).run=some oy):aa Try.prog 28 (BJ.aD pre F):=
 aB ap zZ W1 (f:=28) (fn:=Try.f28) (c:=al Try.f28) (by kernel_rfl) (by kernel_rfl) (by kernel_rfl) (S:=BJ) (k:=0) (by kernel_rfl) (λR hR=>af) (n:=1000) (sel:=aj1) (λv o h=>by cases h;rfl) (pre:=pre) (F:=F) (T:=λx=>atO (x.1.1) (x.1.2.1)) (λx Q=>awu x Q) hF
def eqE (a b:ac):Bool:=(a.w0==b.w0&&(a.w1==b.w1&&(a.w2==b.w2&&(a.w3==b.w3&&true))))
theorem E7 {a b:ac}:eqE a b=true ↔ a=b:=by
 obtain ⟨a0,a1,a2,a3⟩:=a
 obtain ⟨b0,b1,b2,b3⟩:=b
 simp [eqE]
theorem aor (a:ac):eqE a a=true:=E7.2 rfl
theorem VP (a b:ac):eqE a b=Nat.beq a.nat b.nat:=by
 cases h:eqE a b
 ·cases hb:Nat.beq a.nat b.nat
  ·rfl
  ·rw [E7.2 (jZ (Nat.eq_of_beq_eq_true hb))] at h
   cases h
 ·rw [E7.1 h]
  exact (Nat.beq_refl _).symm
abbrev Pt:Type:=ac×(ac×Bool)
def onB (c:Int) (P:Pt):Bool:=cond (ak c) (cond P.2.2 (dw P.1&&(dw P.2.1&&(P.2.2==true&&true)))
 (cond (Nat.blt P.1.nat (pS c)) (cond (Nat.blt P.2.1.nat (pS c)) (eqE (cQ (pS c) P.2.1 P.2.1) (tc (pS c) P.1 (bS c))) false) false)) false
def aj2 (_:auk):Bool:=true
def avQ (x:auk):OT BJ.Y:=.ok ⟨r6,((onB x.1.1 x.1.2.1,()),())⟩
theorem avP:aa Try.prog 28 (BJ.aD aj2 avQ):=aow _ _ λx oy _ ho=>by
 rw [<-ho]
 clear ho
 obtain ⟨⟨c,⟨X,Y,i⟩,⟨⟩⟩,⟨⟩⟩:=x
 show _=(OT.ok ⟨r6,((onB c (X,Y,i),()),())⟩:OT BJ.Y).run
 unfold onB
 cases hs:ak c
 ·exact OT.aw hs
 ·refine (OT.au hs).trans ?_
  cases i
  ·refine (OT.aw rfl).trans ((OT.au hs).trans ?_)
   cases hx:Nat.blt X.nat (pS c)
   ·exact OT.aw hx
   ·refine (OT.au hx).trans ?_
    cases hy:Nat.blt Y.nat (pS c)
    ·exact OT.aw hy
    ·refine (OT.au hy).trans ((OT.au hs).trans ((ah ?_).trans rfl))
     simp only [List.all_cons,List.all_nil,Bool.and_true]
     exact hs
  ·exact OT.au rfl
theorem LJ {c:Int} {P:Pt} (h:onB c P=true):ak c=true:=by
 unfold onB at h
 cases hs:ak c
 ·rw [hs] at h;cases h
 ·rfl
def MK:bI:=(BJ.aD aj2 avQ)
theorem aj3:aa Try.prog 28 MK:=avP
theorem aj0:aC MK:=ax
def ak7:Env:=av 28 MK G9
theorem ND:aI Try.prog ak7:=ag aj3 zZ
theorem KC:aq ak7:=ab aj0 Bv
theorem ak6:aP Try.prog te ak7:=aF follows ap ND KC
def gj:ao:=⟨[.val false .int],[],true,0,false⟩
abbrev An:Type:=((Int)×Unit)×(Unit)
def iU:ar:=⟨[.val true .elem,.val false .int],[],false⟩
def O6:SV->Option ar:=λ_=>some iU
def Ui (a0:Int):OT gj.Y:=
 (.br (a0==(0:Int))
 (.ok ⟨iU,(({w0:=16513537,w1:=0,w2:=0,w3:=0},((0:Int),())),())⟩)
 (.br (a0==(1:Int))
  (.ok ⟨iU,(({w0:=16521217,w1:=0,w2:=0,w3:=0},((0:Int),())),())⟩)
  (.br (a0==(2:Int))
   (.ok ⟨iU,(({w0:=11037532056220336129,w1:=2469829653914515739,w2:=0,w3:=4611686018427387904},((0:Int),())),())⟩)
   (.br (a0==(3:Int))
    (.ok ⟨iU,(({w0:=10108024940646105089,w1:=2469829653919213789,w2:=0,w3:=4611686018427387904},((0:Int),())),())⟩)
    (.ok ⟨iU,(({w0:=0,w1:=0,w2:=0,w3:=0},((20:Int),())),())⟩)))))
theorem asH (x:An) (Q:gj.Y->Prop):wpf te ak7 ay 1000 Try.f73 (gj.inp.inj x).tm (gj.inp.inj x).hp (fnK gj O6 Q) (λ_ _=>False)=(Ui (x.1.1)).wpR Q:=by kernel_rfl
theorem ab0 (pre:An->Bool) (F:An->OT gj.Y) (hF:∀ (x:An) oy,pre x=true->(F x).run=some oy->(Ui (x.1.1)).run=some oy):aa Try.prog 73 (gj.aD pre F):=
 aB ap ND ak6 (f:=73) (fn:=Try.f73) (c:=al Try.f73) (by kernel_rfl) (by kernel_rfl) (by kernel_rfl) (S:=gj) (k:=0) (by kernel_rfl) (λR hR=>af) (n:=1000) (sel:=O6) (λv o h=>by cases h;rfl) (pre:=pre) (F:=F) (T:=λx=>Ui (x.1.1)) (λx Q=>asH x Q) hF
def O7 (_:An):Bool:=true
def ahH (x:An):OT gj.Y:=.br (ak x.1.1) (.ok ⟨iU,(((aL x.1.1.toNat).1,((0:Int),())),())⟩) (.ok ⟨iU,((⟨0,0,0,0⟩,((20:Int),())),())⟩)
theorem Y2:aa Try.prog 73 (gj.aD O7 ahH):=ab0 _ _ λx oy _ ho=>by
 rw [<-ho]
 clear ho
 obtain ⟨⟨s,⟨⟩⟩,⟨⟩⟩:=x
 cases hs:ak s
 ·obtain ⟨h0,h1,h2,h3⟩:=qw hs
  exact (OT.aw h0).trans ((OT.aw h1).trans ((OT.aw h2).trans ((OT.aw h3).trans (OT.aw (b:=ak s) hs).symm)))
 ·rcases bD hs with h|h|h|h
  all_goals
   have h:s=_:=h
   subst h
   rfl
def yb:bI:=(gj.aD O7 ahH)
theorem Uh:aa Try.prog 73 yb:=Y2
theorem Ug:aC yb:=ax
def Gu:Env:=av 73 yb ak7
theorem zG:aI Try.prog Gu:=ag Uh ND
theorem Bc:aq Gu:=ab Ug KC
theorem WN:aP Try.prog te Gu:=aF follows ap zG Bc
def gq:ao:=⟨[.val false .int],[],true,0,false⟩
abbrev As:Type:=((Int)×Unit)×(Unit)
def m6:ar:=⟨[.val false .int,.val false .int],[],false⟩
def Pm:SV->Option ar:=λ_=>some m6
def UA (a0:Int):OT gq.Y:=
 (.br (decide (a0<(0:Int)))
 (.ok ⟨m6,(((0:Int),((20:Int),())),())⟩)
 (.br (decide ((3:Int)<a0))
  (.ok ⟨m6,(((0:Int),((20:Int),())),())⟩)
  (gd [inB a0 4,decide (Int.toNat a0+0<4)] (.ok ⟨m6,((List.getD [(9:Int),(11:Int),(32:Int),(32:Int)] (Int.toNat a0+0) (0:Int),((0:Int),())),())⟩))))
theorem asK (x:As) (Q:gq.Y->Prop):wpf te Gu ay 1000 Try.f79 (gq.inp.inj x).tm (gq.inp.inj x).hp (fnK gq Pm Q) (λ_ _=>False)=(UA (x.1.1)).wpR Q:=by kernel_rfl
theorem ace (pre:As->Bool) (F:As->OT gq.Y) (hF:∀ (x:As) oy,pre x=true->(F x).run=some oy->(UA (x.1.1)).run=some oy):aa Try.prog 79 (gq.aD pre F):=
 aB ap zG WN (f:=79) (fn:=Try.f79) (c:=al Try.f79) (by kernel_rfl) (by kernel_rfl) (by kernel_rfl) (S:=gq) (k:=0) (by kernel_rfl) (λR hR=>af) (n:=1000) (sel:=Pm) (λv o h=>by cases h;rfl) (pre:=pre) (F:=F) (T:=λx=>UA (x.1.1)) (λx Q=>asK x Q) hF
def Pn (_:As):Bool:=true
def ahR (x:As):OT gq.Y:=.br (ak x.1.1) (.ok ⟨m6,(((aL x.1.1.toNat).2.1,((0:Int),())),())⟩) (.ok ⟨m6,(((0:Int),((20:Int),())),())⟩)
theorem Za:aa Try.prog 79 (gq.aD Pn ahR):=ace _ _ λx oy _ ho=>by
 rw [<-ho]
 clear ho
 obtain ⟨⟨s,⟨⟩⟩,⟨⟩⟩:=x
 rcases (Bool.eq_false_or_eq_true (ak s)).symm with hs|hs
 ·refine Eq.trans ?_ (OT.aw (b:=ak s) hs).symm
  by_cases h0:s<0
  ·exact OT.au (decide_eq_true h0)
  ·refine (OT.aw (decide_eq_false h0)).trans (OT.au (decide_eq_true ?_))
   show (3:Int)<s
   simp only [ak,Bool.and_eq_false_iff,decide_eq_false_iff_not] at hs
   omega
 ·rcases bD hs with h|h|h|h
  all_goals
   have h:s=_:=h
   subst h
   rfl
def yl:bI:=(gq.aD Pn ahR)
theorem Uz:aa Try.prog 79 yl:=Za
theorem Uy:aC yl:=ax
def Gy:Env:=av 79 yl Gu
theorem zK:aI Try.prog Gy:=ag Uz zG
theorem Bh:aq Gy:=ab Uy Bc
theorem WQ:aP Try.prog te Gy:=aF follows ap zK Bh
def iH:ao:=⟨[.val false .int],[],true,0,false⟩
abbrev I3:Type:=((Int)×Unit)×(Unit)
def uT:ar:=⟨[.val false .u64],[],false⟩
def O9:SV->Option ar:=λ_=>some uT
def Ul (a0:Int):OT iH.Y:=
 (.br (a0==(0:Int))
 (.ok ⟨uT,(((16513537:UInt64),()),())⟩)
 (.ok ⟨uT,(((16521217:UInt64),()),())⟩))
theorem asI (x:I3) (Q:iH.Y->Prop):wpf te Gy ay 1000 Try.f51 (iH.inp.inj x).tm (iH.inp.inj x).hp (fnK iH O9 Q) (λ_ _=>False)=(Ul (x.1.1)).wpR Q:=by kernel_rfl
theorem ab5 (pre:I3->Bool) (F:I3->OT iH.Y) (hF:∀ (x:I3) oy,pre x=true->(F x).run=some oy->(Ul (x.1.1)).run=some oy):aa Try.prog 51 (iH.aD pre F):=
 aB ap zK WQ (f:=51) (fn:=Try.f51) (c:=al Try.f51) (by kernel_rfl) (by kernel_rfl) (by kernel_rfl) (S:=iH) (k:=0) (by kernel_rfl) (λR hR=>af) (n:=1000) (sel:=O9) (λv o h=>by cases h;rfl) (pre:=pre) (F:=F) (T:=λx=>Ul (x.1.1)) (λx Q=>asI x Q) hF
def NJ (s:Int):UInt64:=cond (s==0) 16513537 16521217
def Pa (_:I3):Bool:=true
def ahJ (x:I3):OT iH.Y:=.ok ⟨uT,((NJ x.1.1,()),())⟩
theorem anf:aa Try.prog 51 (iH.aD Pa ahJ):=ab5 _ _ λx oy _ ho=>by
 rw [<-ho]
 clear ho
 obtain ⟨⟨s,⟨⟩⟩,⟨⟩⟩:=x
 show _=(OT.ok ⟨uT,((NJ s,()),())⟩:OT iH.Y).run
 unfold NJ
 rcases (Bool.eq_false_or_eq_true (s==0)).symm with h|h
 ·rw [h];exact OT.aw h
 ·rw [h];exact OT.au h
def ye:bI:=(iH.aD Pa ahJ)
theorem Uk:aa Try.prog 51 ye:=anf
theorem Uj:aC ye:=ax
def zH:Env:=av 51 ye Gy
theorem rK:aI Try.prog zH:=ag Uk zK
theorem Be:aq zH:=ab Uj Bh
theorem Gv:aP Try.prog te zH:=aF follows ap rK Be
def dJ:ao:=⟨[.val true .elem,.val true .elem],[],true,0,false⟩
abbrev qL:Type:=((ac)×(ac)×Unit)×(Unit)
def lG:Shape:=⟨24,[(2,.ptr 0 0 0),(3,.ptr 1 0 0),(5,.val false .int)],[(0,.row .u64),(1,.row .u64)],0,true⟩
abbrev aN:Type:=((Unit)×(Unit)×(Int)×Unit)×((List (UInt64))×(List (UInt64))×Unit)
def iu:Shape:=⟨24,[(4,.val false .bool)],[],0,true⟩
abbrev gn:Type:=((Bool)×Unit)×(Unit)
def kL:Shape:=⟨24,[],[],0,true⟩
abbrev gp:Type:=(Unit)×(Unit)
def Ja:SE->Option Shape:=kv [(0,kL)] (some iu)
def acd (a5:Int) (c0:List (UInt64)) (c1:List (UInt64)):OT (Sum aN aJ):=
 let z0:Bool:=inB a5 4
 let z1:Bool:=decide (Int.toNat a5+0<List.length c0)
 let z2:Bool:=decide (Int.toNat a5+0<List.length c1)
 let z3:UInt64:=List.getD c0 (Int.toNat a5+0) (0:UInt64)
 let z4:UInt64:=List.getD c1 (Int.toNat a5+0) (0:UInt64)
 (.br (decide ((0:Int)<=a5))
 (gd [z0,z1,z0,z2] (.br (!z3==z4)
  (gd [z0,z1,z0,z2] (.ok (.inr ⟨(.ret,iu),((decide (z3<z4),()),())⟩)))
  (gd [inR (a5-(1:Int))] (.ok (.inl (((),((),(a5-(1:Int),()))),(c0,(c1,()))))))))
 (.ok (.inr ⟨(.exit 0,kL),((),())⟩)))
def fb (s:aN):OT (Sum aN aJ):=acd (s.1.2.2.1) (s.2.1) (s.2.2.1)
theorem ab9 (s:aN) (Q:Sum aN aJ->Prop):wps te zH ay 1000 (bk (al Try.f74) 0) (lG.inj s) (cO lG Ja (Q:Sum lG.T aJ->Prop))=(fb s).wpR Q:=by kernel_rfl
def lH (g0_r:aN->gn) (c0_r:aN->Bool) (g0_0:aN->gp) (s:aN):OT aJ:=(.br (c0_r s) (.ok ⟨(.ret,iu),g0_r s⟩) (.ok ⟨(.exit 0,kL),g0_0 s⟩))
def jc:ar:=⟨[.val false .bool],[],false⟩
def DE:SV->Option ar:=λ_=>some jc
def DH (ok0:aN->Bool) (g0_r:aN->gn) (c0_r:aN->Bool) (g0_0:aN->gp) (a0:ac) (a1:ac):OT dJ.Y:=
 let z0:(PUnit×PUnit×Int×PUnit)×List UInt64×List UInt64×PUnit:=(((),(),(3:Int),()),[a0.w0,a0.w1,a0.w2,a0.w3],[a1.w0,a1.w1,a1.w2,a1.w3],())
 (gd [ok0 z0] (.br (c0_r z0)
 (.ok ⟨jc,(((g0_r z0).fst.fst,()),())⟩)
 (.ok ⟨jc,((false,()),())⟩)))
theorem ahP (ok0:aN->Bool) (g0_r:aN->gn) (c0_r:aN->Bool) (g0_0:aN->gp) (x:qL) (Q:dJ.Y->Prop):wpf te zH (bu 0 (dq lG 0 ok0 (lH g0_r c0_r g0_0)) ay) 1000 Try.f74 (dJ.inp.inj x).tm (dJ.inp.inj x).hp (fnK dJ DE Q) (λ_ _=>False)=(DH ok0 g0_r c0_r g0_0 (x.1.1) (x.1.2.1)).wpR Q:=by kernel_rfl
theorem Ph (ok0:aN->Bool) (g0_r:aN->gn) (c0_r:aN->Bool) (g0_0:aN->gp) (h0:∀ s:aN,ok0 s=true->∃ m e,aA (fb) m s=some e/\(lH g0_r c0_r g0_0 s).run=some e) (pre:qL->Bool) (F:qL->OT dJ.Y) (hF:∀ (x:qL) oy,pre x=true->(F x).run=some oy->(DH ok0 g0_r c0_r g0_0 (x.1.1) (x.1.2.1)).run=some oy):aa Try.prog 74 (dJ.aD pre F):=
 aB ap rK Gv (f:=74) (fn:=Try.f74) (c:=al Try.f74) (by kernel_rfl) (by kernel_rfl) (by kernel_rfl) (S:=dJ) (k:=0) (by kernel_rfl) (λR hR=>(aH (c:=(al Try.f74)) (by kernel_rfl) (id:=0) (by kernel_rfl) (bn ap rK Gv (sh:=lG) hR (xs:=Ja) (aG (by kernel_rfl) (by kernel_rfl) hR) aV af (n:=1000) (T:=fb) (λs Q=>ab9 s Q) (ok:=ok0) (f:=lH g0_r c0_r g0_0) h0) af)) (n:=1000) (sel:=DE) (λv o h=>by cases h;rfl) (pre:=pre) (F:=F) (T:=λx=>DH ok0 g0_r c0_r g0_0 (x.1.1) (x.1.2.1)) (λx Q=>ahP ok0 g0_r c0_r g0_0 x Q) hF
theorem Jo {x y N M:Nat} (hx:x<18446744073709551616) (hy:y<18446744073709551616) (h:¬N=M):(x+18446744073709551616*N<y+18446744073709551616*M ↔ N<M)/\¬x+18446744073709551616*N=y+18446744073709551616*M:=by
 omega
theorem ait {x y N:Nat}:(x+18446744073709551616*N<y+18446744073709551616*N ↔ x<y)/\(¬x=y->¬x+18446744073709551616*N=y+18446744073709551616*N):=by
 omega
theorem M5 {n m:Nat} {x y:UInt64} (h:n<m ↔ x.toNat<y.toNat):decide (x<y)=Nat.blt n m:=by
 have h1:Nat.blt n m=true ↔ n<m:=⟨dA,λh=>Nat.ble_eq_true_of_le h⟩
 rw [Bool.eq_iff_iff,decide_eq_true_iff,h1,h,UInt64.lt_iff_toNat_lt]
theorem UP {x y:UInt64} (h:¬x=y):¬x.toNat=y.toNat:=λe=>h (UInt64.toNat_inj.1 e)
def dg (a b:ac) (i:Int):aN:=(((),(),i,()),(lst a,lst b,()))
theorem rl (a b:ac) (k:Nat) (hk:k<4) (h:(lst a).getD k 0=(lst b).getD k 0):(fb (dg a b (k:Int))).run=some (.inl (dg a b ((k:Int)-1))):=by
 refine (OT.au (decide_eq_true (by dsimp only [dg];omega))).trans ((ah ?_).trans ((OT.aw ?_).trans ((ah ?_).trans rfl)))
 ·simp only [dg,Int.toNat_natCast,Nat.add_zero,cE,List.all_cons,List.all_nil,Bool.and_true,Bool.and_eq_true]
  exact ⟨bc (by omega),decide_eq_true hk,bc (by omega),decide_eq_true hk⟩
 ·simp only [dg,Int.toNat_natCast,Nat.add_zero,h,beq_self_eq_true,Bool.not_true]
 ·simp only [dg,List.all_cons,List.all_nil,Bool.and_true]
  exact aS (by omega)
theorem kZ (a b:ac) (k:Nat) (hk:k<4) (h:¬(lst a).getD k 0=(lst b).getD k 0):(fb (dg a b (k:Int))).run=some (.inr ⟨(.ret,iu),((decide ((lst a).getD k 0<(lst b).getD k 0),()),())⟩):=by
 refine (OT.au (decide_eq_true (by dsimp only [dg];omega))).trans ((ah ?_).trans ((OT.au ?_).trans ((ah ?_).trans ?_)))
 ·simp only [dg,Int.toNat_natCast,Nat.add_zero,cE,List.all_cons,List.all_nil,Bool.and_true,Bool.and_eq_true]
  exact ⟨bc (by omega),decide_eq_true hk,bc (by omega),decide_eq_true hk⟩
 ·simp only [dg,Int.toNat_natCast,Nat.add_zero,beq_eq_false_iff_ne.2 h,Bool.not_false]
 ·simp only [dg,Int.toNat_natCast,Nat.add_zero,cE,List.all_cons,List.all_nil,Bool.and_true,Bool.and_eq_true]
  exact ⟨bc (by omega),decide_eq_true hk,bc (by omega),decide_eq_true hk⟩
 ·simp only [dg,Int.toNat_natCast,Nat.add_zero]
  rfl
def DG (s:aN):Bool:=decide (s.1.2.2.1=3/\s.2.1.length=4/\s.2.2.1.length=4)
def yi (s:aN):gn:=((Nat.blt (elemOf s.2.1).nat (elemOf s.2.2.1).nat,()),())
def jW (s:aN):Bool:= !eqE (elemOf s.2.1) (elemOf s.2.2.1)
def yj (_:aN):gp:=((),())
theorem vR {a b:ac} (h:¬a=b) {r:Bool} (hr:r=Nat.blt a.nat b.nat) (hm:∃ m,aA fb m (dg a b 3)=some ⟨(.ret,iu),((r,()),())⟩):
 ∃ m e,aA fb m (dg a b 3)=some e/\(lH yi jW yj (dg a b 3)).run=some e:=by
 obtain ⟨m,hm⟩:=hm
 refine ⟨m,_,hm,?_⟩
 have hc:jW (dg a b 3)=true:=by
  show (!eqE a b)=true
  rw [Bool.eq_false_iff.2 λe=>h (E7.1 e)]
  rfl
 subst hr
 exact OT.au hc
theorem acb:∀ s:aN,DG s=true->∃ m e,aA fb m s=some e/\(lH yi jW yj s).run=some e:=by
 rintro ⟨⟨⟨⟩,⟨⟩,i,⟨⟩⟩,⟨l1,l2,⟨⟩⟩⟩ h
 have h':=of_decide_eq_true h
 dsimp only at h'
 obtain ⟨rfl,h1,h2⟩:=h'
 obtain ⟨a,rfl⟩:∃ a,l1=lst a:=⟨elemOf l1,(aM h1).symm⟩
 obtain ⟨b,rfl⟩:∃ a,l2=lst a:=⟨elemOf l2,(aM h2).symm⟩
 have ha0:=a.w0.toNat_lt
 have hb0:=b.w0.toNat_lt
 have ha1:=a.w1.toNat_lt
 have hb1:=b.w1.toNat_lt
 have ha2:=a.w2.toNat_lt
 have hb2:=b.w2.toNat_lt
 by_cases h3:a.w3=b.w3
 ·have s3:=rl a b 3 (by omega) h3
  by_cases h2:a.w2=b.w2
  ·have s2:=rl a b 2 (by omega) h2
   by_cases h1:a.w1=b.w1
   ·have s1:=rl a b 1 (by omega) h1
    by_cases h0:a.w0=b.w0
    ·have s0:=rl a b 0 (by omega) h0
     have e:a=b:=by cases a;cases b;simp_all
     have sx:(fb (dg a b (((0:Nat):Int)-1))).run=some (.inr ⟨(.exit 0,kL),((),())⟩):=OT.aw (decide_eq_false (by dsimp only [dg];omega))
     refine ⟨_,_,aU s3 (aU s2 (aU s1 (aU s0 (bt sx)))),?_⟩
     have hc:jW (((),(),3,()),(lst a,lst b,()))=false:=by
      show (!eqE a b)=false
      rw [e,aor]
      rfl
     exact OT.aw hc
    ·refine vR (λe=>h0 (by rw [e])) (M5 ?_) ⟨_,aU s3 (aU s2 (aU s1 (bt (kZ a b 0 (by omega) h0))))⟩
     show a.nat<b.nat ↔ a.w0.toNat<b.w0.toNat
     unfold Sx.ac.nat
     rw [h3,h2,h1]
     exact ait.1
   ·refine vR (λe=>h1 (by rw [e])) (M5 ?_) ⟨_,aU s3 (aU s2 (bt (kZ a b 1 (by omega) h1)))⟩
    show a.nat<b.nat ↔ a.w1.toNat<b.w1.toNat
    unfold Sx.ac.nat
    rw [h3,h2]
    have k:=ait (x:=a.w1.toNat) (y:=b.w1.toNat) (N:=b.w2.toNat+18446744073709551616*b.w3.toNat)
    exact (Jo ha0 hb0 (k.2 (UP h1))).1.trans k.1
  ·refine vR (λe=>h2 (by rw [e])) (M5 ?_) ⟨_,aU s3 (bt (kZ a b 2 (by omega) h2))⟩
   show a.nat<b.nat ↔ a.w2.toNat<b.w2.toNat
   unfold Sx.ac.nat
   rw [h3]
   have k:=ait (x:=a.w2.toNat) (y:=b.w2.toNat) (N:=b.w3.toNat)
   have k1:=Jo ha1 hb1 (k.2 (UP h2))
   exact (Jo ha0 hb0 k1.2).1.trans (k1.1.trans k.1)
 ·refine vR (λe=>h3 (by rw [e])) (M5 ?_) ⟨_,bt (kZ a b 3 (by omega) h3)⟩
  show a.nat<b.nat ↔ a.w3.toNat<b.w3.toNat
  unfold Sx.ac.nat
  have k2:=Jo ha2 hb2 (UP h3)
  have k1:=Jo ha1 hb1 k2.2
  exact (Jo ha0 hb0 k1.2).1.trans (k1.1.trans k2.1)
def DF (_:qL):Bool:=true
def Pj (x:qL):OT dJ.Y:=.ok ⟨jc,((Nat.blt x.1.1.nat x.1.2.1.nat,()),())⟩
theorem aca:aa Try.prog 74 (dJ.aD DF Pj):=Ph DG yi jW yj acb _ _ λx oy _ ho=>by
 rw [<-ho]
 clear ho
 obtain ⟨⟨a,b,⟨⟩⟩,⟨⟩⟩:=x
 refine (ah ?_).trans ?_
 ·simp only [List.all_cons,List.all_nil,Bool.and_true]
  exact decide_eq_true ⟨rfl,rfl,rfl⟩
 ·rcases (Bool.eq_false_or_eq_true (eqE a b)).symm with h|h
  ·have hc:jW (((),(),3,()),(lst a,lst b,()))=true:=by
    show (!eqE a b)=true
    rw [h]
    rfl
   exact OT.au hc
  ·have hc:jW (((),(),3,()),(lst a,lst b,()))=false:=by
    show (!eqE a b)=false
    rw [h]
    rfl
   refine (OT.aw hc).trans ?_
   have e:Nat.blt a.nat b.nat=false:=by
    rw [E7.1 h]
    cases hb:Nat.blt b.nat b.nat
    ·rfl
    ·exact absurd (dA hb) (Nat.lt_irrefl _)
   show (OT.ok ⟨jc,((false,()),())⟩:OT dJ.Y).run=(OT.ok ⟨jc,((Nat.blt a.nat b.nat,()),())⟩:OT dJ.Y).run
   rw [e]
def oL:bI:=(dJ.aD DF Pj)
theorem LD:aa Try.prog 74 oL:=aca
theorem LC:aC oL:=ax
def mu:Env:=av 74 oL zH
theorem k7:aI Try.prog mu:=ag LD rK
theorem sb:aq mu:=ab LC Be
theorem wI:aP Try.prog te mu:=aF follows ap k7 sb
def eO:ao:=⟨[.val true .elem,.val true .elem],[],true,0,false⟩
abbrev qH:Type:=((ac)×(ac)×Unit)×(Unit)
def lz:Shape:=⟨39,[(2,.ptr 0 0 0),(3,.ptr 1 0 0),(4,.ptr 2 0 0),(5,.ptr 3 0 0),(6,.val false .u64),(7,.val false .int)],[(0,.row .u64),(1,.row .u64),(2,.row .u64),(3,.row .u64)],0,true⟩
abbrev bx:Type:=((Unit)×(Unit)×(Unit)×(Unit)×(UInt64)×(Int)×Unit)×((List (UInt64))×(List (UInt64))×(List (UInt64))×(List (UInt64))×Unit)
def kK:Shape:=⟨39,[(4,.ptr 0 0 0),(5,.ptr 1 0 0)],[(0,.row .u64),(1,.row .u64)],0,true⟩
abbrev gk:Type:=((Unit)×(Unit)×Unit)×((List (UInt64))×(List (UInt64))×Unit)
def I1:SE->Option Shape:=kv [(0,kK)] none
def ab4 (a6:UInt64) (a7:Int) (c0:List (UInt64)) (c1:List (UInt64)) (c2:List (UInt64)) (c3:List (UInt64)):OT (Sum bx aJ):=
 let z0:Bool:=inB a7 4
 let z1:Bool:=decide (Int.toNat a7+0<List.length c0)
 let z2:Bool:=decide (Int.toNat a7+0<List.length c1)
 let z3:UInt64:=List.getD c0 (Int.toNat a7+0) (0:UInt64)
 let z4:UInt64:=List.getD c1 (Int.toNat a7+0) (0:UInt64)
 let z5:Bool:=inR (a7+(1:Int))
 let z6:UInt64:=z3-z4
 let z7:List UInt64:=List.set c3 (Int.toNat a7+0) (z6-a6)
 (.br (decide (a7<(4:Int)))
 (gd [z0,z1,z0,z2,z0,decide (Int.toNat a7+0<List.length c3),z0,z1,z0,z2] (.br (decide (z3<z4))
  (gd [z5] (.ok (.inl (((),((),((),((),((1:UInt64),(a7+(1:Int),())))))),(c0,(c1,(c2,(z7,()))))))))
  (.br (decide (z6<a6))
   (gd [z5] (.ok (.inl (((),((),((),((),((1:UInt64),(a7+(1:Int),())))))),(c0,(c1,(c2,(z7,()))))))))
   (gd [z5] (.ok (.inl (((),((),((),((),((0:UInt64),(a7+(1:Int),())))))),(c0,(c1,(c2,(z7,())))))))))))
 (.ok (.inr ⟨(.exit 0,kK),(((),((),())),(c2,(c3,())))⟩)))
def lA (s:bx):OT (Sum bx aJ):=ab4 (s.1.2.2.2.2.1) (s.1.2.2.2.2.2.1) (s.2.1) (s.2.2.1) (s.2.2.2.1) (s.2.2.2.2.1)
theorem ab1 (s:bx) (Q:Sum bx aJ->Prop):wps te mu ay 1000 (bk (al Try.f76) 0) (lz.inj s) (cO lz I1 (Q:Sum lz.T aJ->Prop))=(lA s).wpR Q:=by kernel_rfl
def qG (g0_0:bx->gk) (s:bx):OT aJ:=(.ok ⟨(.exit 0,kK),g0_0 s⟩)
def yd:ar:=⟨[.val true .elem],[],false⟩
def Du:SV->Option ar:=λ_=>some yd
def Dx (ok0:bx->Bool) (g0_0:bx->gk) (a0:ac) (a1:ac):OT eO.Y:=
 let z0:(PUnit×PUnit×PUnit×PUnit×UInt64×Int×PUnit)×List UInt64×List UInt64×List UInt64×List UInt64×PUnit:=(((),(),(),(),(0:UInt64),(0:Int),()),[a0.w0,a0.w1,a0.w2,a0.w3],[a1.w0,a1.w1,a1.w2,a1.w3],[(0:UInt64),(0:UInt64),(0:UInt64),(0:UInt64)],[(0:UInt64),(0:UInt64),(0:UInt64),(0:UInt64)],())
 let z1:=(g0_0 z0).snd
 let z2:=z1.snd.fst
 let z3:=z1.fst
 let z4:List UInt64:=lay z3 z2 4 (0:UInt64)
 (gd [ok0 z0,decide (4<=List.length z2),decide ((4/1:Nat)+0<=List.length z3),decide (4<=List.length z4)] (.ok ⟨yd,(({w0:=List.getD z4 0 0,w1:=List.getD z4 1 0,w2:=List.getD z4 2 0,w3:=List.getD z4 3 0},()),())⟩))
theorem ahI (ok0:bx->Bool) (g0_0:bx->gk) (x:qH) (Q:eO.Y->Prop):wpf te mu (bu 0 (dq lz 0 ok0 (qG g0_0)) ay) 1000 Try.f76 (eO.inp.inj x).tm (eO.inp.inj x).hp (fnK eO Du Q) (λ_ _=>False)=(Dx ok0 g0_0 (x.1.1) (x.1.2.1)).wpR Q:=by kernel_rfl
theorem O8 (ok0:bx->Bool) (g0_0:bx->gk) (h0:∀ s:bx,ok0 s=true->∃ m e,aA (lA) m s=some e/\(qG g0_0 s).run=some e) (pre:qH->Bool) (F:qH->OT eO.Y) (hF:∀ (x:qH) oy,pre x=true->(F x).run=some oy->(Dx ok0 g0_0 (x.1.1) (x.1.2.1)).run=some oy):aa Try.prog 76 (eO.aD pre F):=
 aB ap k7 wI (f:=76) (fn:=Try.f76) (c:=al Try.f76) (by kernel_rfl) (by kernel_rfl) (by kernel_rfl) (S:=eO) (k:=0) (by kernel_rfl) (λR hR=>(aH (c:=(al Try.f76)) (by kernel_rfl) (id:=0) (by kernel_rfl) (bn ap k7 wI (sh:=lz) hR (xs:=I1) (aG (by kernel_rfl) (by kernel_rfl) hR) aV af (n:=1000) (T:=lA) (λs Q=>ab1 s Q) (ok:=ok0) (f:=qG g0_0) h0) af)) (n:=1000) (sel:=Du) (λv o h=>by cases h;rfl) (pre:=pre) (F:=F) (T:=λx=>Dx ok0 g0_0 (x.1.1) (x.1.2.1)) (λx Q=>ahI ok0 g0_0 x Q) hF
theorem acx {x y c:UInt64} (hc:c.toNat<=1):x-y-c=mN x y c:=by
 have hx:=x.toNat_lt
 have hy:=y.toNat_lt
 unfold mN
 rw [<-UInt64.toNat_inj,UInt64.toNat_sub,UInt64.toNat_sub,UInt64.toNat_ofNat']
 omega
theorem anG {x y c:UInt64} (h:x<y):NI x y c=1:=by
 have h:=UInt64.lt_iff_toNat_lt.1 h
 rw [<-UInt64.toNat_inj,uA,if_pos (by omega)]
 rfl
theorem anF {x y c:UInt64} (h:¬x<y) (hc:x-y<c):NI x y c=1:=by
 have hx:=x.toNat_lt
 have h:¬x.toNat<y.toNat:=λe=>h (UInt64.lt_iff_toNat_lt.2 e)
 have hc:=UInt64.lt_iff_toNat_lt.1 hc
 rw [UInt64.toNat_sub] at hc
 rw [<-UInt64.toNat_inj,uA,if_pos (by omega)]
 rfl
theorem anE {x y c:UInt64} (h:¬x<y) (hc:¬x-y<c):NI x y c=0:=by
 have hx:=x.toNat_lt
 have h:¬x.toNat<y.toNat:=λe=>h (UInt64.lt_iff_toNat_lt.2 e)
 have hc:¬(x-y).toNat<c.toNat:=λe=>hc (UInt64.lt_iff_toNat_lt.2 e)
 rw [UInt64.toNat_sub] at hc
 rw [<-UInt64.toNat_inj,uA,if_neg (by omega)]
 rfl
def Dw (s:bx):Bool:=decide (s.1.2.2.2.2.1=0/\s.1.2.2.2.2.2.1=0/\s.2.1.length=4/\s.2.2.1.length=4/\s.2.2.2.2.1= [0,0,0,0])
def I2 (s:bx):gk:=(((),(),()),(s.2.2.2.1,(upto (Hm s.2.1 s.2.2.1) ([0,0,0,0],0) 4).1,()))
theorem ab3:∀ s:bx,Dw s=true->∃ m e,aA lA m s=some e/\(qG I2 s).run=some e:=by
 rintro ⟨⟨⟨⟩,⟨⟩,⟨⟩,⟨⟩,c,i,⟨⟩⟩,⟨c0,c1,c2,c3,⟨⟩⟩⟩ h
 have h':=of_decide_eq_true h
 dsimp only at h'
 obtain ⟨rfl,rfl,h0,h1,rfl⟩:=h'
 have:=(bw (T:=lA) (λk s=>((((),(),(),(),s.2,(k:Int),()),(c0,c1,c2,s.1,())):bx)) (Hm c0 c1)
  (λs=>(⟨(.exit 0,kK),(((),(),()),(c2,s.1,()))⟩:aJ)) 4 ([0,0,0,0],0) (λ_ s=>s.1.length=4/\s.2.toNat<=1) ⟨rfl,by decide⟩ (λk s hk hs=>⟨?_,?_⟩) (λs hs=> ?_)).1
 ·obtain ⟨m,hm⟩:=this
  exact ⟨m,_,hm,rfl⟩
 ·obtain ⟨o,c⟩:=s
  dsimp only at hs
  refine (OT.au (decide_eq_true (by dsimp only;omega))).trans ((ah ?_).trans ?_)
  ·simp only [Int.toNat_natCast,Nat.add_zero,h0,h1,hs.1,List.all_cons,List.all_nil,Bool.and_true,Bool.and_eq_true]
   exact ⟨bc (by omega),decide_eq_true (by omega),bc (by omega),decide_eq_true (by omega),bc (by omega),decide_eq_true (by omega),bc (by omega),decide_eq_true (by omega),bc (by omega),decide_eq_true (by omega)⟩
  ·have hi:∀ z,(gd [inR ((k:Int)+1)] z:OT (Sum bx aJ)).run=z.run:=λz=>ah (by simp only [List.all_cons,List.all_nil,Bool.and_true];exact aS (by omega))
   have hw:=acx (x:=c0.getD k 0) (y:=c1.getD k 0) hs.2
   by_cases hx:c0.getD k 0<c1.getD k 0
   ·have hk1:=anG (c:=c) hx
    refine (OT.au (decide_eq_true ?_)).trans ((hi _).trans ?_)
    ·simp only [Int.toNat_natCast,Nat.add_zero];exact hx
    ·simp only [OT.eC,Int.toNat_natCast,Nat.add_zero,Hm,hw,hk1]
     rfl
   ·refine (OT.aw (decide_eq_false ?_)).trans ?_
    ·simp only [Int.toNat_natCast,Nat.add_zero];exact hx
    ·by_cases hd:c0.getD k 0-c1.getD k 0<c
     ·have hk2:=anF hx hd
      refine (OT.au (decide_eq_true ?_)).trans ((hi _).trans ?_)
      ·simp only [Int.toNat_natCast,Nat.add_zero];exact hd
      ·simp only [OT.eC,Int.toNat_natCast,Nat.add_zero,Hm,hw,hk2]
       rfl
     ·have hk3:=anE hx hd
      refine (OT.aw (decide_eq_false ?_)).trans ((hi _).trans ?_)
      ·simp only [Int.toNat_natCast,Nat.add_zero];exact hd
      ·simp only [OT.eC,Int.toNat_natCast,Nat.add_zero,Hm,hw,hk3]
       rfl
 ·exact ⟨by simp only [Hm,List.length_set];exact hs.1,xL⟩
 ·exact OT.aw (decide_eq_false (by dsimp only;omega))
def Dv (_:qH):Bool:=true
def Dy (x:qH):OT eO.Y:=.ok ⟨yd,(((fo x.1.1 x.1.2.1).1,()),())⟩
theorem ab2:aa Try.prog 76 (eO.aD Dv Dy):=O8 Dw I2 ab3 _ _ λx oy hp ho=>by
 rw [<-ho]
 clear ho
 obtain ⟨⟨a,b,⟨⟩⟩,⟨⟩⟩:=x
 obtain ⟨_,hw⟩:=H7 a b
 refine (ah ?_).trans ?_
 ·simp only [List.all_cons,List.all_nil,Bool.and_true,Bool.and_eq_true]
  exact ⟨rfl,rfl,rfl,rfl⟩
 ·simp only [Dy,hw]
  rfl
def oG:bI:=(eO.aD Dv Dy)
theorem Lw:aa Try.prog 76 oG:=ab2
theorem Lv:aC oG:=ax
def mq:Env:=av 76 oG mu
theorem k6:aI Try.prog mq:=ag Lw k7
theorem sa:aq mq:=ab Lv sb
theorem wG:aP Try.prog te mq:=aF follows ap k6 sa
def gh:ao:=⟨[.val true .elem,.val true .elem],[],true,0,false⟩
abbrev xX:Type:=((ac)×(ac)×Unit)×(Unit)
def oE:Shape:=⟨39,[(2,.ptr 0 0 0),(3,.ptr 1 0 0),(4,.ptr 2 0 0),(5,.ptr 3 0 0),(6,.val false .u64),(7,.val false .int)],[(0,.row .u64),(1,.row .u64),(2,.row .u64),(3,.row .u64)],0,true⟩
abbrev bQ:Type:=((Unit)×(Unit)×(Unit)×(Unit)×(UInt64)×(Int)×Unit)×((List (UInt64))×(List (UInt64))×(List (UInt64))×(List (UInt64))×Unit)
def mV:Shape:=⟨39,[(4,.ptr 0 0 0),(5,.ptr 1 0 0)],[(0,.row .u64),(1,.row .u64)],0,true⟩
abbrev iq:Type:=((Unit)×(Unit)×Unit)×((List (UInt64))×(List (UInt64))×Unit)
def OW:SE->Option Shape:=kv [(0,mV)] none
def ahx (a6:UInt64) (a7:Int) (c0:List (UInt64)) (c1:List (UInt64)) (c2:List (UInt64)) (c3:List (UInt64)):OT (Sum bQ aJ):=
 let z0:Bool:=inB a7 4
 let z1:Bool:=decide (Int.toNat a7+0<List.length c0)
 let z2:UInt64:=List.getD c0 (Int.toNat a7+0) (0:UInt64)
 let z3:UInt64:=z2+List.getD c1 (Int.toNat a7+0) (0:UInt64)
 let z4:Bool:=inR (a7+(1:Int))
 let z5:List UInt64:=List.set c3 (Int.toNat a7+0) (z3+a6)
 (.br (decide (a7<(4:Int)))
 (gd [z0,z1,z0,decide (Int.toNat a7+0<List.length c1),z0,decide (Int.toNat a7+0<List.length c3),z0,z1] (.br (decide (z3<z2))
  (gd [z4] (.ok (.inl (((),((),((),((),((1:UInt64),(a7+(1:Int),())))))),(c0,(c1,(c2,(z5,()))))))))
  (gd [z0,decide (Int.toNat a7+0<List.length z5)] (.br (decide (List.getD z5 (Int.toNat a7+0) (0:UInt64)<z3))
   (gd [z4] (.ok (.inl (((),((),((),((),((1:UInt64),(a7+(1:Int),())))))),(c0,(c1,(c2,(z5,()))))))))
   (gd [z4] (.ok (.inl (((),((),((),((),((0:UInt64),(a7+(1:Int),())))))),(c0,(c1,(c2,(z5,()))))))))))))
 (.ok (.inr ⟨(.exit 0,mV),(((),((),())),(c2,(c3,())))⟩)))
def oF (s:bQ):OT (Sum bQ aJ):=ahx (s.1.2.2.2.2.1) (s.1.2.2.2.2.2.1) (s.2.1) (s.2.2.1) (s.2.2.2.1) (s.2.2.2.2.1)
theorem ahu (s:bQ) (Q:Sum bQ aJ->Prop):wps te mq ay 1000 (bk (al Try.f52) 0) (oE.inj s) (cO oE OW (Q:Sum oE.T aJ->Prop))=(oF s).wpR Q:=by kernel_rfl
def uP (g0_0:bQ->iq) (s:bQ):OT aJ:=(.ok ⟨(.exit 0,mV),g0_0 s⟩)
def Dm:ar:=⟨[.val true .elem],[],false⟩
def IW:SV->Option ar:=λ_=>some Dm
def Lp (ok0:bQ->Bool) (g0_0:bQ->iq) (a0:ac) (a1:ac):OT gh.Y:=
 let z0:(PUnit×PUnit×PUnit×PUnit×UInt64×Int×PUnit)×List UInt64×List UInt64×List UInt64×List UInt64×PUnit:=(((),(),(),(),(0:UInt64),(0:Int),()),[a0.w0,a0.w1,a0.w2,a0.w3],[a1.w0,a1.w1,a1.w2,a1.w3],[(0:UInt64),(0:UInt64),(0:UInt64),(0:UInt64)],[(0:UInt64),(0:UInt64),(0:UInt64),(0:UInt64)],())
 let z1:=(g0_0 z0).snd
 let z2:=z1.snd.fst
 let z3:=z1.fst
 let z4:List UInt64:=lay z3 z2 4 (0:UInt64)
 (gd [ok0 z0,decide (4<=List.length z2),decide ((4/1:Nat)+0<=List.length z3),decide (4<=List.length z4)] (.ok ⟨Dm,(({w0:=List.getD z4 0 0,w1:=List.getD z4 1 0,w2:=List.getD z4 2 0,w3:=List.getD z4 3 0},()),())⟩))
theorem am8 (ok0:bQ->Bool) (g0_0:bQ->iq) (x:xX) (Q:gh.Y->Prop):wpf te mq (bu 0 (dq oE 0 ok0 (uP g0_0)) ay) 1000 Try.f52 (gh.inp.inj x).tm (gh.inp.inj x).hp (fnK gh IW Q) (λ_ _=>False)=(Lp ok0 g0_0 (x.1.1) (x.1.2.1)).wpR Q:=by kernel_rfl
theorem T5 (ok0:bQ->Bool) (g0_0:bQ->iq) (h0:∀ s:bQ,ok0 s=true->∃ m e,aA (oF) m s=some e/\(uP g0_0 s).run=some e) (pre:xX->Bool) (F:xX->OT gh.Y) (hF:∀ (x:xX) oy,pre x=true->(F x).run=some oy->(Lp ok0 g0_0 (x.1.1) (x.1.2.1)).run=some oy):aa Try.prog 52 (gh.aD pre F):=
 aB ap k6 wG (f:=52) (fn:=Try.f52) (c:=al Try.f52) (by kernel_rfl) (by kernel_rfl) (by kernel_rfl) (S:=gh) (k:=0) (by kernel_rfl) (λR hR=>(aH (c:=(al Try.f52)) (by kernel_rfl) (id:=0) (by kernel_rfl) (bn ap k6 wG (sh:=oE) hR (xs:=OW) (aG (by kernel_rfl) (by kernel_rfl) hR) aV af (n:=1000) (T:=oF) (λs Q=>ahu s Q) (ok:=ok0) (f:=uP g0_0) h0) af)) (n:=1000) (sel:=IW) (λv o h=>by cases h;rfl) (pre:=pre) (F:=F) (T:=λx=>Lp ok0 g0_0 (x.1.1) (x.1.2.1)) (λx Q=>am8 ok0 g0_0 x Q) hF
theorem ah0 {x y c:UInt64}:x+y+c=rS x y c:=by
 have hx:=x.toNat_lt
 have hy:=y.toNat_lt
 unfold rS
 rw [<-UInt64.toNat_inj,UInt64.toNat_add,UInt64.toNat_add,UInt64.toNat_ofNat']
 omega
theorem Nh {x y c:UInt64} (hc:c.toNat<=1):(tR x y c).toNat=(x.toNat+y.toNat+c.toNat)/18446744073709551616:=by
 have hx:=x.toNat_lt
 have hy:=y.toNat_lt
 unfold tR
 rw [UInt64.toNat_ofNat']
 omega
theorem asR {x y c:UInt64} (hc:c.toNat<=1) (h:x+y<x):tR x y c=1:=by
 have hx:=x.toNat_lt
 have hy:=y.toNat_lt
 have h:=UInt64.lt_iff_toNat_lt.1 h
 rw [UInt64.toNat_add] at h
 rw [<-UInt64.toNat_inj,Nh hc,show (1:UInt64).toNat=1 from rfl]
 omega
theorem asQ {x y c:UInt64} (hc:c.toNat<=1) (h:¬x+y<x) (h2:x+y+c<x+y):tR x y c=1:=by
 have hx:=x.toNat_lt
 have hy:=y.toNat_lt
 have h:¬(x+y).toNat<x.toNat:=λe=>h (UInt64.lt_iff_toNat_lt.2 e)
 have h2:=UInt64.lt_iff_toNat_lt.1 h2
 rw [UInt64.toNat_add] at h
 rw [UInt64.toNat_add,UInt64.toNat_add] at h2
 rw [<-UInt64.toNat_inj,Nh hc,show (1:UInt64).toNat=1 from rfl]
 omega
theorem asP {x y c:UInt64} (hc:c.toNat<=1) (h:¬x+y<x) (h2:¬x+y+c<x+y):tR x y c=0:=by
 have hx:=x.toNat_lt
 have hy:=y.toNat_lt
 have h:¬(x+y).toNat<x.toNat:=λe=>h (UInt64.lt_iff_toNat_lt.2 e)
 have h2:¬(x+y+c).toNat<(x+y).toNat:=λe=>h2 (UInt64.lt_iff_toNat_lt.2 e)
 rw [UInt64.toNat_add] at h
 rw [UInt64.toNat_add,UInt64.toNat_add] at h2
 rw [<-UInt64.toNat_inj,Nh hc,show (0:UInt64).toNat=0 from rfl]
 omega
def IY (s:bQ):Bool:=decide (s.1.2.2.2.2.1=0/\s.1.2.2.2.2.2.1=0/\s.2.1.length=4/\s.2.2.1.length=4/\s.2.2.2.2.1= [0,0,0,0])
def OZ (s:bQ):iq:=(((),(),()),(s.2.2.2.1,(upto (HS s.2.1 s.2.2.1) ([0,0,0,0],0) 4).1,()))
theorem ahw:∀ s:bQ,IY s=true->∃ m e,aA oF m s=some e/\(uP OZ s).run=some e:=by
 rintro ⟨⟨⟨⟩,⟨⟩,⟨⟩,⟨⟩,c,i,⟨⟩⟩,⟨c0,c1,c2,c3,⟨⟩⟩⟩ h
 have h':=of_decide_eq_true h
 dsimp only at h'
 obtain ⟨rfl,rfl,h0,h1,rfl⟩:=h'
 have:=(bw (T:=oF) (λk s=>((((),(),(),(),s.2,(k:Int),()),(c0,c1,c2,s.1,())):bQ)) (HS c0 c1)
  (λs=>(⟨(.exit 0,mV),(((),(),()),(c2,s.1,()))⟩:aJ)) 4 ([0,0,0,0],0) (λ_ s=>s.1.length=4/\s.2.toNat<=1) ⟨rfl,by decide⟩ (λk s hk hs=>⟨?_,?_⟩) (λs hs=> ?_)).1
 ·obtain ⟨m,hm⟩:=this
  exact ⟨m,_,hm,rfl⟩
 ·obtain ⟨o,c⟩:=s
  dsimp only at hs
  refine (OT.au (decide_eq_true (by dsimp only;omega))).trans ((ah ?_).trans ?_)
  ·simp only [Int.toNat_natCast,Nat.add_zero,h0,h1,hs.1,List.all_cons,List.all_nil,Bool.and_true,Bool.and_eq_true]
   exact ⟨bc (by omega),decide_eq_true (by omega),bc (by omega),decide_eq_true (by omega),bc (by omega),decide_eq_true (by omega),bc (by omega),decide_eq_true (by omega)⟩
  ·have hi:∀ z,(gd [inR ((k:Int)+1)] z:OT (Sum bQ aJ)).run=z.run:=λz=>ah (by simp only [List.all_cons,List.all_nil,Bool.and_true];exact aS (by omega))
   have hw:=ah0 (x:=c0.getD k 0) (y:=c1.getD k 0) (c:=c)
   by_cases hx:c0.getD k 0+c1.getD k 0<c0.getD k 0
   ·have hk1:=asR hs.2 hx
    refine (OT.au (decide_eq_true ?_)).trans ((hi _).trans ?_)
    ·simp only [Int.toNat_natCast,Nat.add_zero];exact hx
    ·simp only [OT.eC,Int.toNat_natCast,Nat.add_zero,HS,hw,hk1]
     rfl
   ·have hs2:∀ v,(o.set k v).getD k 0=v:=λv=>by
     rw [List.getD_eq_getElem?_getD,List.getElem?_set_self (by omega)]
     rfl
    refine (OT.aw (decide_eq_false ?_)).trans ((ah ?_).trans ?_)
    ·simp only [Int.toNat_natCast,Nat.add_zero];exact hx
    ·simp only [Int.toNat_natCast,Nat.add_zero,List.length_set,hs.1,List.all_cons,List.all_nil,Bool.and_true,Bool.and_eq_true]
     exact ⟨bc (by omega),decide_eq_true (by omega)⟩
    ·by_cases hd:c0.getD k 0+c1.getD k 0+c<c0.getD k 0+c1.getD k 0
     ·have hk2:=asQ hs.2 hx hd
      refine (OT.au (decide_eq_true ?_)).trans ((hi _).trans ?_)
      ·simp only [Int.toNat_natCast,Nat.add_zero,hs2];exact hd
      ·simp only [OT.eC,Int.toNat_natCast,Nat.add_zero,HS,hw,hk2]
       rfl
     ·have hk3:=asP hs.2 hx hd
      refine (OT.aw (decide_eq_false ?_)).trans ((hi _).trans ?_)
      ·simp only [Int.toNat_natCast,Nat.add_zero,hs2];exact hd
      ·simp only [OT.eC,Int.toNat_natCast,Nat.add_zero,HS,hw,hk3]
       rfl
 ·exact ⟨by simp only [HS,List.length_set];exact hs.1,zk hs.2⟩
 ·exact OT.aw (decide_eq_false (by dsimp only;omega))
def IX (_:xX):Bool:=true
def Lq (x:xX):OT gh.Y:=.ok ⟨Dm,(((mD x.1.1 x.1.2.1).1,()),())⟩
theorem ahv:aa Try.prog 52 (gh.aD IX Lq):=T5 IY OZ ahw _ _ λx oy hp ho=>by
 rw [<-ho]
 clear ho
 obtain ⟨⟨a,b,⟨⟩⟩,⟨⟩⟩:=x
 obtain ⟨_,hw⟩:=HZ a b
 refine (ah ?_).trans ?_
 ·simp only [List.all_cons,List.all_nil,Bool.and_true,Bool.and_eq_true]
  exact ⟨rfl,rfl,rfl,rfl⟩
 ·simp only [Lq,hw]
  rfl
def sJ:bI:=(gh.aD IX Lq)
theorem OY:aa Try.prog 52 sJ:=ahv
theorem OX:aC sJ:=ax
def nN:Env:=av 52 sJ mq
theorem ku:aI Try.prog nN:=ag OY k6
theorem wF:aq nN:=ab OX sa
theorem pX:aP Try.prog te nN:=aF follows ap ku wF
def jN:ao:=⟨[.val false .int,.val true .elem],[],true,0,false⟩
abbrev O0:Type:=((Int)×(ac)×Unit)×(Unit)
def Dq:Shape:=⟨60,[(3,.ptr 0 0 0),(4,.ptr 1 0 0),(5,.val false .u64),(6,.val false .u64),(7,.val false .int)],[(0,.row .u64),(1,.row .u64)],0,true⟩
abbrev cZ:Type:=((Unit)×(Unit)×(UInt64)×(UInt64)×(Int)×Unit)×((List (UInt64))×(List (UInt64))×Unit)
def uR:Shape:=⟨60,[(4,.ptr 0 0 0),(6,.val false .u64)],[(0,.row .u64)],0,true⟩
abbrev ly:Type:=((Unit)×(UInt64)×Unit)×((List (UInt64))×Unit)
def ahB:SE->Option Shape:=kv [(0,uR)] none
def asE (a5:UInt64) (a6:UInt64) (a7:Int) (c0:List (UInt64)) (c1:List (UInt64)):OT (Sum cZ aJ):=
 let z0:Bool:=inB a7 4
 let z1:Bool:=decide (Int.toNat a7+0<List.length c0)
 let z2:Bool:= !a5==(0:UInt64)
 let z3:UInt64:=List.getD c0 (Int.toNat a7+0) (0:UInt64)
 (.br (decide ((0:Int)<=a7))
 (gd [z0,z1,z2,z0,z1,z2,inR (a7-(1:Int))] (.ok (.inl (((),((),(a5,((bL ((bL a6 (32:Int)+aT z3 (32:Int))%a5) (32:Int)+(z3&&&(4294967295:UInt64)))%a5,(a7-(1:Int),()))))),(c0,(c1,()))))))
 (.ok (.inr ⟨(.exit 0,uR),(((),(a6,())),(c1,()))⟩)))
def Ds (s:cZ):OT (Sum cZ aJ):=asE (s.1.2.2.1) (s.1.2.2.2.1) (s.1.2.2.2.2.1) (s.2.1) (s.2.2.1)
theorem asA (s:cZ) (Q:Sum cZ aJ->Prop):wps te nN ay 1000 (bk (al Try.f50) 0) (Dq.inj s) (cO Dq ahB (Q:Sum Dq.T aJ->Prop))=(Ds s).wpR Q:=by kernel_rfl
def Lt (g0_0:cZ->ly) (s:cZ):OT aJ:=(.ok ⟨(.exit 0,uR),g0_0 s⟩)
def Dp:Shape:=⟨60,[(3,.ptr 0 0 0),(4,.ptr 1 0 0),(8,.ptr 2 0 0)],[(0,.row .u64),(1,.row .u64),(2,.row .u64)],0,true⟩
abbrev dm:Type:=((Unit)×(Unit)×(Unit)×Unit)×((List (UInt64))×(List (UInt64))×(List (UInt64))×Unit)
def uQ:Shape:=⟨60,[(3,.ptr 0 0 0),(4,.ptr 1 0 0)],[(0,.row .u64),(1,.row .u64)],0,true⟩
abbrev lx:Type:=((Unit)×(Unit)×Unit)×((List (UInt64))×(List (UInt64))×Unit)
def ahA:SE->Option Shape:=kv [(2,uQ)] none
def asD (c0:List (UInt64)) (c1:List (UInt64)) (c2:List (UInt64)):OT (Sum dm aJ):=
 let z0:Nat:=List.length c0
 let z1:Bool:=decide (4<=z0)
 let z2:Bool:=decide (4<=List.length c2)
 let z3:ac:= {w0:=List.getD c0 0 0,w1:=List.getD c0 1 0,w2:=List.getD c0 2 0,w3:=List.getD c0 3 0}
 let z4:ac:= {w0:=List.getD c2 0 0,w1:=List.getD c2 1 0,w2:=List.getD c2 2 0,w3:=List.getD c2 3 0}
 let z5:=(fo z3 z4).fst
 (gd [z1,z2] (.br (!Nat.blt (ac.nat z3) (ac.nat z4))
 (gd [z1,z2,decide ((4/1:Nat)+0<=z0)] (.ok (.inl (((),((),((),()))),(List.set (List.set (List.set (List.set c0 0 z5.w0) 1 z5.w1) 2 z5.w2) 3 z5.w3,(c1,(c2,())))))))
 (.ok (.inr ⟨(.exit 2,uQ),(((),((),())),(c0,(c1,())))⟩))))
def Dr (s:dm):OT (Sum dm aJ):=asD (s.2.1) (s.2.2.1) (s.2.2.2.1)
theorem asz (s:dm) (Q:Sum dm aJ->Prop):wps te nN ay 1000 (bk (al Try.f50) 2) (Dp.inj s) (cO Dp ahA (Q:Sum Dp.T aJ->Prop))=(Dr s).wpR Q:=by kernel_rfl
def Ls (g2_2:dm->lx) (s:dm):OT aJ:=(.ok ⟨(.exit 2,uQ),g2_2 s⟩)
def lf:ar:=⟨[.val true .elem],[],false⟩
def YV:SV->Option ar:=λ_=>some lf
def YX (ok0:cZ->Bool) (g0_0:cZ->ly) (ok2:dm->Bool) (g2_2:dm->lx) (a0:Int) (a1:ac):OT jN.Y:=
 let z0:(PUnit×PUnit×UInt64×UInt64×Int×PUnit)×List UInt64×List UInt64×PUnit:=(((),(),NJ a0,(0:UInt64),(3:Int),()),[a1.w0,a1.w1,a1.w2,a1.w3],[(0:UInt64),(0:UInt64),(0:UInt64),(0:UInt64)],())
 let z1:Bool:=ok0 z0
 let z2:(PUnit×UInt64×PUnit)×List UInt64×PUnit:=g0_0 z0
 let z3:=z2.snd.fst
 let z4:Bool:=decide ((4/1:Nat)+0<=List.length z3)
 let z5:List UInt64:=List.set (List.set (List.set (List.set z3 0 z2.fst.snd.fst) 1 (0:UInt64)) 2 (0:UInt64)) 3 (0:UInt64)
 let z6:Bool:=decide (4<=List.length z5)
 let z7:ac:= {w0:=List.getD z5 0 0,w1:=List.getD z5 1 0,w2:=List.getD z5 2 0,w3:=List.getD z5 3 0}
 let z8:ac:=(aL (Int.toNat a0)).fst
 let z9:(PUnit×PUnit×PUnit×PUnit)×List UInt64×List UInt64×List UInt64×PUnit:=(((),(),(),()),[a1.w0,a1.w1,a1.w2,a1.w3],[(0:UInt64),(0:UInt64),(0:UInt64),(0:UInt64)],[z8.w0,z8.w1,z8.w2,z8.w3],())
 let z10:=(g2_2 z9).snd
 let z11:=z10.fst
 let z12:=z10.snd.fst
 let z13:List UInt64:=lay z12 z11 4 (0:UInt64)
 (.br (a0==(0:Int))
 (gd [z1,z4,z6] (.ok ⟨lf,((z7,()),())⟩))
 (.br (a0==(1:Int))
  (gd [z1,z4,z6] (.ok ⟨lf,((z7,()),())⟩))
  (.br (ak a0)
   (gd [ok2 z9,decide (4<=List.length z11),decide ((4/1:Nat)+0<=List.length z12),decide (4<=List.length z13)] (.ok ⟨lf,(({w0:=List.getD z13 0 0,w1:=List.getD z13 1 0,w2:=List.getD z13 2 0,w3:=List.getD z13 3 0},()),())⟩))
   (.ok ⟨lf,(({w0:=0,w1:=0,w2:=0,w3:=0},()),())⟩))))
theorem au6 (ok0:cZ->Bool) (g0_0:cZ->ly) (ok2:dm->Bool) (g2_2:dm->lx) (x:O0) (Q:jN.Y->Prop):wpf te nN (bu 2 (dq Dp 2 ok2 (Ls g2_2)) (bu 0 (dq Dq 0 ok0 (Lt g0_0)) ay)) 1000 Try.f50 (jN.inp.inj x).tm (jN.inp.inj x).hp (fnK jN YV Q) (λ_ _=>False)=(YX ok0 g0_0 ok2 g2_2 (x.1.1) (x.1.2.1)).wpR Q:=by kernel_rfl
theorem ahD (ok0:cZ->Bool) (g0_0:cZ->ly) (ok2:dm->Bool) (g2_2:dm->lx) (h0:∀ s:cZ,ok0 s=true->∃ m e,aA (Ds) m s=some e/\(Lt g0_0 s).run=some e) (h2:∀ s:dm,ok2 s=true->∃ m e,aA (Dr) m s=some e/\(Ls g2_2 s).run=some e) (pre:O0->Bool) (F:O0->OT jN.Y) (hF:∀ (x:O0) oy,pre x=true->(F x).run=some oy->(YX ok0 g0_0 ok2 g2_2 (x.1.1) (x.1.2.1)).run=some oy):aa Try.prog 50 (jN.aD pre F):=
 aB ap ku pX (f:=50) (fn:=Try.f50) (c:=al Try.f50) (by kernel_rfl) (by kernel_rfl) (by kernel_rfl) (S:=jN) (k:=0) (by kernel_rfl) (λR hR=>(aH (c:=(al Try.f50)) (by kernel_rfl) (id:=2) (by kernel_rfl) (bn ap ku pX (sh:=Dp) hR (xs:=ahA) (aG (by kernel_rfl) (by kernel_rfl) hR) aV af (n:=1000) (T:=Dr) (λs Q=>asz s Q) (ok:=ok2) (f:=Ls g2_2) h2) (aH (c:=(al Try.f50)) (by kernel_rfl) (id:=0) (by kernel_rfl) (bn ap ku pX (sh:=Dq) hR (xs:=ahB) (aG (by kernel_rfl) (by kernel_rfl) hR) aV af (n:=1000) (T:=Ds) (λs Q=>asA s Q) (ok:=ok0) (f:=Lt g0_0) h0) af))) (n:=1000) (sel:=YV) (λv o h=>by cases h;rfl) (pre:=pre) (F:=F) (T:=λx=>YX ok0 g0_0 ok2 g2_2 (x.1.1) (x.1.2.1)) (λx Q=>au6 ok0 g0_0 ok2 g2_2 x Q) hF
theorem ave {r w m:Nat}:((r*4294967296+w/4294967296)%m*4294967296+w%4294967296)%m=(r*18446744073709551616+w)%m:=by
 have e:(r*4294967296+w/4294967296)*4294967296+w%4294967296=r*18446744073709551616+w:=by omega
 rw [Nat.add_mod,Nat.mul_mod,Nat.mod_mod,<-Nat.mul_mod,<-Nat.add_mod,e]
theorem asV {r w m:UInt64} (hs:eT m=true) (hr:r.toNat<m.toNat):(bL ((bL r 32+aT w 32)%m) 32+(w&&&4294967295))%m=QS r w m:=by
 have hm:=jF hs
 have hb:m.toNat<=16521217:=by rcases dr hs with rfl|rfl<;>decide
 have hw:=w.toNat_lt
 have e1:(bL r 32).toNat=r.toNat*4294967296:=by
  have:(bL r 32).toNat=r.toNat*2^32%2^64:=jG r 32 (by omega)
  rw [this]
  omega
 have e2:(aT w 32).toNat=w.toNat/4294967296:=eI w 32 (by omega)
 have e3:((bL r 32+aT w 32)%m).toNat=(r.toNat*4294967296+w.toNat/4294967296)%m.toNat:=by
  rw [UInt64.toNat_mod,UInt64.toNat_add,e1,e2,Nat.mod_eq_of_lt (a:=r.toNat*4294967296+w.toNat/4294967296) (by omega)]
 generalize (bL r 32+aT w 32)%m=q at e3
 have hq:q.toNat<m.toNat:=by rw [e3];exact Nat.mod_lt _ hm
 have e4:(bL q 32).toNat=q.toNat*4294967296:=by
  have:(bL q 32).toNat=q.toNat*2^32%2^64:=jG q 32 (by omega)
  rw [this]
  omega
 rw [<-UInt64.toNat_inj,nA hm,UInt64.toNat_mod,UInt64.toNat_add,e4,ig,Nat.mod_eq_of_lt (a:=q.toNat*4294967296+w.toNat%4294967296) (by omega),e3,ave]
def B1 (s:cZ):Bool:=decide (s.1.2.2.2.1=0/\s.1.2.2.2.2.1=3/\s.2.1.length=4)&&eT s.1.2.2.1
def T9 (s:cZ):ly:=(((),au0 s.2.1 s.1.2.2.1,()),(s.2.2.1,()))
theorem asC:∀ s:cZ,B1 s=true->∃ m e,aA Ds m s=some e/\(Lt T9 s).run=some e:=by
 rintro ⟨⟨⟨⟩,⟨⟩,sm,r,i,⟨⟩⟩,⟨c1,c2,⟨⟩⟩⟩ h
 simp only [B1,Bool.and_eq_true,decide_eq_true_eq] at h
 obtain ⟨⟨rfl,rfl,hl⟩,hs⟩:=h
 have hm:=jF hs
 have hz:(!(sm==0))=true:=by rcases dr hs with rfl|rfl<;>rfl
 have:=(bw (T:=Ds) (λk r=>((((),(),sm,r,3-(k:Int),()),(c1,c2,())):cZ)) (λk r=>QS r (c1.getD (3-k) 0) sm)
  (λr=>(⟨(.exit 0,uR),(((),r,()),(c2,()))⟩:aJ)) 4 0 (λ_ r=>r.toNat<sm.toNat) hm (λk r hk hr=>⟨?_,?_⟩) (λr hr=> ?_)).1
 ·obtain ⟨m,hm⟩:=this
  exact ⟨m,_,hm,rfl⟩
 ·have e1:(3-(k:Int)).toNat=3-k:=by omega
  have e2:(3:Int)-(k:Int)-1=3-((k+1:Nat):Int):=by omega
  refine (OT.au (decide_eq_true (by dsimp only;omega))).trans ((ah ?_).trans ?_)
  ·simp only [e1,Nat.add_zero,hl,hz,List.all_cons,List.all_nil,Bool.and_true,Bool.true_and,Bool.and_eq_true]
   exact ⟨bc (by omega),decide_eq_true (by omega),bc (by omega),decide_eq_true (by omega),aS (by omega)⟩
  ·simp only [OT.eC,e1,e2,Nat.add_zero,asV hs hr]
 ·rw [nA hm]
  exact Nat.mod_lt _ hm
 ·exact OT.aw (decide_eq_false (by dsimp only;omega))
def Lr (s:dm):Bool:=decide (s.2.1.length=4/\s.2.2.2.1.length=4/\0<(elemOf s.2.2.2.1).nat)
def T8 (s:dm):lx:=(((),(),()),(lst (ofN ((elemOf s.2.1).nat%(elemOf s.2.2.2.1).nat)),s.2.2.1,()))
theorem abW {M:ac} {c2:List UInt64} (hm:0<M.nat):∀ (n:Nat) (a:ac),a.nat=n->
 ∃ m,aA Dr m (((),(),(),()),(lst a,c2,lst M,()))=some ⟨(.exit 2,uQ),(((),(),()),(lst (ofN (a.nat%M.nat)),c2,()))⟩:=by
 intro n
 induction n using Nat.strongRecOn with
 |_ n ih=>
  intro a hn
  rcases (Bool.eq_false_or_eq_true (Nat.blt a.nat M.nat)).symm with hb|hb
  ·have hle:M.nat<=a.nat:=by
    rcases Nat.lt_or_ge a.nat M.nat with h|h
    ·have:Nat.blt a.nat M.nat=true:=Nat.ble_eq_true_of_le h
     rw [this] at hb;cases hb
    ·exact h
   have hd:=kC hle
   obtain ⟨m,hm2⟩:=ih (a.nat-M.nat) (by omega) (fo a M).1 hd
   rw [hd,<-Nat.mod_eq_sub_mod hle] at hm2
   refine ⟨m+1,aU ?_ hm2⟩
   refine (ah rfl).trans ((OT.au (b:= !Nat.blt a.nat M.nat) (by rw [hb];rfl)).trans ((ah rfl).trans rfl))
  ·have hlt:=dA hb
   rw [Nat.mod_eq_of_lt hlt,m9]
   refine ⟨1,bt ?_⟩
   exact (ah rfl).trans (OT.aw (b:= !Nat.blt a.nat M.nat) (by rw [hb];rfl))
theorem asB:∀ s:dm,Lr s=true->∃ m e,aA Dr m s=some e/\(Ls T8 s).run=some e:=by
 rintro ⟨⟨⟨⟩,⟨⟩,⟨⟩,⟨⟩⟩,⟨l,c2,l2,⟨⟩⟩⟩ h
 have h':=of_decide_eq_true h
 dsimp only at h'
 obtain ⟨h1,h2,h3⟩:=h'
 obtain ⟨a,rfl⟩:∃ a,l=lst a:=⟨elemOf l,(aM h1).symm⟩
 obtain ⟨M,rfl⟩:∃ a,l2=lst a:=⟨elemOf l2,(aM h2).symm⟩
 obtain ⟨m,hm⟩:=abW (c2:=c2) (M:=M) h3 _ a rfl
 exact ⟨m,_,hm,rfl⟩
def ofP (p:Nat) (a:ac):ac:=ofN (a.nat%p)
def YW (_:O0):Bool:=true
def apD (x:O0):OT jN.Y:=.br (ak x.1.1) (.ok ⟨lf,((ofP (pS x.1.1) x.1.2.1,()),())⟩) (.ok ⟨lf,((⟨0,0,0,0⟩,()),())⟩)
theorem PC {a:ac} {p:Nat} {m:UInt64} (hp:p=m.toNat) (hs:eT m=true):(⟨au0 (lst a) m,0,0,0⟩:ac)=ofP p a:=by
 have hm:=jF hs
 unfold ofP
 rw [YP hs,hp,oR (n:=a.nat%m.toNat) (Nat.lt_trans (Nat.mod_lt _ hm) m.toNat_lt)]
theorem Zi {s:Int} {a:ac} (h0:(s==0)=false) (h1:(s==1)=false) (hs:ak s=true):(YX B1 T9 Lr T8 s a).run=some ⟨lf,((ofP (pS s) a,()),())⟩:=by
 refine (OT.aw h0).trans ((OT.aw h1).trans ((OT.au hs).trans ((ah ?_).trans rfl)))
 simp only [List.all_cons,List.all_nil,Bool.and_true,Bool.and_eq_true]
 exact ⟨decide_eq_true ⟨rfl,rfl,(iT hs).1⟩,rfl,rfl,rfl⟩
theorem ahC:aa Try.prog 50 (jN.aD YW apD):=ahD B1 T9 Lr T8 asC asB _ _ λx oy _ ho=>by
 rw [<-ho]
 clear ho
 obtain ⟨⟨s,a,⟨⟩⟩,⟨⟩⟩:=x
 rcases (Bool.eq_false_or_eq_true (ak s)).symm with hs|hs
 ·obtain ⟨h0,h1,_,_⟩:=qw hs
  exact (OT.aw h0).trans ((OT.aw h1).trans ((OT.aw hs).trans (OT.aw (b:=ak s) hs).symm))
 ·refine Eq.trans ?_ (OT.au (b:=ak s) hs).symm
  show _=some (⟨lf,((ofP (pS s) a,()),())⟩:jN.Y)
  rcases bD hs with rfl|rfl|rfl|rfl
  ·rw [<-PC (a:=a) (p:=pS 0) (m:=16513537) (by decide+kernel) rfl]
   refine (OT.au rfl).trans ((ah ?_).trans rfl)
   exact rfl
  ·rw [<-PC (a:=a) (p:=pS 1) (m:=16521217) (by decide+kernel) rfl]
   refine (OT.aw rfl).trans ((OT.au rfl).trans ((ah ?_).trans rfl))
   exact rfl
  ·exact Zi rfl rfl rfl
  ·exact Zi rfl rfl rfl
def Dn:bI:=(jN.aD YW apD)
theorem abX:aa Try.prog 50 Dn:=ahC
theorem abV:aC Dn:=ax
def Se:Env:=av 50 Dn nN
theorem Gr:aI Try.prog Se:=ag abX ku
theorem Gs:aq Se:=ab abV wF
theorem aew:aP Try.prog te Se:=aF follows ap Gr Gs
def fH:ao:=⟨[.val false .int,.val true .elem,.val true .elem],[],true,0,false⟩
abbrev Jb:Type:=((Int)×(ac)×(ac)×Unit)×(Unit)
def cl:ar:=⟨[.val true .elem],[],false⟩
def Po:SV->Option ar:=λ_=>some cl
def UD (a0:Int) (a1:ac) (a2:ac):OT fH.Y:=
 let z0:Bool:=ak a0
 let z1:UInt64:=NJ a0
 let z2:Bool:= !z1==(0:UInt64)
 let z3:Nat:=pS a0
 let z4:ac:=ofP z3 a1
 let z5:=z4.w0
 let z6:ac:=ofP z3 a2
 let z7:=z6.w0
 let z8:ac:= {w0:=(z5+z7)%z1,w1:=0,w2:=0,w3:=0}
 let z9:ac:= {w0:=(z5+(0:UInt64))%z1,w1:=0,w2:=0,w3:=0}
 let z10:ac:= {w0:=((0:UInt64)+z7)%z1,w1:=0,w2:=0,w3:=0}
 let z11:ac:= {w0:=0%z1,w1:=0,w2:=0,w3:=0}
 let z12:ac:= {w0:=0,w1:=0,w2:=0,w3:=0}
 (.br (a0==(0:Int))
 (.br (z0)
  (.br (z0)
   (gd [z2] (.ok ⟨cl,((z8,()),())⟩))
   (gd [z2] (.ok ⟨cl,((z9,()),())⟩)))
  (.br (z0)
   (gd [z2] (.ok ⟨cl,((z10,()),())⟩))
   (gd [z2] (.ok ⟨cl,((z11,()),())⟩))))
 (.br (a0==(1:Int))
  (.br (z0)
   (.br (z0)
    (gd [z2] (.ok ⟨cl,((z8,()),())⟩))
    (gd [z2] (.ok ⟨cl,((z9,()),())⟩)))
   (.br (z0)
    (gd [z2] (.ok ⟨cl,((z10,()),())⟩))
    (gd [z2] (.ok ⟨cl,((z11,()),())⟩))))
  (.br (z0)
   (.br (z0)
    (.br (z0)
     (.ok ⟨cl,((ofP z3 (mD z4 z6).fst,()),())⟩)
     (.ok ⟨cl,((z12,()),())⟩))
    (.br (z0)
     (.ok ⟨cl,((ofP z3 (mD z4 z12).fst,()),())⟩)
     (.ok ⟨cl,((z12,()),())⟩)))
   (.br (z0)
    (.br (z0)
     (.ok ⟨cl,((ofP z3 (mD z12 z6).fst,()),())⟩)
     (.ok ⟨cl,((z12,()),())⟩))
    (.br (z0)
     (.ok ⟨cl,((ofP z3 z12,()),())⟩)
     (.ok ⟨cl,((z12,()),())⟩))))))
theorem asL (x:Jb) (Q:fH.Y->Prop):wpf te Se ay 1000 Try.f24 (fH.inp.inj x).tm (fH.inp.inj x).hp (fnK fH Po Q) (λ_ _=>False)=(UD (x.1.1) (x.1.2.1) (x.1.2.2.1)).wpR Q:=by kernel_rfl
theorem acf (pre:Jb->Bool) (F:Jb->OT fH.Y) (hF:∀ (x:Jb) oy,pre x=true->(F x).run=some oy->(UD (x.1.1) (x.1.2.1) (x.1.2.2.1)).run=some oy):aa Try.prog 24 (fH.aD pre F):=
 aB ap Gr aew (f:=24) (fn:=Try.f24) (c:=al Try.f24) (by kernel_rfl) (by kernel_rfl) (by kernel_rfl) (S:=fH) (k:=0) (by kernel_rfl) (λR hR=>af) (n:=1000) (sel:=Po) (λv o h=>by cases h;rfl) (pre:=pre) (F:=F) (T:=λx=>UD (x.1.1) (x.1.2.1) (x.1.2.2.1)) (λx Q=>asL x Q) hF
theorem vi {s:Int} (h:s=0\/s=1):pS s=(NJ s).toNat/\0<(NJ s).toNat/\(NJ s).toNat<=16521217/\(!(NJ s==0))=true:=by
 rcases h with rfl|rfl<;>exact ⟨by decide+kernel,by decide+kernel,by decide+kernel,rfl⟩
theorem aei {s:Int} (h:s=0\/s=1) (a b:ac):(⟨((ofP (pS s) a).w0+(ofP (pS s) b).w0)%NJ s,0,0,0⟩:ac)=n8 (pS s) a b:=by
 obtain ⟨hp,h0,h1,_⟩:=vi h
 rw [hp]
 generalize NJ s=m at*
 have ha:=Nat.mod_lt a.nat h0
 have hb:=Nat.mod_lt b.nat h0
 have hc:=Nat.mod_lt (a.nat+b.nat) h0
 unfold n8
 rw [oR (by omega)]
 have e:((ofP m.toNat a).w0+(ofP m.toNat b).w0)%m=UInt64.ofNat ((a.nat+b.nat)%m.toNat):=by
  show (UInt64.ofNat (a.nat%m.toNat)+UInt64.ofNat (b.nat%m.toNat))%m=_
  rw [<-UInt64.toNat_inj,UInt64.toNat_mod,UInt64.toNat_add,UInt64.toNat_ofNat',UInt64.toNat_ofNat',UInt64.toNat_ofNat',Nat.mod_eq_of_lt (a:=a.nat%m.toNat) (by omega),Nat.mod_eq_of_lt (a:=b.nat%m.toNat) (by omega),
   Nat.mod_eq_of_lt (a:=a.nat%m.toNat+b.nat%m.toNat) (by omega),Nat.mod_eq_of_lt (a:=(a.nat+b.nat)%m.toNat) (by omega),<-Nat.add_mod]
 rw [e]
def jX (x:Jb):Bool:=ak x.1.1
def ahS (x:Jb):OT fH.Y:=.ok ⟨cl,((n8 (pS x.1.1) x.1.2.1 x.1.2.2.1,()),())⟩
theorem ann:aa Try.prog 24 (fH.aD jX ahS):=acf _ _ λx oy hp ho=>by
 rw [<-ho]
 clear ho
 obtain ⟨⟨s,a,b,⟨⟩⟩,⟨⟩⟩:=x
 have hs:ak s=true:=hp
 show _=some (⟨cl,((n8 (pS s) a b,()),())⟩:fH.Y)
 have little:(s=0\/s=1)->(gd [!(NJ s==0)] (.ok ⟨cl,((⟨((ofP (pS s) a).w0+(ofP (pS s) b).w0)%NJ s,0,0,0⟩,()),())⟩):OT fH.Y).run=some (⟨cl,((n8 (pS s) a b,()),())⟩:fH.Y):=λh=>by
  obtain ⟨_,_,_,hz⟩:=vi h
  rw [aei h]
  exact ah (by simp only [hz,List.all_cons,List.all_nil,Bool.and_true])
 by_cases h0:s=0
 ·exact (OT.au (by simpa using h0)).trans ((OT.au hs).trans ((OT.au hs).trans (little (.inl h0))))
 ·refine (OT.aw (by simpa using h0)).trans ?_
  by_cases h1:s=1
  ·exact (OT.au (by simpa using h1)).trans ((OT.au hs).trans ((OT.au hs).trans (little (.inr h1))))
  ·refine (OT.aw (by simpa using h1)).trans ((OT.au hs).trans ((OT.au hs).trans ((OT.au hs).trans ?_)))
   have e:ofP (pS s) (mD (ofP (pS s) a) (ofP (pS s) b)).1=n8 (pS s) a b:=akY (iT hs) a b
   show some (⟨cl,((ofP (pS s) (mD (ofP (pS s) a) (ofP (pS s) b)).1,()),())⟩:fH.Y)=_
   rw [e]
def ym:bI:=(fH.aD jX ahS)
theorem UC:aa Try.prog 24 ym:=ann
theorem UB:aC ym:=ax
def Gz:Env:=av 24 ym Se
theorem zL:aI Try.prog Gz:=ag UC Gr
theorem Bi:aq Gz:=ab UB Gs
theorem WR:aP Try.prog te Gz:=aF follows ap zL Bi
def iG:ao:=⟨[.val false .int,.val true .elem],[],true,0,false⟩
abbrev IZ:Type:=((Int)×(ac)×Unit)×(Unit)
def kJ:ar:=⟨[.val true .elem],[],false⟩
def O1:SV->Option ar:=λ_=>some kJ
def Uc (a0:Int) (a1:ac):OT iG.Y:=
 let z0:Bool:=ak a0
 let z1:Nat:=pS a0
 let z2:ac:=(aL (Int.toNat a0)).fst
 let z3:ac:= {w0:=0,w1:=0,w2:=0,w3:=0}
 (.br (z0)
 (.br (z0)
  (.br (z0)
   (.ok ⟨kJ,((ofP z1 (fo z2 (ofP z1 a1)).fst,()),())⟩)
   (.ok ⟨kJ,((z3,()),())⟩))
  (.br (z0)
   (.ok ⟨kJ,((ofP z1 (fo z2 z3).fst,()),())⟩)
   (.ok ⟨kJ,((z3,()),())⟩)))
 (.ok ⟨kJ,((z3,()),())⟩))
theorem asF (x:IZ) (Q:iG.Y->Prop):wpf te Gz ay 1000 Try.f41 (iG.inp.inj x).tm (iG.inp.inj x).hp (fnK iG O1 Q) (λ_ _=>False)=(Uc (x.1.1) (x.1.2.1)).wpR Q:=by kernel_rfl
theorem abY (pre:IZ->Bool) (F:IZ->OT iG.Y) (hF:∀ (x:IZ) oy,pre x=true->(F x).run=some oy->(Uc (x.1.1) (x.1.2.1)).run=some oy):aa Try.prog 41 (iG.aD pre F):=
 aB ap zL WR (f:=41) (fn:=Try.f41) (c:=al Try.f41) (by kernel_rfl) (by kernel_rfl) (by kernel_rfl) (S:=iG) (k:=0) (by kernel_rfl) (λR hR=>af) (n:=1000) (sel:=O1) (λv o h=>by cases h;rfl) (pre:=pre) (F:=F) (T:=λx=>Uc (x.1.1) (x.1.2.1)) (λx Q=>asF x Q) hF
theorem neg_eq {s:Int} (hs:ak s=true) (a:ac):ofP (pS s) (fo (aL s.toNat).1 (ofP (pS s) a)).1=HA (pS s) a:=by
 have hp:=iT hs
 have hlt:=Nat.mod_lt a.nat hp.1
 have e:(ofP (pS s) a).nat=a.nat%pS s:=cj hp
 unfold HA
 have e2:(fo (aL s.toNat).1 (ofP (pS s) a)).1.nat=pS s-a.nat%pS s:=by
  rw [kC (by rw [e];exact Nat.le_of_lt hlt),e]
  rfl
 show ofN (_%_)=_
 rw [e2]
def Dt (x:IZ):Bool:=ak x.1.1
def ahE (x:IZ):OT iG.Y:=.ok ⟨kJ,((HA (pS x.1.1) x.1.2.1,()),())⟩
theorem ana:aa Try.prog 41 (iG.aD Dt ahE):=abY _ _ λx oy hp ho=>by
 rw [<-ho]
 clear ho
 obtain ⟨⟨s,a,⟨⟩⟩,⟨⟩⟩:=x
 have hs:ak s=true:=hp
 show _=some (⟨kJ,((HA (pS s) a,()),())⟩:iG.Y)
 rw [<-neg_eq hs]
 exact (OT.au hs).trans ((OT.au hs).trans ((OT.au hs).trans rfl))
def xZ:bI:=(iG.aD Dt ahE)
theorem Ub:aa Try.prog 41 xZ:=ana
theorem Ua:aC xZ:=ax
def zF:Env:=av 41 xZ Gz
theorem rJ:aI Try.prog zF:=ag Ub zL
theorem Ba:aq zF:=ab Ua Bi
theorem Gt:aP Try.prog te zF:=aF follows ap rJ Ba
def fG:ao:=⟨[.val false .int,.val true .elem,.val true .elem],[],true,0,false⟩
abbrev I0:Type:=((Int)×(ac)×(ac)×Unit)×(Unit)
def uS:Shape:=⟨80,[(4,.ptr 0 0 0),(5,.ptr 1 0 0),(6,.ptr 2 0 0),(7,.ptr 3 0 0),(9,.ptr 4 0 0),(10,.val false .int)],[(0,.row .u64),(1,.row .u64),(2,.row .u64),(3,.row .u64),(4,.row .u64)],0,true⟩
abbrev bO:Type:=((Unit)×(Unit)×(Unit)×(Unit)×(Unit)×(Int)×Unit)×((List (UInt64))×(List (UInt64))×(List (UInt64))×(List (UInt64))×(List (UInt64))×Unit)
def qD:Shape:=⟨80,[(6,.ptr 0 0 0),(9,.ptr 1 0 0)],[(0,.row .u64),(1,.row .u64)],0,true⟩
abbrev jO:Type:=((Unit)×(Unit)×Unit)×((List (UInt64))×(List (UInt64))×Unit)
def YY:SE->Option Shape:=kv [(0,qD)] none
def Lu (a10:Int) (c0:List (UInt64)) (c1:List (UInt64)) (c2:List (UInt64)) (c3:List (UInt64)) (c4:List (UInt64)):OT (Sum bO aJ):=
 let z0:Nat:=List.length c4
 let z1:Bool:=decide (4<=z0)
 let z2:ac:= {w0:=List.getD c4 0 0,w1:=List.getD c4 1 0,w2:=List.getD c4 2 0,w3:=List.getD c4 3 0}
 let z3:=(mD z2 z2).fst
 let z4:List UInt64:=List.set (List.set (List.set (List.set c4 0 z3.w0) 1 z3.w1) 2 z3.w2) 3 z3.w3
 let z5:Nat:=List.length z4
 let z6:Bool:=decide (4<=z5)
 let z7:Bool:=decide (4<=List.length c3)
 let z8:ac:= {w0:=List.getD z4 0 0,w1:=List.getD z4 1 0,w2:=List.getD z4 2 0,w3:=List.getD z4 3 0}
 let z9:ac:= {w0:=List.getD c3 0 0,w1:=List.getD c3 1 0,w2:=List.getD c3 2 0,w3:=List.getD c3 3 0}
 let z10:Nat:=ac.nat z9
 let z11:Int:=Int.tdiv a10 (64:Int)
 let z12:Bool:=true&&inR z11
 let z13:Bool:=inB z11 4
 let z14:Bool:=decide (Int.toNat z11+0<List.length c1)
 let z15:=(fo z8 z9).fst
 let z16:List UInt64:=List.set (List.set (List.set (List.set z4 0 z15.w0) 1 z15.w1) 2 z15.w2) 3 z15.w3
 let z17:Nat:=List.length z16
 let z18:Bool:=decide (4<=List.length c0)
 let z19:ac:= {w0:=List.getD c0 0 0,w1:=List.getD c0 1 0,w2:=List.getD c0 2 0,w3:=List.getD c0 3 0}
 let z20:ac:=(mD {w0:=List.getD z16 0 0,w1:=List.getD z16 1 0,w2:=List.getD z16 2 0,w3:=List.getD z16 3 0} z19).fst
 let z21:List UInt64:=List.set (List.set (List.set (List.set z16 0 z20.w0) 1 z20.w1) 2 z20.w2) 3 z20.w3
 let z22:Nat:=List.length z21
 let z23:Bool:=decide (4<=z22)
 let z24:ac:= {w0:=List.getD z21 0 0,w1:=List.getD z21 1 0,w2:=List.getD z21 2 0,w3:=List.getD z21 3 0}
 let z25:Bool:=inR (a10-(1:Int))
 let z26:=(fo z24 z9).fst
 let z27:=(mD z8 z19).fst
 let z28:List UInt64:=List.set (List.set (List.set (List.set z4 0 z27.w0) 1 z27.w1) 2 z27.w2) 3 z27.w3
 let z29:Nat:=List.length z28
 let z30:Bool:=decide (4<=z29)
 let z31:ac:= {w0:=List.getD z28 0 0,w1:=List.getD z28 1 0,w2:=List.getD z28 2 0,w3:=List.getD z28 3 0}
 let z32:=(fo z31 z9).fst
 (.br (decide ((0:Int)<=a10))
 (gd [z1,z1,decide ((4/1:Nat)+0<=z0),z6,z7] (.br (!Nat.blt (ac.nat z8) z10)
  (gd [z6,z7,decide ((4/1:Nat)+0<=z5),z12,z13,z14] (.br (aT (List.getD c1 (Int.toNat z11+0) (0:UInt64)) (↑(UInt64.toNat (i2u (Int.tmod a10 (64:Int)))):Int)&&&(1:UInt64)==(1:UInt64))
   (gd [decide (4<=z17),z18,decide ((4/1:Nat)+0<=z17),z23,z7] (.br (!Nat.blt (ac.nat z24) z10)
    (gd [z23,z7,decide ((4/1:Nat)+0<=z22),z25] (.ok (.inl (((),((),((),((),((),(a10-(1:Int),())))))),(c0,(c1,(c2,(c3,(List.set (List.set (List.set (List.set z21 0 z26.w0) 1 z26.w1) 2 z26.w2) 3 z26.w3,())))))))))
    (gd [z25] (.ok (.inl (((),((),((),((),((),(a10-(1:Int),())))))),(c0,(c1,(c2,(c3,(z21,())))))))))))
   (gd [z25] (.ok (.inl (((),((),((),((),((),(a10-(1:Int),())))))),(c0,(c1,(c2,(c3,(z16,())))))))))))
  (gd [z12,z13,z14] (.br (aT (List.getD c1 (Int.toNat z11+0) (0:UInt64)) (↑(UInt64.toNat (i2u (Int.tmod a10 (64:Int)))):Int)&&&(1:UInt64)==(1:UInt64))
   (gd [z6,z18,decide ((4/1:Nat)+0<=z5),z30,z7] (.br (!Nat.blt (ac.nat z31) z10)
    (gd [z30,z7,decide ((4/1:Nat)+0<=z29),z25] (.ok (.inl (((),((),((),((),((),(a10-(1:Int),())))))),(c0,(c1,(c2,(c3,(List.set (List.set (List.set (List.set z28 0 z32.w0) 1 z32.w1) 2 z32.w2) 3 z32.w3,())))))))))
    (gd [z25] (.ok (.inl (((),((),((),((),((),(a10-(1:Int),())))))),(c0,(c1,(c2,(c3,(z28,())))))))))))
   (gd [z25] (.ok (.inl (((),((),((),((),((),(a10-(1:Int),())))))),(c0,(c1,(c2,(c3,(z4,())))))))))))))
 (.ok (.inr ⟨(.exit 0,qD),(((),((),())),(c2,(c4,())))⟩)))
def qE (s:bO):OT (Sum bO aJ):=Lu (s.1.2.2.2.2.2.1) (s.2.1) (s.2.2.1) (s.2.2.2.1) (s.2.2.2.2.1) (s.2.2.2.2.2.1)
theorem anb (s:bO) (Q:Sum bO aJ->Prop):wps te zF ay 1000 (bk (al Try.f81) 0) (uS.inj s) (cO uS YY (Q:Sum uS.T aJ->Prop))=(qE s).wpR Q:=by kernel_rfl
def B2 (g0_0:bO->jO) (s:bO):OT aJ:=(.ok ⟨(.exit 0,qD),g0_0 s⟩)
def cM:ar:=⟨[.val true .elem],[],false⟩
def O2:SV->Option ar:=λ_=>some cM
def Uf (ok0:bO->Bool) (g0_0:bO->jO) (a0:Int) (a1:ac) (a2:ac):OT fG.Y:=
 let z0:Bool:=ak a0
 let z1:UInt64:=NJ a0
 let z2:Bool:= !z1==(0:UInt64)
 let z3:Nat:=pS a0
 let z4:ac:=ofP z3 a1
 let z5:=z4.w0
 let z6:ac:=ofP z3 a2
 let z7:=z6.w0
 let z8:ac:= {w0:=z5*z7%z1,w1:=0,w2:=0,w3:=0}
 let z9:ac:= {w0:=z5*(0:UInt64)%z1,w1:=0,w2:=0,w3:=0}
 let z10:ac:= {w0:=0*z7%z1,w1:=0,w2:=0,w3:=0}
 let z11:ac:= {w0:=0%z1,w1:=0,w2:=0,w3:=0}
 let z12:PUnit×PUnit×PUnit×PUnit×PUnit×Int×PUnit:=((),(),(),(),(),(255:Int),())
 let z13:ac:=(aL (Int.toNat a0)).fst
 let z14:List UInt64×List UInt64×List UInt64×PUnit:=([(0:UInt64),(0:UInt64),(0:UInt64),(0:UInt64)],[z13.w0,z13.w1,z13.w2,z13.w3],[(0:UInt64),(0:UInt64),(0:UInt64),(0:UInt64)],())
 let z15:List UInt64×List UInt64×List UInt64×List UInt64×PUnit:=([z7,z6.w1,z6.w2,z6.w3],z14)
 let z16:(PUnit×PUnit×PUnit×PUnit×PUnit×Int×PUnit)×List UInt64×List UInt64×List UInt64×List UInt64×List UInt64×PUnit:=(z12,[z5,z4.w1,z4.w2,z4.w3],z15)
 let z17:=(g0_0 z16).snd
 let z18:=z17.snd.fst
 let z19:=z17.fst
 let z20:List UInt64:=lay z19 z18 4 (0:UInt64)
 let z21:List UInt64×List UInt64×List UInt64×List UInt64×PUnit:=([(0:UInt64),(0:UInt64),(0:UInt64),(0:UInt64)],z14)
 let z22:(PUnit×PUnit×PUnit×PUnit×PUnit×Int×PUnit)×List UInt64×List UInt64×List UInt64×List UInt64×List UInt64×PUnit:=(z12,[z5,z4.w1,z4.w2,z4.w3],z21)
 let z23:=(g0_0 z22).snd
 let z24:=z23.snd.fst
 let z25:=z23.fst
 let z26:List UInt64:=lay z25 z24 4 (0:UInt64)
 let z27:(PUnit×PUnit×PUnit×PUnit×PUnit×Int×PUnit)×List UInt64×List UInt64×List UInt64×List UInt64×List UInt64×PUnit:=(z12,[(0:UInt64),(0:UInt64),(0:UInt64),(0:UInt64)],z15)
 let z28:=(g0_0 z27).snd
 let z29:=z28.snd.fst
 let z30:=z28.fst
 let z31:List UInt64:=lay z30 z29 4 (0:UInt64)
 let z32:(PUnit×PUnit×PUnit×PUnit×PUnit×Int×PUnit)×List UInt64×List UInt64×List UInt64×List UInt64×List UInt64×PUnit:=(z12,[(0:UInt64),(0:UInt64),(0:UInt64),(0:UInt64)],z21)
 let z33:=(g0_0 z32).snd
 let z34:=z33.snd.fst
 let z35:=z33.fst
 let z36:List UInt64:=lay z35 z34 4 (0:UInt64)
 (.br (a0==(0:Int))
 (.br (z0)
  (.br (z0)
   (gd [z2] (.ok ⟨cM,((z8,()),())⟩))
   (gd [z2] (.ok ⟨cM,((z9,()),())⟩)))
  (.br (z0)
   (gd [z2] (.ok ⟨cM,((z10,()),())⟩))
   (gd [z2] (.ok ⟨cM,((z11,()),())⟩))))
 (.br (a0==(1:Int))
  (.br (z0)
   (.br (z0)
    (gd [z2] (.ok ⟨cM,((z8,()),())⟩))
    (gd [z2] (.ok ⟨cM,((z9,()),())⟩)))
   (.br (z0)
    (gd [z2] (.ok ⟨cM,((z10,()),())⟩))
    (gd [z2] (.ok ⟨cM,((z11,()),())⟩))))
  (.br (z0)
   (.br (z0)
    (.br (z0)
     (gd [ok0 z16,decide (4<=List.length z18),decide ((4/1:Nat)+0<=List.length z19),decide (4<=List.length z20)] (.ok ⟨cM,(({w0:=List.getD z20 0 0,w1:=List.getD z20 1 0,w2:=List.getD z20 2 0,w3:=List.getD z20 3 0},()),())⟩))
     (gd [ok0 z22,decide (4<=List.length z24),decide ((4/1:Nat)+0<=List.length z25),decide (4<=List.length z26)] (.ok ⟨cM,(({w0:=List.getD z26 0 0,w1:=List.getD z26 1 0,w2:=List.getD z26 2 0,w3:=List.getD z26 3 0},()),())⟩)))
    (.br (z0)
     (gd [ok0 z27,decide (4<=List.length z29),decide ((4/1:Nat)+0<=List.length z30),decide (4<=List.length z31)] (.ok ⟨cM,(({w0:=List.getD z31 0 0,w1:=List.getD z31 1 0,w2:=List.getD z31 2 0,w3:=List.getD z31 3 0},()),())⟩))
     (gd [ok0 z32,decide (4<=List.length z34),decide ((4/1:Nat)+0<=List.length z35),decide (4<=List.length z36)] (.ok ⟨cM,(({w0:=List.getD z36 0 0,w1:=List.getD z36 1 0,w2:=List.getD z36 2 0,w3:=List.getD z36 3 0},()),())⟩))))
   (.ok ⟨cM,(({w0:=0,w1:=0,w2:=0,w3:=0},()),())⟩))))
theorem asG (ok0:bO->Bool) (g0_0:bO->jO) (x:I0) (Q:fG.Y->Prop):wpf te zF (bu 0 (dq uS 0 ok0 (B2 g0_0)) ay) 1000 Try.f81 (fG.inp.inj x).tm (fG.inp.inj x).hp (fnK fG O2 Q) (λ_ _=>False)=(Uf ok0 g0_0 (x.1.1) (x.1.2.1) (x.1.2.2.1)).wpR Q:=by kernel_rfl
theorem abZ (ok0:bO->Bool) (g0_0:bO->jO) (h0:∀ s:bO,ok0 s=true->∃ m e,aA (qE) m s=some e/\(B2 g0_0 s).run=some e) (pre:I0->Bool) (F:I0->OT fG.Y) (hF:∀ (x:I0) oy,pre x=true->(F x).run=some oy->(Uf ok0 g0_0 (x.1.1) (x.1.2.1) (x.1.2.2.1)).run=some oy):aa Try.prog 81 (fG.aD pre F):=
 aB ap rJ Gt (f:=81) (fn:=Try.f81) (c:=al Try.f81) (by kernel_rfl) (by kernel_rfl) (by kernel_rfl) (S:=fG) (k:=0) (by kernel_rfl) (λR hR=>(aH (c:=(al Try.f81)) (by kernel_rfl) (id:=0) (by kernel_rfl) (bn ap rJ Gt (sh:=uS) hR (xs:=YY) (aG (by kernel_rfl) (by kernel_rfl) hR) aV af (n:=1000) (T:=qE) (λs Q=>anb s Q) (ok:=ok0) (f:=B2 g0_0) h0) af)) (n:=1000) (sel:=O2) (λv o h=>by cases h;rfl) (pre:=pre) (F:=F) (T:=λx=>Uf ok0 g0_0 (x.1.1) (x.1.2.1) (x.1.2.2.1)) (λx Q=>asG ok0 g0_0 x Q) hF
theorem acv {s:Int} (h:s=0\/s=1) (a b:ac):(⟨(ofP (pS s) a).w0*(ofP (pS s) b).w0%NJ s,0,0,0⟩:ac)=cQ (pS s) a b:=by
 obtain ⟨hp,h0,h1,_⟩:=vi h
 rw [hp]
 generalize NJ s=m at*
 have ha:=Nat.mod_lt a.nat h0
 have hb:=Nat.mod_lt b.nat h0
 have hc:=Nat.mod_lt (a.nat*b.nat) h0
 have hab:a.nat%m.toNat*(b.nat%m.toNat)<18446744073709551616:=by
  have:a.nat%m.toNat*(b.nat%m.toNat)<=16521217*16521217:=Nat.mul_le_mul (by omega) (by omega)
  omega
 unfold cQ
 rw [oR (n:=a.nat*b.nat%m.toNat) (by omega)]
 have e:(ofP m.toNat a).w0*(ofP m.toNat b).w0%m=UInt64.ofNat (a.nat*b.nat%m.toNat):=by
  show UInt64.ofNat (a.nat%m.toNat)*UInt64.ofNat (b.nat%m.toNat)%m=_
  rw [<-UInt64.toNat_inj,UInt64.toNat_mod,UInt64.toNat_mul,UInt64.toNat_ofNat',UInt64.toNat_ofNat',UInt64.toNat_ofNat',Nat.mod_eq_of_lt (a:=a.nat%m.toNat) (by omega),Nat.mod_eq_of_lt (a:=b.nat%m.toNat) (by omega),
   Nat.mod_eq_of_lt (a:=a.nat%m.toNat*(b.nat%m.toNat)) (by omega),Nat.mod_eq_of_lt (a:=a.nat*b.nat%m.toNat) (by omega),<-Nat.mul_mod]
 rw [e]
def vK (p a b:Nat) (n o:Nat):Nat:=cond (aee b (255-n)) ((2*o%p+a)%p) (2*o%p)
theorem ajW (p a b:Nat) (hb:b<2^256):∀ n,n<=256->upto (vK p a b) 0 n=a*(b/2^(256-n))%p
 |0,_=>by
  show 0=_
  rw [Nat.div_eq_of_lt (by exact hb),Nat.mul_zero,Nat.zero_mod]
 |n+1,hn=>by
  show vK p a b n (upto (vK p a b) 0 n)=_
  rw [ajW p a b hb n (by omega)]
  have e1:256-n=(255-n)+1:=by omega
  have e2:256-(n+1)=255-n:=by omega
  rw [e1,e2,Nat.pow_succ,<-Nat.div_div_eq_div_mul]
  unfold vK aee
  generalize b/2^(255-n)=q
  have hd:2*(a*(q/2)%p)%p=a*(2*(q/2))%p:=by
   rw [Nat.mul_mod,Nat.mod_mod,<-Nat.mul_mod,Nat.mul_left_comm]
  cases hq:Nat.beq (q%2) 1
  ·simp only [cond_false]
   have:¬q%2=1:=λe=>by rw [e] at hq;cases hq
   rw [hd,show 2*(q/2)=q by omega]
  ·have hq:=Nat.eq_of_beq_eq_true hq
   simp only [cond_true]
   rw [hd,Nat.mod_add_mod]
   have e3:a*(2*(q/2))+a=a*q:=by
    rw [<-Nat.mul_succ,show (2*(q/2)).succ=q by omega]
   rw [e3]
theorem au2 {z M:ac} (h:Nat.blt z.nat M.nat=true):z=ofN (z.nat%M.nat):=by
 rw [Nat.mod_eq_of_lt (dA h),m9]
theorem aic {n m:Nat} (h:Nat.blt n m=false):m<=n:=by
 rcases Nat.lt_or_ge n m with h'|h'
 ·have:Nat.blt n m=true:=Nat.ble_eq_true_of_le h'
  rw [this] at h;cases h
 ·exact h'
theorem au1 {z M:ac} (h:Nat.blt z.nat M.nat=false) (h2:z.nat<2*M.nat):(fo z M).1=ofN (z.nat%M.nat):=by
 have hle:=aic h
 have hz:=gO z
 apply jZ
 rw [kC hle,Nat.mod_eq_sub_mod hle,Nat.mod_eq_of_lt (by omega),iJ (by omega)]
theorem sum_nat {a b:ac} (h:a.nat+b.nat<115792089237316195423570985008687907853269984665640564039457584007913129639936):(mD a b).1.nat=a.nat+b.nat:=iJ h
theorem PU {k:Nat} (hk:k<64):(((i2u (k:Int)).toNat:Nat):Int)=(k:Int):=by
 unfold i2u
 rw [UInt64.toNat_ofNat']
 omega
theorem ap0 {b:ac} {n:Nat} (hn:n<256):(aT (List.getD (lst b) (Int.toNat (Int.tdiv (255-(n:Int)) 64)+0) 0) (((i2u (Int.tmod (255-(n:Int)) 64)).toNat:Nat):Int)&&&1==1)=aee b.nat (255-n):=by
 have t0:(255:Int)-(n:Int)=((255-n:Nat):Int):=by omega
 rw [t0]
 generalize hk:255-n=k
 have hk2:k<256:=by omega
 have t1:Int.tdiv (k:Int) 64=((k/64:Nat):Int):=by rw [Int.tdiv_eq_ediv_of_nonneg (by omega)];omega
 have t2:Int.tmod (k:Int) 64=((k%64:Nat):Int):=by rw [Int.tmod_eq_emod_of_nonneg (by omega)];omega
 rw [t1,t2,PU (by omega),Wj,eI _ _ (by omega),Int.toNat_natCast,Nat.add_zero]
 have:=aaG (a:=b) (q:=k/64) (r:=k%64) (by omega) (by omega)
 rw [show 64*(k/64)+k%64=k by omega] at this
 unfold aee
 rw [<-this]
theorem at6 (e f:ac):List.set (List.set (List.set (List.set (lst e) 0 f.w0) 1 f.w1) 2 f.w2) 3 f.w3=lst f:=rfl
theorem aug (e:ac):(⟨List.getD (lst e) 0 0,List.getD (lst e) 1 0,List.getD (lst e) 2 0,List.getD (lst e) 3 0⟩:ac)=e:=rfl
def ajX (A B:ac) (c2:List UInt64) (M:ac) (n o:Nat):bO:=(((),(),(),(),(),255-(n:Int),()),(lst A,lst B,c2,lst M,lst (ofN o),()))
theorem atN {A B M:ac} {c2:List UInt64} {n o:Nat} (hn:n<256) (hA:A.nat<M.nat) (ho:o<M.nat) (hM:2*M.nat<=115792089237316195423570985008687907853269984665640564039457584007913129639936):
 (qE (ajX A B c2 M n o)).run=some (.inl (ajX A B c2 M (n+1) (vK M.nat A.nat B.nat n o))):=by
 have e2:(255:Int)-(n:Int)-1=255-((n+1:Nat):Int):=by omega
 have hO:(ofN o).nat=o:=iJ (by omega)
 have hz:(mD (ofN o) (ofN o)).1.nat=2*o:=by rw [sum_nat (by omega),hO];omega
 have hbit:=ap0 (b:=B) hn
 have t0:(255:Int)-(n:Int)=((255-n:Nat):Int):=by omega
 have t1:Int.tdiv (255-(n:Int)) 64=(((255-n)/64:Nat):Int):=by rw [t0,Int.tdiv_eq_ediv_of_nonneg (by omega)];omega
 have gb:∀ z:OT (Sum bO aJ),(gd [true&&inR (Int.tdiv (255-(n:Int)) 64),inB (Int.tdiv (255-(n:Int)) 64) 4,decide (Int.toNat (Int.tdiv (255-(n:Int)) 64)+0<(lst B).length)] z).run=z.run:=λz=>ah (by
  simp only [t1,Int.toNat_natCast,Nat.add_zero,cE,List.all_cons,List.all_nil,Bool.and_true,Bool.true_and,Bool.and_eq_true]
  exact ⟨aS (by omega),bc (by omega),decide_eq_true (by omega)⟩)
 have gb2:∀ z:OT (Sum bO aJ),(gd [true,true,true,true&&inR (Int.tdiv (255-(n:Int)) 64),inB (Int.tdiv (255-(n:Int)) 64) 4,decide (Int.toNat (Int.tdiv (255-(n:Int)) 64)+0<(lst B).length)] z).run=z.run:=λz=>ah (by
  simp only [t1,Int.toNat_natCast,Nat.add_zero,cE,List.all_cons,List.all_nil,Bool.and_true,Bool.true_and,Bool.and_eq_true]
  exact ⟨aS (by omega),bc (by omega),decide_eq_true (by omega)⟩)
 have hi:inR ((255:Int)-(n:Int)-1)=true:=aS (by omega)
 have gi:∀ z:OT (Sum bO aJ),(gd [inR ((255:Int)-(n:Int)-1)] z).run=z.run:=λz=>ah (by simp only [hi,List.all_cons,List.all_nil,Bool.and_true])
 have gi2:∀ z:OT (Sum bO aJ),(gd [true,true,true,inR ((255:Int)-(n:Int)-1)] z).run=z.run:=λz=>ah (by simp only [hi,List.all_cons,List.all_nil,Bool.and_true])
 --behind the doubling
 have tail:∀ D:ac,D=ofN (2*o%M.nat)->
  (OT.br (aT (List.getD (lst B) (Int.toNat (Int.tdiv (255-(n:Int)) 64)+0) 0) (((i2u (Int.tmod (255-(n:Int)) 64)).toNat:Nat):Int)&&&1==1)
   (gd [true,true,true,true,true] (OT.br (!Nat.blt (mD D A).1.nat M.nat)
    (gd [true,true,true,inR ((255:Int)-(n:Int)-1)] (.ok (.inl (((),(),(),(),(),(255:Int)-(n:Int)-1,()),(lst A,lst B,c2,lst M,lst (fo (mD D A).1 M).1,())))))
    (gd [inR ((255:Int)-(n:Int)-1)] (.ok (.inl (((),(),(),(),(),(255:Int)-(n:Int)-1,()),(lst A,lst B,c2,lst M,lst (mD D A).1,())))))))
   (gd [inR ((255:Int)-(n:Int)-1)] (.ok (.inl (((),(),(),(),(),(255:Int)-(n:Int)-1,()),(lst A,lst B,c2,lst M,lst D,()))))):OT (Sum bO aJ)).run
  =some (.inl (ajX A B c2 M (n+1) (vK M.nat A.nat B.nat n o))):=λD hD=>by
  rw [hbit,e2]
  rw [e2] at gi gi2
  have hlt:=Nat.mod_lt (2*o) (show 0<M.nat by omega)
  have hDn:D.nat=2*o%M.nat:=by rw [hD];exact iJ (by omega)
  have hw:(mD D A).1.nat=2*o%M.nat+A.nat:=by rw [sum_nat (by omega),hDn]
  unfold vK
  rcases (Bool.eq_false_or_eq_true (aee B.nat (255-n))).symm with hb|hb
  ·rw [hb,hD]
   exact (OT.aw rfl).trans (gi _)
  ·rw [hb]
   refine (OT.au rfl).trans ((ah rfl).trans ?_)
   rcases (Bool.eq_false_or_eq_true (Nat.blt (mD D A).1.nat M.nat)).symm with hc|hc
   ·have er:=au1 hc (by omega)
    rw [hw] at er
    refine (OT.au (by rw [hc];rfl)).trans ((gi2 _).trans ?_)
    rw [er]
    rfl
   ·have er:=au2 hc
    rw [hw] at er
    refine (OT.aw (by rw [hc];rfl)).trans ((gi _).trans ?_)
    rw [er]
    rfl
 show (Lu (255-(n:Int)) (lst A) (lst B) c2 (lst M) (lst (ofN o))).run=_
 unfold Lu
 simp only [at6,aug,cE]
 refine (OT.au (decide_eq_true (by omega))).trans ((ah rfl).trans ?_)
 rcases (Bool.eq_false_or_eq_true (Nat.blt (mD (ofN o) (ofN o)).1.nat M.nat)).symm with hc|hc
 ·have er:=au1 hc (by omega)
  rw [hz] at er
  exact (OT.au (b:= !Nat.blt (mD (ofN o) (ofN o)).1.nat M.nat) (by rw [hc];rfl)).trans ((gb2 _).trans (tail _ er))
 ·have er:=au2 hc
  rw [hz] at er
  exact (OT.aw (b:= !Nat.blt (mD (ofN o) (ofN o)).1.nat M.nat) (by rw [hc];rfl)).trans ((gb _).trans (tail _ er))
def O3 (s:bO):Bool:=decide (s.1.2.2.2.2.2.1=255/\s.2.1.length=4/\s.2.2.1.length=4/\s.2.2.2.2.1.length=4/\s.2.2.2.2.2.1= [0,0,0,0]/\(elemOf s.2.1).nat<(elemOf s.2.2.2.2.1).nat/\2*(elemOf s.2.2.2.2.1).nat<=115792089237316195423570985008687907853269984665640564039457584007913129639936)
def YZ (s:bO):jO:=(((),(),()),(s.2.2.2.1,lst (ofN ((elemOf s.2.1).nat*(elemOf s.2.2.1).nat%(elemOf s.2.2.2.2.1).nat)),()))
theorem ane:∀ s:bO,O3 s=true->∃ m e,aA qE m s=some e/\(B2 YZ s).run=some e:=by
 rintro ⟨⟨⟨⟩,⟨⟩,⟨⟩,⟨⟩,⟨⟩,i,⟨⟩⟩,⟨l0,l1,c2,l3,l4,⟨⟩⟩⟩ h
 have h':=of_decide_eq_true h
 dsimp only at h'
 obtain ⟨rfl,h0,h1,h3,rfl,hA,hM⟩:=h'
 obtain ⟨A,rfl⟩:∃ a,l0=lst a:=⟨elemOf l0,(aM h0).symm⟩
 obtain ⟨B,rfl⟩:∃ a,l1=lst a:=⟨elemOf l1,(aM h1).symm⟩
 obtain ⟨M,rfl⟩:∃ a,l3=lst a:=⟨elemOf l3,(aM h3).symm⟩
 have hA:A.nat<M.nat:=hA
 have:=(bw (T:=qE) (ajX A B c2 M) (vK M.nat A.nat B.nat)
  (λo=>(⟨(.exit 0,qD),(((),(),()),(c2,lst (ofN o),()))⟩:aJ)) 256 0 (λ_ o=>o<M.nat) (by omega) (λn o hn ho=>⟨atN hn hA ho hM,?_⟩) (λo ho=> ?_)).1
 ·rw [ajW M.nat A.nat B.nat (gO B) 256 (by omega),Nat.sub_self,Nat.pow_zero,Nat.div_one] at this
  obtain ⟨m,hm⟩:=this
  exact ⟨m,_,hm,rfl⟩
 ·unfold vK
  cases aee B.nat (255-n)
  ·exact Nat.mod_lt _ (by omega)
  ·exact Nat.mod_lt _ (by omega)
 ·exact OT.aw (decide_eq_false (by dsimp only [ajX];omega))
def dH (x:I0):Bool:=ak x.1.1
def ahF (x:I0):OT fG.Y:=.ok ⟨cM,((cQ (pS x.1.1) x.1.2.1 x.1.2.2.1,()),())⟩
theorem aif {s:Int} (hs:ak s=true) (a b:ac):ofN ((ofP (pS s) a).nat*(ofP (pS s) b).nat%pS s)=cQ (pS s) a b:=by
 have hp:=iT hs
 unfold ofP cQ
 rw [cj hp,cj hp,<-Nat.mul_mod]
theorem anc:aa Try.prog 81 (fG.aD dH ahF):=abZ O3 YZ ane _ _ λx oy hp ho=>by
 rw [<-ho]
 clear ho
 obtain ⟨⟨s,a,b,⟨⟩⟩,⟨⟩⟩:=x
 have hs:ak s=true:=hp
 show _=some (⟨cM,((cQ (pS s) a b,()),())⟩:fG.Y)
 have little:(s=0\/s=1)->(gd [!(NJ s==0)] (.ok ⟨cM,((⟨(ofP (pS s) a).w0*(ofP (pS s) b).w0%NJ s,0,0,0⟩,()),())⟩):OT fG.Y).run=some (⟨cM,((cQ (pS s) a b,()),())⟩:fG.Y):=λh=>by
  obtain ⟨_,_,_,hz⟩:=vi h
  rw [acv h]
  exact ah (by simp only [hz,List.all_cons,List.all_nil,Bool.and_true])
 by_cases h0:s=0
 ·exact (OT.au (by simpa using h0)).trans ((OT.au hs).trans ((OT.au hs).trans (little (.inl h0))))
 ·refine (OT.aw (by simpa using h0)).trans ?_
  by_cases h1:s=1
  ·exact (OT.au (by simpa using h1)).trans ((OT.au hs).trans ((OT.au hs).trans (little (.inr h1))))
  ·refine (OT.aw (by simpa using h1)).trans ((OT.au hs).trans ((OT.au hs).trans ((OT.au hs).trans ?_)))
   have hpp:=iT hs
   have hA:(ofP (pS s) a).nat<pS s:=by
    show (ofN _).nat<_
    rw [cj hpp]
    exact Nat.mod_lt _ hpp.1
   refine (ah ?_).trans ?_
   ·simp only [List.all_cons,List.all_nil,Bool.and_true,Bool.and_eq_true]
    exact ⟨decide_eq_true ⟨rfl,rfl,rfl,rfl,rfl,hA,(by show 2*pS s<=_;omega)⟩,rfl,rfl,rfl⟩
   ·rw [<-aif hs]
    show some (⟨cM,((elemOf (lay [0,0,0,0] (lst (ofN ((ofP (pS s) a).nat*(ofP (pS s) b).nat%pS s))) 4 0),()),())⟩:fG.Y)=_
    rw [auc _ _ rfl rfl]
    rfl
def ya:bI:=(fG.aD dH ahF)
theorem Ue:aa Try.prog 81 ya:=anc
theorem Ud:aC ya:=ax
def tD:Env:=av 81 ya zF
theorem mo:aI Try.prog tD:=ag Ue rJ
theorem Bb:aq tD:=ab Ud Ba
theorem tC:aP Try.prog te tD:=aF follows ap mo Bb
def gT:ao:=⟨[.val false .int,.val true .elem,.val true .elem],[],true,0,false⟩
abbrev I8:Type:=((Int)×(ac)×(ac)×Unit)×(Unit)
def uW:Shape:=⟨53,[(0,.val false .int),(4,.ptr 0 0 0),(5,.ptr 1 0 0),(6,.ptr 2 0 0),(7,.ptr 3 0 0),(8,.val false .int)],[(0,.row .u64),(1,.row .u64),(2,.row .u64),(3,.row .u64)],0,true⟩
abbrev cn:Type:=((Int)×(Unit)×(Unit)×(Unit)×(Unit)×(Int)×Unit)×((List (UInt64))×(List (UInt64))×(List (UInt64))×(List (UInt64))×Unit)
def lD:Shape:=⟨53,[(0,.val false .int),(4,.ptr 0 0 0),(5,.ptr 1 0 0),(6,.ptr 2 0 0),(7,.ptr 3 0 0),(8,.val false .int)],[(0,.row .u64),(1,.row .u64),(2,.row .u64),(3,.row .u64)],0,true⟩
abbrev jT:Type:=((Int)×(Unit)×(Unit)×(Unit)×(Unit)×(Int)×Unit)×((List (UInt64))×(List (UInt64))×(List (UInt64))×(List (UInt64))×Unit)
def Y5:SE->Option Shape:=kv [(0,lD)] none
def anm (a0:Int) (a8:Int) (c0:List (UInt64)) (c1:List (UInt64)) (c2:List (UInt64)) (c3:List (UInt64)):OT (Sum cn aJ):=
 let z0:Int:=Int.tdiv a8 (64:Int)
 (.br (decide ((0:Int)<=a8))
 (gd [true&&inR z0,inB z0 4,decide (Int.toNat z0+0<List.length c1)] (.br (aT (List.getD c1 (Int.toNat z0+0) (0:UInt64)) (↑(UInt64.toNat (i2u (Int.tmod a8 (64:Int)))):Int)&&&(1:UInt64)==(0:UInt64))
  (gd [inR (a8-(1:Int))] (.ok (.inl ((a0,((),((),((),((),(a8-(1:Int),())))))),(c0,(c1,(c2,(c3,()))))))))
  (.ok (.inr ⟨(.exit 0,lD),((a0,((),((),((),((),(a8,())))))),(c0,(c1,(c2,(c3,())))))⟩))))
 (.ok (.inr ⟨(.exit 0,lD),((a0,((),((),((),((),(a8,())))))),(c0,(c1,(c2,(c3,())))))⟩)))
def uX (s:cn):OT (Sum cn aJ):=anm (s.1.1) (s.1.2.2.2.2.2.1) (s.2.1) (s.2.2.1) (s.2.2.2.1) (s.2.2.2.2.1)
theorem ani (s:cn) (Q:Sum cn aJ->Prop):wps te tD ay 1000 (bk (al Try.f77) 0) (uW.inj s) (cO uW Y5 (Q:Sum uW.T aJ->Prop))=(uX s).wpR Q:=by kernel_rfl
def B4 (g0_0:cn->jT) (s:cn):OT aJ:=(.ok ⟨(.exit 0,lD),g0_0 s⟩)
def uV:Shape:=⟨53,[(0,.val false .int),(4,.ptr 0 0 0),(5,.ptr 1 0 0),(6,.ptr 2 0 0),(7,.ptr 3 0 0),(9,.val false .int)],[(0,.row .u64),(1,.row .u64),(2,.row .u64),(3,.row .u64)],0,true⟩
abbrev cB:Type:=((Int)×(Unit)×(Unit)×(Unit)×(Unit)×(Int)×Unit)×((List (UInt64))×(List (UInt64))×(List (UInt64))×(List (UInt64))×Unit)
def qJ:Shape:=⟨53,[(6,.ptr 0 0 0),(7,.ptr 1 0 0)],[(0,.row .u64),(1,.row .u64)],0,true⟩
abbrev jS:Type:=((Unit)×(Unit)×Unit)×((List (UInt64))×(List (UInt64))×Unit)
def Y4:SE->Option Shape:=kv [(2,qJ)] none
def Lz (a0:Int) (a9:Int) (c0:List (UInt64)) (c1:List (UInt64)) (c2:List (UInt64)) (c3:List (UInt64)):OT (Sum cB aJ):=
 let z0:Nat:=List.length c3
 let z1:Bool:=decide (4<=z0)
 let z2:ac:= {w0:=List.getD c3 0 0,w1:=List.getD c3 1 0,w2:=List.getD c3 2 0,w3:=List.getD c3 3 0}
 let z3:Int:=Int.tdiv a9 (64:Int)
 let z4:Nat:=pS a0
 let z5:ac:=cQ z4 z2 z2
 let z6:List UInt64:=List.set (List.set (List.set (List.set c3 0 z5.w0) 1 z5.w1) 2 z5.w2) 3 z5.w3
 let z7:Nat:=List.length z6
 let z8:ac:= {w0:=List.getD z6 0 0,w1:=List.getD z6 1 0,w2:=List.getD z6 2 0,w3:=List.getD z6 3 0}
 let z9:ac:= {w0:=List.getD c0 0 0,w1:=List.getD c0 1 0,w2:=List.getD c0 2 0,w3:=List.getD c0 3 0}
 let z10:Bool:=inR (a9-(1:Int))
 let z11:ac:=cQ z4 z8 z9
 (.br (decide ((0:Int)<=a9))
 (gd [z1,z1,dH ((a0,z2,z2,()),()),decide ((4/1:Nat)+0<=z0),true&&inR z3,inB z3 4,decide (Int.toNat z3+0<List.length c1)] (.br (aT (List.getD c1 (Int.toNat z3+0) (0:UInt64)) (↑(UInt64.toNat (i2u (Int.tmod a9 (64:Int)))):Int)&&&(1:UInt64)==(1:UInt64))
  (gd [decide (4<=z7),decide (4<=List.length c0),dH ((a0,z8,z9,()),()),decide ((4/1:Nat)+0<=z7),z10] (.ok (.inl ((a0,((),((),((),((),(a9-(1:Int),())))))),(c0,(c1,(c2,(List.set (List.set (List.set (List.set z6 0 z11.w0) 1 z11.w1) 2 z11.w2) 3 z11.w3,()))))))))
  (gd [z10] (.ok (.inl ((a0,((),((),((),((),(a9-(1:Int),())))))),(c0,(c1,(c2,(z6,()))))))))))
 (.ok (.inr ⟨(.exit 2,qJ),(((),((),())),(c2,(c3,())))⟩)))
def qK (s:cB):OT (Sum cB aJ):=Lz (s.1.1) (s.1.2.2.2.2.2.1) (s.2.1) (s.2.2.1) (s.2.2.2.1) (s.2.2.2.2.1)
theorem anh (s:cB) (Q:Sum cB aJ->Prop):wps te tD ay 1000 (bk (al Try.f77) 2) (uV.inj s) (cO uV Y4 (Q:Sum uV.T aJ->Prop))=(qK s).wpR Q:=by kernel_rfl
def B3 (g2_2:cB->jS) (s:cB):OT aJ:=(.ok ⟨(.exit 2,qJ),g2_2 s⟩)
def qI:ar:=⟨[.val true .elem],[],false⟩
def Pf:SV->Option ar:=λ_=>some qI
def Ut (ok0:cn->Bool) (g0_0:cn->jT) (ok2:cB->Bool) (g2_2:cB->jS) (a0:Int) (a1:ac) (a2:ac):OT gT.Y:=
 let z0:Int×PUnit×PUnit×PUnit×PUnit×Int×PUnit:=(a0,(),(),(),(),(255:Int),())
 let z1:ac:=ofP (pS a0) {w0:=1,w1:=0,w2:=0,w3:=0}
 let z2:(Int×PUnit×PUnit×PUnit×PUnit×Int×PUnit)×List UInt64×List UInt64×List UInt64×List UInt64×PUnit:=(z0,[a1.w0,a1.w1,a1.w2,a1.w3],[a2.w0,a2.w1,a2.w2,a2.w3],[(0:UInt64),(0:UInt64),(0:UInt64),(0:UInt64)],[z1.w0,z1.w1,z1.w2,z1.w3],())
 let z3:(Int×PUnit×PUnit×PUnit×PUnit×Int×PUnit)×List UInt64×List UInt64×List UInt64×List UInt64×PUnit:=g0_0 z2
 let z4:=z3.fst
 let z5:=z3.snd
 let z6:=z5.snd
 let z7:=z6.snd
 let z8:(Int×PUnit×PUnit×PUnit×PUnit×Int×PUnit)×List UInt64×List UInt64×List UInt64×List UInt64×PUnit:=((z4.fst,(),(),(),(),z4.snd.snd.snd.snd.snd.fst,()),z5.fst,z6.fst,z7.fst,z7.snd.fst,())
 let z9:=(g2_2 z8).snd
 let z10:=z9.snd.fst
 let z11:=z9.fst
 let z12:List UInt64:=lay z11 z10 4 (0:UInt64)
 let z13:(Int×PUnit×PUnit×PUnit×PUnit×Int×PUnit)×List UInt64×List UInt64×List UInt64×List UInt64×PUnit:=(z0,[a1.w0,a1.w1,a1.w2,a1.w3],[a2.w0,a2.w1,a2.w2,a2.w3],[(0:UInt64),(0:UInt64),(0:UInt64),(0:UInt64)],[(0:UInt64),(0:UInt64),(0:UInt64),(0:UInt64)],())
 let z14:(Int×PUnit×PUnit×PUnit×PUnit×Int×PUnit)×List UInt64×List UInt64×List UInt64×List UInt64×PUnit:=g0_0 z13
 let z15:=z14.fst
 let z16:=z14.snd
 let z17:=z16.snd
 let z18:=z17.snd
 let z19:(Int×PUnit×PUnit×PUnit×PUnit×Int×PUnit)×List UInt64×List UInt64×List UInt64×List UInt64×PUnit:=((z15.fst,(),(),(),(),z15.snd.snd.snd.snd.snd.fst,()),z16.fst,z17.fst,z18.fst,z18.snd.fst,())
 let z20:=(g2_2 z19).snd
 let z21:=z20.snd.fst
 let z22:=z20.fst
 let z23:List UInt64:=lay z22 z21 4 (0:UInt64)
 (.br (ak a0)
 (gd [ok0 z2,ok2 z8,decide (4<=List.length z10),decide ((4/1:Nat)+0<=List.length z11),decide (4<=List.length z12)] (.ok ⟨qI,(({w0:=List.getD z12 0 0,w1:=List.getD z12 1 0,w2:=List.getD z12 2 0,w3:=List.getD z12 3 0},()),())⟩))
 (gd [ok0 z13,ok2 z19,decide (4<=List.length z21),decide ((4/1:Nat)+0<=List.length z22),decide (4<=List.length z23)] (.ok ⟨qI,(({w0:=List.getD z23 0 0,w1:=List.getD z23 1 0,w2:=List.getD z23 2 0,w3:=List.getD z23 3 0},()),())⟩)))
theorem asJ (ok0:cn->Bool) (g0_0:cn->jT) (ok2:cB->Bool) (g2_2:cB->jS) (x:I8) (Q:gT.Y->Prop):wpf te tD (bu 2 (dq uV 2 ok2 (B3 g2_2)) (bu 0 (dq uW 0 ok0 (B4 g0_0)) ay)) 1000 Try.f77 (gT.inp.inj x).tm (gT.inp.inj x).hp (fnK gT Pf Q) (λ_ _=>False)=(Ut ok0 g0_0 ok2 g2_2 (x.1.1) (x.1.2.1) (x.1.2.2.1)).wpR Q:=by kernel_rfl
theorem ab7 (ok0:cn->Bool) (g0_0:cn->jT) (ok2:cB->Bool) (g2_2:cB->jS) (h0:∀ s:cn,ok0 s=true->∃ m e,aA (uX) m s=some e/\(B4 g0_0 s).run=some e) (h2:∀ s:cB,ok2 s=true->∃ m e,aA (qK) m s=some e/\(B3 g2_2 s).run=some e) (pre:I8->Bool) (F:I8->OT gT.Y) (hF:∀ (x:I8) oy,pre x=true->(F x).run=some oy->(Ut ok0 g0_0 ok2 g2_2 (x.1.1) (x.1.2.1) (x.1.2.2.1)).run=some oy):aa Try.prog 77 (gT.aD pre F):=
 aB ap mo tC (f:=77) (fn:=Try.f77) (c:=al Try.f77) (by kernel_rfl) (by kernel_rfl) (by kernel_rfl) (S:=gT) (k:=0) (by kernel_rfl) (λR hR=>(aH (c:=(al Try.f77)) (by kernel_rfl) (id:=2) (by kernel_rfl) (bn ap mo tC (sh:=uV) hR (xs:=Y4) (aG (by kernel_rfl) (by kernel_rfl) hR) aV af (n:=1000) (T:=qK) (λs Q=>anh s Q) (ok:=ok2) (f:=B3 g2_2) h2) (aH (c:=(al Try.f77)) (by kernel_rfl) (id:=0) (by kernel_rfl) (bn ap mo tC (sh:=uW) hR (xs:=Y5) (aG (by kernel_rfl) (by kernel_rfl) hR) aV af (n:=1000) (T:=uX) (λs Q=>ani s Q) (ok:=ok0) (f:=B4 g0_0) h0) af))) (n:=1000) (sel:=Pf) (λv o h=>by cases h;rfl) (pre:=pre) (F:=F) (T:=λx=>Ut ok0 g0_0 ok2 g2_2 (x.1.1) (x.1.2.1) (x.1.2.2.1)) (λx Q=>asJ ok0 g0_0 ok2 g2_2 x Q) hF
theorem UI {p:Nat}:∀ (n o x k:Nat),k<2^n->o<p->apF p n o x k=o*x^k%p
 |0,o,x,k,hk,ho=>by
  have:k=0:=by omega
  subst this
  show o=_
  rw [Nat.pow_zero,Nat.mul_one,Nat.mod_eq_of_lt ho]
 |n+1,o,x,k,hk,ho=>by
  unfold apF
  rw [Nat.pow_succ] at hk
  cases h0:Nat.beq k 0
  ·simp only [cond_false]
   have hsq:(x*x%p)^(k/2)%p=x^(2*(k/2))%p:=by
    rw [<-Nat.pow_mod,Nat.pow_mul,Nat.pow_two]
   cases h1:Nat.beq (k%2) 1
   ·have h1':¬k%2=1:=λe=>by rw [e] at h1;cases h1
    simp only [cond_false]
    rw [UI n _ _ _ (by omega) ho,Nat.mul_mod,hsq,<-Nat.mul_mod,show 2*(k/2)=k by omega]
   ·have h1:=Nat.eq_of_beq_eq_true h1
    simp only [cond_true]
    rw [UI n _ _ _ (by omega) (Nat.mod_lt _ (by omega)),Nat.mul_mod,hsq,Nat.mod_mod,<-Nat.mul_mod,Nat.mul_assoc,<-Nat.pow_succ',show (2*(k/2)).succ=k by omega]
  ·have h0:=Nat.eq_of_beq_eq_true h0
   subst h0
   simp only [cond_true]
   rw [Nat.pow_zero,Nat.mul_one,Nat.mod_eq_of_lt ho]
theorem ajH {p:Nat} (hp:1<p) (a k:ac):fS p a k=ofN (a.nat^k.nat%p):=by
 rw [MD (by omega),UI 256 1 _ _ (gO k) hp,Nat.one_mul,<-Nat.pow_mod]
theorem awN {b:ac} {k:Nat} (hk:k<256):(aT (List.getD (lst b) (Int.toNat (Int.tdiv (k:Int) 64)+0) 0) (((i2u (Int.tmod (k:Int) 64)).toNat:Nat):Int)&&&1==1)=aee b.nat k:=by
 have h:=ap0 (b:=b) (n:=255-k) (by omega)
 rw [show (255:Int)-((255-k:Nat):Int)=(k:Int) by omega,show 255-(255-k)=k by omega] at h
 exact h
theorem ap6 (x:UInt64):(x&&&1==0)= !(x&&&1==1):=by
 have h:=Wj x
 have e:(x&&&1).toNat=x.toNat%2:=by
  rw [UInt64.toNat_and]
  exact Nat.and_two_pow_sub_one_eq_mod x.toNat 1
 have h2:x.toNat%2=0\/x.toNat%2=1:=by omega
 rcases h2 with h2|h2
 ·have:x&&&1=0:=UInt64.toNat_inj.1 (by rw [e,h2];rfl)
  rw [this];rfl
 ·have:x&&&1=1:=UInt64.toNat_inj.1 (by rw [e,h2];rfl)
  rw [this];rfl
def aqN (e:Nat):Nat->Int
 |0=> -1
 |n+1=>cond (aee e n) (n:Int) (aqN e n)
theorem aaH {e n:Nat} (h:aee e n=false):e/2^n%2=0:=by
 unfold aee at h
 have:¬e/2^n%2=1:=λe=>by rw [e] at h;cases h
 omega
theorem Oh (e:Nat):∀ n,e/2^n=0->∃ t:Nat,aqN e n=(t:Int)-1/\t<=n/\e/2^t=0
 |0,h=>⟨0,rfl,Nat.le_refl _,h⟩
 |n+1,h=>by
  unfold aqN
  cases hb:aee e n
  ·simp only [cond_false]
   have h0:=aaH hb
   have h1:e/2^n/2=0:=by rw [Nat.div_div_eq_div_mul,<-Nat.pow_succ];exact h
   obtain ⟨t,e1,e2,e3⟩:=Oh e n (by omega)
   exact ⟨t,e1,by omega,e3⟩
  ·exact ⟨n+1,by simp only [cond_true];omega,Nat.le_refl _,h⟩
def HH (s:Int) (A B:ac) (c2:List UInt64) (O:ac) (i:Int):cn:=((s,(),(),(),(),i,()),(lst A,lst B,c2,lst O,()))
theorem avL {B:ac} {k:Nat} (hk:k<256) {α:Type} (z:OT α):(gd [true&&inR (Int.tdiv (k:Int) 64),inB (Int.tdiv (k:Int) 64) 4,decide (Int.toNat (Int.tdiv (k:Int) 64)+0<(lst B).length)] z).run=z.run:=by
 have t1:Int.tdiv (k:Int) 64=((k/64:Nat):Int):=by rw [Int.tdiv_eq_ediv_of_nonneg (by omega)];omega
 refine ah ?_
 simp only [t1,Int.toNat_natCast,Nat.add_zero,cE,List.all_cons,List.all_nil,Bool.and_true,Bool.true_and,Bool.and_eq_true]
 exact ⟨aS (by omega),bc (by omega),decide_eq_true (by omega)⟩
theorem aad (s:Int) (A B:ac) (c2:List UInt64) (O:ac):∀ n:Nat,n<=256->∃ m,aA uX m (HH s A B c2 O ((n:Int)-1))=some ⟨(.exit 0,lD),HH s A B c2 O (aqN B.nat n)⟩
 |0,_=>⟨1,bt (OT.aw (decide_eq_false (by dsimp only [HH];omega)))⟩
 |n+1,hn=>by
  have e1:((n+1:Nat):Int)-1=(n:Int):=by omega
  rw [e1]
  have hb:=awN (b:=B) (k:=n) (by omega)
  unfold aqN
  rcases (Bool.eq_false_or_eq_true (aee B.nat n)).symm with h|h
  ·obtain ⟨m,hm⟩:=aad s A B c2 O n (by omega)
   rw [h] at hb⊢
   refine ⟨m+1,aU ?_ hm⟩
   refine (OT.au (decide_eq_true (by dsimp only [HH];omega))).trans ((avL (B:=B) (k:=n) (by omega) _).trans ((OT.au ?_).trans ((ah ?_).trans rfl)))
   ·exact (ap6 _).trans (congrArg Bool.not hb)
   ·simp only [List.all_cons,List.all_nil,Bool.and_true]
    exact aS (by dsimp only [HH];omega)
  ·rw [h] at hb⊢
   refine ⟨1,bt ?_⟩
   refine (OT.au (decide_eq_true (by dsimp only [HH];omega))).trans ((avL (B:=B) (k:=n) (by omega) _).trans ((OT.aw ?_).trans rfl))
   exact (ap6 _).trans (congrArg Bool.not hb)
def Pg (s:cn):Bool:=decide (s.1.2.2.2.2.2.1=255/\s.2.1.length=4/\s.2.2.1.length=4/\s.2.2.2.2.1.length=4)
def Y7 (s:cn):jT:=((s.1.1,(),(),(),(),aqN (elemOf s.2.2.1).nat 256,()),s.2)
theorem anl:∀ s:cn,Pg s=true->∃ m e,aA uX m s=some e/\(B4 Y7 s).run=some e:=by
 rintro ⟨⟨s,⟨⟩,⟨⟩,⟨⟩,⟨⟩,i,⟨⟩⟩,⟨l0,l1,c2,l3,⟨⟩⟩⟩ h
 have h':=of_decide_eq_true h
 dsimp only at h'
 obtain ⟨rfl,h0,h1,h3⟩:=h'
 obtain ⟨A,rfl⟩:∃ a,l0=lst a:=⟨elemOf l0,(aM h0).symm⟩
 obtain ⟨B,rfl⟩:∃ a,l1=lst a:=⟨elemOf l1,(aM h1).symm⟩
 obtain ⟨O,rfl⟩:∃ a,l3=lst a:=⟨elemOf l3,(aM h3).symm⟩
 obtain ⟨m,hm⟩:=aad s A B c2 O 256 (by omega)
 exact ⟨m,_,hm,rfl⟩
theorem atE {s:Int} (hs:ak s=true) (A B:ac) (c2:List UInt64) (O:ac) {k:Nat} (hk:k<256) (hO:O=ofN (A.nat^(B.nat/2^(k+1))%pS s)):
 (qK (HH s A B c2 O (k:Int))).run=some (.inl (HH s A B c2 (ofN (A.nat^(B.nat/2^k)%pS s)) ((k:Int)-1))):=by
 have hp:=iT hs
 have hb:=awN (b:=B) (k:=k) hk
 have t1:Int.tdiv (k:Int) 64=((k/64:Nat):Int):=by rw [Int.tdiv_eq_ediv_of_nonneg (by omega)];omega
 have hOn:O.nat=A.nat^(B.nat/2^(k+1))%pS s:=by rw [hO];exact cj hp
 have hi:inR ((k:Int)-1)=true:=aS (by omega)
 have hpre:∀ x y,dH ((s,x,y,()),())=true:=λ_ _=>hs
 have hD:cQ (pS s) O O=ofN (A.nat^(2*(B.nat/2^(k+1)))%pS s):=by
  unfold cQ
  rw [hOn,<-Nat.mul_mod,<-Nat.pow_add,<-Nat.two_mul]
 have hq:B.nat/2^k/2=B.nat/2^(k+1):=by rw [Nat.div_div_eq_div_mul,<-Nat.pow_succ]
 show (Lz s (k:Int) (lst A) (lst B) c2 (lst O)).run=_
 unfold Lz
 simp only [at6,aug,cE,hpre,hi]
 refine (OT.au (decide_eq_true (by omega))).trans ((ah ?_).trans ?_)
 ·simp only [t1,Int.toNat_natCast,Nat.add_zero,cE,List.all_cons,List.all_nil,Bool.and_true,Bool.true_and,Bool.and_eq_true]
  exact ⟨rfl,rfl,rfl,aS (by omega),bc (by omega),decide_eq_true (by omega)⟩
 ·rcases (Bool.eq_false_or_eq_true (aee B.nat k)).symm with h|h
  ·have h0:=aaH h
   rw [h] at hb
   refine (OT.aw hb).trans ((ah rfl).trans ?_)
   rw [hD,<-hq,show 2*(B.nat/2^k/2)=B.nat/2^k by omega]
   rfl
  ·have h0:B.nat/2^k%2=1:=Nat.eq_of_beq_eq_true h
   rw [h] at hb
   refine (OT.au hb).trans ((ah rfl).trans ?_)
   have e:cQ (pS s) (cQ (pS s) O O) A=ofN (A.nat^(B.nat/2^k)%pS s):=by
    have e2:(cQ (pS s) O O).nat=A.nat^(2*(B.nat/2^(k+1)))%pS s:=by rw [hD];exact cj hp
    show ofN (_*_%_)=_
    rw [e2,Nat.mod_mul_mod,<-Nat.pow_succ,<-hq,show (2*(B.nat/2^k/2)).succ=B.nat/2^k by omega]
   rw [e]
   rfl
theorem aac {s:Int} (hs:ak s=true) (A B:ac) (c2:List UInt64):∀ (n:Nat) (O:ac),n<=256->O=ofN (A.nat^(B.nat/2^n)%pS s)->
 ∃ m,aA qK m (HH s A B c2 O ((n:Int)-1))=some ⟨(.exit 2,qJ),(((),(),()),(c2,lst (ofN (A.nat^B.nat%pS s)),()))⟩
 |0,O,_,hO=>by
  rw [Nat.pow_zero,Nat.div_one] at hO
  rw [<-hO]
  exact ⟨1,bt (OT.aw (decide_eq_false (by dsimp only [HH];omega)))⟩
 |n+1,O,hn,hO=>by
  obtain ⟨m,hm⟩:=aac hs A B c2 n (ofN (A.nat^(B.nat/2^n)%pS s)) (by omega) rfl
  rw [show ((n+1:Nat):Int)-1=(n:Int) by omega]
  exact ⟨m+1,aU (atE hs A B c2 O (by omega) hO) hm⟩
def DB (s:cB):Bool:=ak s.1.1&&decide (s.1.2.2.2.2.2.1=aqN (elemOf s.2.2.1).nat 256/\s.2.1.length=4/\s.2.2.1.length=4/\s.2.2.2.2.1=lst (ofP (pS s.1.1) ⟨1,0,0,0⟩))
def Y6 (s:cB):jS:=(((),(),()),(s.2.2.2.1,lst (ofN ((elemOf s.2.1).nat^(elemOf s.2.2.1).nat%pS s.1.1)),()))
theorem ank:∀ s:cB,DB s=true->∃ m e,aA qK m s=some e/\(B3 Y6 s).run=some e:=by
 rintro ⟨⟨s,⟨⟩,⟨⟩,⟨⟩,⟨⟩,i,⟨⟩⟩,⟨l0,l1,c2,l3,⟨⟩⟩⟩ h
 simp only [DB,Bool.and_eq_true,decide_eq_true_eq] at h
 obtain ⟨hs,rfl,h0,h1,rfl⟩:=h
 obtain ⟨A,rfl⟩:∃ a,l0=lst a:=⟨elemOf l0,(aM h0).symm⟩
 obtain ⟨B,rfl⟩:∃ a,l1=lst a:=⟨elemOf l1,(aM h1).symm⟩
 obtain ⟨t,e1,e2,e3⟩:=Oh B.nat 256 (Nat.div_eq_of_lt (gO B))
 obtain ⟨m,hm⟩:=aac hs A B c2 t (ofP (pS s) ⟨1,0,0,0⟩) e2 (by rw [e3,Nat.pow_zero];rfl)
 rw [<-e1] at hm
 exact ⟨m,_,hm,rfl⟩
theorem avb {s:Int} (h:ak s=true):1<pS s:=apH h
def lC (x:I8):Bool:=ak x.1.1
def ahO (x:I8):OT gT.Y:=.ok ⟨qI,((fS (pS x.1.1) x.1.2.1 x.1.2.2.1,()),())⟩
theorem anj:aa Try.prog 77 (gT.aD lC ahO):=ab7 Pg Y7 DB Y6 anl ank _ _ λx oy hp ho=>by
 rw [<-ho]
 clear ho
 obtain ⟨⟨s,a,b,⟨⟩⟩,⟨⟩⟩:=x
 have hs:ak s=true:=hp
 show _=some (⟨qI,((fS (pS s) a b,()),())⟩:gT.Y)
 rw [ajH (avb hs)]
 refine (OT.au hs).trans ((ah ?_).trans ?_)
 ·simp only [List.all_cons,List.all_nil,Bool.and_true,Bool.and_eq_true]
  refine ⟨decide_eq_true ⟨rfl,rfl,rfl,rfl⟩,?_,rfl,rfl,rfl⟩
  refine (Bool.and_eq_true _ _).mpr ⟨hs,?_⟩
  exact decide_eq_true ⟨rfl,rfl,rfl,rfl⟩
 ·show some (⟨qI,((elemOf (lay [0,0,0,0] (lst (ofN (a.nat^b.nat%pS s))) 4 0),()),())⟩:gT.Y)=_
  rw [auc _ _ rfl rfl]
  rfl
def yh:bI:=(gT.aD lC ahO)
theorem Us:aa Try.prog 77 yh:=anj
theorem Ur:aC yh:=ax
def zJ:Env:=av 77 yh tD
theorem rM:aI Try.prog zJ:=ag Us mo
theorem Bg:aq zJ:=ab Ur Bb
theorem Gx:aP Try.prog te zJ:=aF follows ap rM Bg
def fA:ao:=⟨[.val true .elem],[],true,0,false⟩
abbrev yg:Type:=((ac)×Unit)×(Unit)
def oI:Shape:=⟨29,[(1,.ptr 0 0 0),(2,.ptr 1 0 0),(3,.ptr 2 0 0),(4,.val false .int)],[(0,.row .u64),(1,.row .u64),(2,.row .u64)],0,true⟩
abbrev bW:Type:=((Unit)×(Unit)×(Unit)×(Int)×Unit)×((List (UInt64))×(List (UInt64))×(List (UInt64))×Unit)
def mY:Shape:=⟨29,[(2,.ptr 0 0 0),(3,.ptr 1 0 0)],[(0,.row .u64),(1,.row .u64)],0,true⟩
abbrev ir:Type:=((Unit)×(Unit)×Unit)×((List (UInt64))×(List (UInt64))×Unit)
def Pb:SE->Option Shape:=kv [(0,mY)] none
def ahN (a4:Int) (c0:List (UInt64)) (c1:List (UInt64)) (c2:List (UInt64)):OT (Sum bW aJ):=
 let z0:Bool:=inB a4 4
 let z1:Nat:=List.length c0
 let z2:List UInt64:=List.set c2 (Int.toNat a4+0) (aT (List.getD c0 (Int.toNat a4+0) (0:UInt64)) (1:Int))
 let z3:Bool:=decide (Int.toNat a4+0<List.length z2)
 let z4:Bool:=inR (a4+(1:Int))
 (.br (decide (a4<(4:Int)))
 (gd [z0,decide (Int.toNat a4+0<z1),z0,decide (Int.toNat a4+0<List.length c2)] (.br (decide (a4<(3:Int)))
  (gd [z0,z3,z4,inB (a4+(1:Int)) 4,decide (Int.toNat (a4+(1:Int))+0<z1),z0,z3,z4] (.ok (.inl (((),((),((),(a4+(1:Int),())))),(c0,(c1,(List.set z2 (Int.toNat a4+0) (List.getD z2 (Int.toNat a4+0) (0:UInt64)|||bL (List.getD c0 (Int.toNat (a4+(1:Int))+0) (0:UInt64)) (63:Int)),())))))))
  (gd [z4] (.ok (.inl (((),((),((),(a4+(1:Int),())))),(c0,(c1,(z2,())))))))))
 (.ok (.inr ⟨(.exit 0,mY),(((),((),())),(c1,(c2,())))⟩)))
def gl (s:bW):OT (Sum bW aJ):=ahN (s.1.2.2.2.1) (s.2.1) (s.2.2.1) (s.2.2.2.1)
theorem ahK (s:bW) (Q:Sum bW aJ->Prop):wps te zJ ay 1000 (bk (al Try.f78) 0) (oI.inj s) (cO oI Pb (Q:Sum oI.T aJ->Prop))=(gl s).wpR Q:=by kernel_rfl
def uU (g0_0:bW->ir) (s:bW):OT aJ:=(.ok ⟨(.exit 0,mY),g0_0 s⟩)
def oJ:ar:=⟨[.val true .elem],[],false⟩
def I5:SV->Option ar:=λ_=>some oJ
def Ly (ok0:bW->Bool) (g0_0:bW->ir) (a0:ac):OT fA.Y:=
 let z0:(PUnit×PUnit×PUnit×Int×PUnit)×List UInt64×List UInt64×List UInt64×PUnit:=(((),(),(),(0:Int),()),[a0.w0,a0.w1,a0.w2,a0.w3],[(0:UInt64),(0:UInt64),(0:UInt64),(0:UInt64)],[(0:UInt64),(0:UInt64),(0:UInt64),(0:UInt64)],())
 let z1:=(g0_0 z0).snd
 let z2:=z1.snd.fst
 let z3:=z1.fst
 let z4:List UInt64:=lay z3 z2 4 (0:UInt64)
 (gd [ok0 z0,decide (4<=List.length z2),decide ((4/1:Nat)+0<=List.length z3),decide (4<=List.length z4)] (.ok ⟨oJ,(({w0:=List.getD z4 0 0,w1:=List.getD z4 1 0,w2:=List.getD z4 2 0,w3:=List.getD z4 3 0},()),())⟩))
theorem ang (ok0:bW->Bool) (g0_0:bW->ir) (x:yg) (Q:fA.Y->Prop):wpf te zJ (bu 0 (dq oI 0 ok0 (uU g0_0)) ay) 1000 Try.f78 (fA.inp.inj x).tm (fA.inp.inj x).hp (fnK fA I5 Q) (λ_ _=>False)=(Ly ok0 g0_0 (x.1.1)).wpR Q:=by kernel_rfl
theorem Uq (ok0:bW->Bool) (g0_0:bW->ir) (h0:∀ s:bW,ok0 s=true->∃ m e,aA (gl) m s=some e/\(uU g0_0 s).run=some e) (pre:yg->Bool) (F:yg->OT fA.Y) (hF:∀ (x:yg) oy,pre x=true->(F x).run=some oy->(Ly ok0 g0_0 (x.1.1)).run=some oy):aa Try.prog 78 (fA.aD pre F):=
 aB ap rM Gx (f:=78) (fn:=Try.f78) (c:=al Try.f78) (by kernel_rfl) (by kernel_rfl) (by kernel_rfl) (S:=fA) (k:=0) (by kernel_rfl) (λR hR=>(aH (c:=(al Try.f78)) (by kernel_rfl) (id:=0) (by kernel_rfl) (bn ap rM Gx (sh:=oI) hR (xs:=Pb) (aG (by kernel_rfl) (by kernel_rfl) hR) aV af (n:=1000) (T:=gl) (λs Q=>ahK s Q) (ok:=ok0) (f:=uU g0_0) h0) af)) (n:=1000) (sel:=I5) (λv o h=>by cases h;rfl) (pre:=pre) (F:=F) (T:=λx=>Ly ok0 g0_0 (x.1.1)) (λx Q=>ang ok0 g0_0 x Q) hF
def nn (a:ac) (c1 l:List UInt64) (i:Int):bW:=(((),(),(),i,()),(lst a,c1,l,()))
theorem avw (a:ac) (c1:List UInt64):(gl (nn a c1 [0,0,0,0] 0)).run=some (.inl (nn a c1 [aT a.w0 1|||bL a.w1 63,0,0,0] 1)):=rfl
theorem avv (a:ac) (c1:List UInt64) (x:UInt64):(gl (nn a c1 [x,0,0,0] 1)).run=some (.inl (nn a c1 [x,aT a.w1 1|||bL a.w2 63,0,0] 2)):=rfl
theorem avu (a:ac) (c1:List UInt64) (x y:UInt64):(gl (nn a c1 [x,y,0,0] 2)).run=some (.inl (nn a c1 [x,y,aT a.w2 1|||bL a.w3 63,0] 3)):=rfl
theorem avt (a:ac) (c1:List UInt64) (x y z:UInt64):(gl (nn a c1 [x,y,z,0] 3)).run=some (.inl (nn a c1 [x,y,z,aT a.w3 1] 4)):=rfl
theorem avs (a:ac) (c1 l:List UInt64):(gl (nn a c1 l 4)).run=some (.inr ⟨(.exit 0,mY),(((),(),()),(c1,l,()))⟩):=rfl
def I7 (s:bW):Bool:=decide (s.1.2.2.2.1=0/\s.2.1.length=4/\s.2.2.2.1= [0,0,0,0])
def Pe (s:bW):ir:=(((),(),()),(s.2.2.1,lst (cT (elemOf s.2.1)),()))
theorem ahM:∀ s:bW,I7 s=true->∃ m e,aA gl m s=some e/\(uU Pe s).run=some e:=by
 rintro ⟨⟨⟨⟩,⟨⟩,⟨⟩,i,⟨⟩⟩,⟨l,c1,c2,⟨⟩⟩⟩ h
 have h':=of_decide_eq_true h
 dsimp only at h'
 obtain ⟨rfl,hl,rfl⟩:=h'
 obtain ⟨a,rfl⟩:∃ a,l=lst a:=⟨elemOf l,(aM hl).symm⟩
 refine ⟨_,_,aU (avw a c1) (aU (avv a c1 _) (aU (avu a c1 _ _) (aU (avt a c1 _ _ _) (bt (avs a c1 _))))),?_⟩
 have e: [aT a.w0 1|||bL a.w1 63,aT a.w1 1|||bL a.w2 63,aT a.w2 1|||bL a.w3 63,aT a.w3 1]=lst (cT a):=by rw [ZH];rfl
 rw [e]
 rfl
def I6 (_:yg):Bool:=true
def Y3 (x:yg):OT fA.Y:=.ok ⟨oJ,((cT x.1.1,()),())⟩
theorem ahL:aa Try.prog 78 (fA.aD I6 Y3):=Uq I7 Pe ahM _ _ λx oy hp ho=>by
 rw [<-ho]
 clear ho
 obtain ⟨⟨a,⟨⟩⟩,⟨⟩⟩:=x
 refine (ah ?_).trans ?_
 ·simp only [List.all_cons,List.all_nil,Bool.and_true,Bool.and_eq_true]
  exact ⟨decide_eq_true ⟨rfl,rfl,rfl⟩,rfl,rfl,rfl⟩
 ·show some (⟨oJ,((elemOf (lay [0,0,0,0] (lst (cT a)) 4 0),()),())⟩:fA.Y)=some ⟨oJ,((cT a,()),())⟩
  rw [auc _ _ rfl rfl]
  rfl
def sL:bI:=(fA.aD I6 Y3)
theorem Pd:aa Try.prog 78 sL:=ahL
theorem Pc:aC sL:=ax
def rL:Env:=av 78 sL zJ
theorem nO:aI Try.prog rL:=ag Pd rM
theorem wH:aq rL:=ab Pc Bg
theorem Bf:aP Try.prog te rL:=aF follows ap nO wH
def dj:ao:=⟨[.val true .elem,.val false .int],[],true,0,false⟩
abbrev lB:Type:=((ac)×(Int)×Unit)×(Unit)
def jP:Shape:=⟨14,[(1,.val false .int),(2,.ptr 0 0 0),(4,.ptr 1 0 0),(5,.val false .int)],[(0,.row .u64),(1,.row .u64)],0,true⟩
abbrev bp:Type:=((Int)×(Unit)×(Unit)×(Int)×Unit)×((List (UInt64))×(List (UInt64))×Unit)
def iV:Shape:=⟨14,[(2,.ptr 0 0 0),(4,.ptr 1 0 0)],[(0,.row .u64),(1,.row .u64)],0,true⟩
abbrev ft:Type:=((Unit)×(Unit)×Unit)×((List (UInt64))×(List (UInt64))×Unit)
def Dz:SE->Option Shape:=kv [(0,iV)] none
def Up (a1:Int) (a5:Int) (c0:List (UInt64)) (c1:List (UInt64)):OT (Sum bp aJ):=
 let z0:Nat:=List.length c0
 let z1:ac:=cT {w0:=List.getD c0 0 0,w1:=List.getD c0 1 0,w2:=List.getD c0 2 0,w3:=List.getD c0 3 0}
 (.br (decide (a5<a1))
 (gd [decide (4<=z0),decide ((4/1:Nat)+0<=z0),inR (a5+(1:Int))] (.ok (.inl ((a1,((),((),(a5+(1:Int),())))),(List.set (List.set (List.set (List.set c0 0 z1.w0) 1 z1.w1) 2 z1.w2) 3 z1.w3,(c1,()))))))
 (.ok (.inr ⟨(.exit 0,iV),(((),((),())),(c0,(c1,())))⟩)))
def jR (s:bp):OT (Sum bp aJ):=Up (s.1.1) (s.1.2.2.2.1) (s.2.1) (s.2.2.1)
theorem Um (s:bp) (Q:Sum bp aJ->Prop):wps te rL ay 1000 (bk (al Try.f80) 0) (jP.inj s) (cO jP Dz (Q:Sum jP.T aJ->Prop))=(jR s).wpR Q:=by kernel_rfl
def mX (g0_0:bp->ft) (s:bp):OT aJ:=(.ok ⟨(.exit 0,iV),g0_0 s⟩)
def jQ:ar:=⟨[.val true .elem],[],false⟩
def Ao:SV->Option ar:=λ_=>some jQ
def yf (ok0:bp->Bool) (g0_0:bp->ft) (a0:ac) (a1:Int):OT dj.Y:=
 let z0:(Int×PUnit×PUnit×Int×PUnit)×List UInt64×List UInt64×PUnit:=((a1,(),(),(0:Int),()),[a0.w0,a0.w1,a0.w2,a0.w3],[(0:UInt64),(0:UInt64),(0:UInt64),(0:UInt64)],())
 let z1:=(g0_0 z0).snd
 let z2:=z1.fst
 let z3:=z1.snd.fst
 let z4:List UInt64:=lay z3 z2 4 (0:UInt64)
 (gd [ok0 z0,decide (4<=List.length z2),decide ((4/1:Nat)+0<=List.length z3),decide (4<=List.length z4)] (.ok ⟨jQ,(({w0:=List.getD z4 0 0,w1:=List.getD z4 1 0,w2:=List.getD z4 2 0,w3:=List.getD z4 3 0},()),())⟩))
theorem ab6 (ok0:bp->Bool) (g0_0:bp->ft) (x:lB) (Q:dj.Y->Prop):wpf te rL (bu 0 (dq jP 0 ok0 (mX g0_0)) ay) 1000 Try.f80 (dj.inp.inj x).tm (dj.inp.inj x).hp (fnK dj Ao Q) (λ_ _=>False)=(yf ok0 g0_0 (x.1.1) (x.1.2.1)).wpR Q:=by kernel_rfl
theorem Lx (ok0:bp->Bool) (g0_0:bp->ft) (h0:∀ s:bp,ok0 s=true->∃ m e,aA (jR) m s=some e/\(mX g0_0 s).run=some e) (pre:lB->Bool) (F:lB->OT dj.Y) (hF:∀ (x:lB) oy,pre x=true->(F x).run=some oy->(yf ok0 g0_0 (x.1.1) (x.1.2.1)).run=some oy):aa Try.prog 80 (dj.aD pre F):=
 aB ap nO Bf (f:=80) (fn:=Try.f80) (c:=al Try.f80) (by kernel_rfl) (by kernel_rfl) (by kernel_rfl) (S:=dj) (k:=0) (by kernel_rfl) (λR hR=>(aH (c:=(al Try.f80)) (by kernel_rfl) (id:=0) (by kernel_rfl) (bn ap nO Bf (sh:=jP) hR (xs:=Dz) (aG (by kernel_rfl) (by kernel_rfl) hR) aV af (n:=1000) (T:=jR) (λs Q=>Um s Q) (ok:=ok0) (f:=mX g0_0) h0) af)) (n:=1000) (sel:=Ao) (λv o h=>by cases h;rfl) (pre:=pre) (F:=F) (T:=λx=>yf ok0 g0_0 (x.1.1) (x.1.2.1)) (λx Q=>ab6 ok0 g0_0 x Q) hF
def Ap (s:bp):Bool:=decide (s.1.2.2.2.1=0/\0<=s.1.1/\s.1.1<=1000000/\s.2.1.length=4)
def DA (s:bp):ft:=(((),(),()),(lst (dh (elemOf s.2.1) s.1.1.toNat),s.2.2.1,()))
theorem Uo:∀ s:bp,Ap s=true->∃ m e,aA jR m s=some e/\(mX DA s).run=some e:=by
 rintro ⟨⟨k,⟨⟩,⟨⟩,i,⟨⟩⟩,⟨l,o,⟨⟩⟩⟩ h
 have h':=of_decide_eq_true h
 dsimp only at h'
 obtain ⟨rfl,h0,h1,hl⟩:=h'
 obtain ⟨a,rfl⟩:∃ a,l=lst a:=⟨elemOf l,(aM hl).symm⟩
 have:=(bw (T:=jR) (λi a=>(((k,(),(),(i:Int),()),(lst a,o,())):bp)) (λ_ e=>cT e)
  (λa=>(⟨(.exit 0,iV),(((),(),()),(lst a,o,()))⟩:aJ)) k.toNat a (λ_ _=>True) trivial (λi a hi _=>⟨?_,trivial⟩) (λa _=> ?_)).1
 ·rw [sW] at this
  obtain ⟨m,hm⟩:=this
  exact ⟨m,_,hm,rfl⟩
 ·refine (OT.au (decide_eq_true (by dsimp only;omega))).trans ((ah ?_).trans rfl)
  simp only [List.all_cons,List.all_nil,Bool.and_true,Bool.and_eq_true]
  exact ⟨rfl,rfl,aS (by omega)⟩
 ·exact OT.aw (decide_eq_false (by dsimp only;omega))
def oH (x:lB):Bool:=decide (0<=x.1.2.1/\x.1.2.1<=1000000)
def I4 (x:lB):OT dj.Y:=.ok ⟨jQ,((dh x.1.1 x.1.2.1.toNat,()),())⟩
theorem Un:aa Try.prog 80 (dj.aD oH I4):=Lx Ap DA Uo _ _ λx oy hp ho=>by
 rw [<-ho]
 clear ho
 obtain ⟨⟨a,k,⟨⟩⟩,⟨⟩⟩:=x
 have hp':0<=k/\k<=1000000:=of_decide_eq_true hp
 refine (ah ?_).trans ?_
 ·simp only [List.all_cons,List.all_nil,Bool.and_true,Bool.and_eq_true]
  exact ⟨decide_eq_true ⟨rfl,hp'.1,hp'.2,rfl⟩,rfl,rfl,rfl⟩
 ·show some (⟨jQ,((elemOf (lay [0,0,0,0] (lst (dh a k.toNat)) 4 0),()),())⟩:dj.Y)=some ⟨jQ,((dh a k.toNat,()),())⟩
  rw [auc _ _ rfl rfl]
  rfl
def mW:bI:=(dj.aD oH I4)
theorem Hu:aa Try.prog 80 mW:=Un
theorem Ht:aC mW:=ax
def zI:Env:=av 80 mW rL
theorem Nv:aI Try.prog zI:=ag Hu nO
theorem Gw:aq zI:=ab Ht wH
end Go.Proofs.Ythgjhpbapddpnaa

namespace Go.Proofs.Ythgjhpbapddpnaa
namespace Sx
open Go Go.RowKit Go.ChangeShapes Go.WideShapes Go.ChangeAt
section
variable {H:Type} {enc:TypeId×Value->H} {P:Program} {te:TE} (hte:kA P te) {w:World} {sp:Nat->Bool}
include hte
theorem C7 {T e:TypeId} {ti ei:TI} (hT:te T=some ti) (hd:ti.desc=.slice e) (hei:te e=some ei) {ad:Option Addr} {n cap:Nat} {d:DataW H} {ps:List MemPlace}
 (h:DataW.Trod enc P w 0 sp true T (.slice ad n cap) d ps) (hw:∀ n ∈ d.weights P T,n<=reachBytes):n*ei.bytes<=reachBytes:=by
 obtain ⟨fuel,hr⟩:=h
 obtain ⟨ds,hu,hds⟩:=(hte T ti hT).desc
 rw [hd] at hds
 simp only at hds
 subst hds
 cases fuel with
 |zero=>simp [DataW.trod] at hr
 |succ fuel=>
  have hone:(Value.slice ad n cap).cells.toList= [.slice ad n cap]:=rfl
  rw [hone] at hr
  simp only [DataW.trod,hu] at hr
  cases ad with
  |none=>
   rcases n with _|n
   ·rw [Nat.zero_mul];exact Nat.zero_le _
   ·cases cap<;>cases hr
  |some a=>
   simp only at hr
   split at hr
   ·simp only [Option.bind_eq_some_iff,Option.map_eq_some_iff] at hr
    obtain ⟨elems,hm,rest,_,hx⟩:=hr
    cases hx
    obtain ⟨m1,_⟩:=yt hm
    rw [List.length_range] at m1
    have hwt:=hw ((elems.length+rest.length)*P.bytesOf e) (by simp [DataW.weights,hu])
    rw [J8 hte hei] at hwt
    refine Nat.le_trans (Nat.mul_le_mul_right _ ?_) hwt
    omega
   ·cases hr
end
end Sx
end Go.Proofs.Ythgjhpbapddpnaa

namespace Go.Proofs.Ythgjhpbapddpnaa
namespace Sx
open Go
theorem OT.M7 {α β:Type} {f:α->OT β}:∀ {t:OT α} {a:α} {b:β},t.run=some a->(f a).run=some b->(t.bind f).run=some b
 |.ok x,a,b,h,h2=>by
  cases h
  exact h2
 |.br c x y,a,b,h,h2=>by
  cases c
  ·exact OT.M7 (t:=y) h h2
  ·exact OT.M7 (t:=x) h h2
 |.fail,a,b,h,_=>by cases h
theorem fF {P:Program} {n:FuncId} {S:ao} {pre pre':S.T->Bool} {F F':S.T->OT S.Y} (h:aa P n (S.aD pre F))
 (hw:∀ x oy,pre' x=true->(F' x).run=some oy->pre x=true/\(F x).run=some oy):aa P n (S.aD pre' F'):=by
 refine ⟨λR w d args vs out hm hr hrun=>h.calls R w d args vs out hm hr ?_⟩
 simp only [ao.aD] at hrun⊢
 split at hrun
 ·cases hrun
 ·rename_i x hx
  obtain ⟨hp,hrun⟩:=OT.aE hrun
  obtain ⟨oy,h1,h2⟩:=OT.run_bind hrun
  obtain ⟨h3,h4⟩:=hw x oy hp h1
  rw [h3]
  exact OT.M7 h4 h2
end Sx
end Go.Proofs.Ythgjhpbapddpnaa

namespace Go.Proofs.Ythgjhpbapddpnaa
open Sx Go
set_option maxRecDepth 100000
abbrev Y0:ao:=gj
def qF (x:An):Bool:=ak x.1.1
def Y1 (x:An):OT gj.Y:=.ok ⟨iU,(((aL x.1.1.toNat).1,((0:Int),())),())⟩
theorem ahG:aa Try.prog 73 (Y0.aD qF Y1):=fF (S:=gj) Y2 λx oy hp ho=>⟨rfl,(OT.au (b:=ak x.1.1) hp).trans ho⟩
def sK:bI:=(Y0.aD qF Y1)
theorem O5:aa Try.prog 73 sK:=ahG
theorem O4:aC sK:=ax
def Nu:Env:=av 73 sK zI
theorem WM:aI Try.prog Nu:=ag O5 Nv
theorem Nt:aq Nu:=ab O4 Gw
abbrev Y8:ao:=gq
def yk (x:As):Bool:=ak x.1.1
def Y9 (x:As):OT gq.Y:=.ok ⟨m6,(((aL x.1.1.toNat).2.1,((0:Int),())),())⟩
theorem ahQ:aa Try.prog 79 (Y8.aD yk Y9):=fF (S:=gq) Za λx oy hp ho=>⟨rfl,(OT.au (b:=ak x.1.1) hp).trans ho⟩
def sM:bI:=(Y8.aD yk Y9)
theorem Pl:aa Try.prog 79 sM:=ahQ
theorem Pk:aC sM:=ax
def Nx:Env:=av 79 sM Nu
theorem WO:aI Try.prog Nx:=ag Pl WM
theorem Nw:aq Nx:=ab Pk Nt
abbrev ahy:ao:=jN
def jM (x:O0):Bool:=ak x.1.1
def ahz (x:O0):OT jN.Y:=.ok ⟨lf,((ofP (pS x.1.1) x.1.2.1,()),())⟩
theorem am9:aa Try.prog 50 (ahy.aD jM ahz):=fF (S:=jN) ahC λx oy hp ho=>⟨rfl,(OT.au (b:=ak x.1.1) hp).trans ho⟩
def xY:bI:=(ahy.aD jM ahz)
theorem T7:aa Try.prog 50 xY:=am9
theorem T6:aC xY:=ax
def Gq:Env:=av 50 xY Nx
theorem zE:aI Try.prog Gq:=ag T7 WO
theorem A9:aq Gq:=ab T6 Nw
theorem WL:aP Try.prog te Gq:=aF follows ap zE A9
def jK:ao:=⟨[],[],true,0,false⟩
abbrev IP:Type:=(Unit)×(Unit)
def Lj:ar:=⟨[.val true (.prod .elem (.prod .elem .bool))],[],false⟩
def ON:SV->Option ar:=λ_=>some Lj
def TY:OT jK.Y:=
 let z0:ac:= {w0:=0,w1:=0,w2:=0,w3:=0}
 (.ok ⟨Lj,(((z0,z0,true),()),())⟩)
theorem asx (x:IP) (Q:jK.Y->Prop):wpf te Gq ay 1000 Try.f38 (jK.inp.inj x).tm (jK.inp.inj x).hp (fnK jK ON Q) (λ_ _=>False)=(TY).wpR Q:=by kernel_rfl
theorem abT (pre:IP->Bool) (F:IP->OT jK.Y) (hF:∀ (x:IP) oy,pre x=true->(F x).run=some oy->(TY).run=some oy):aa Try.prog 38 (jK.aD pre F):=
 aB ap zE WL (f:=38) (fn:=Try.f38) (c:=al Try.f38) (by kernel_rfl) (by kernel_rfl) (by kernel_rfl) (S:=jK) (k:=0) (by kernel_rfl) (λR hR=>af) (n:=1000) (sel:=ON) (λv o h=>by cases h;rfl) (pre:=pre) (F:=F) (T:=λx=>TY) (λx Q=>asx x Q) hF
def OO (_:IP):Bool:=true
def ahi (_:IP):OT jK.Y:=.ok ⟨Lj,((AD,()),())⟩
theorem am4:aa Try.prog 38 (jK.aD OO ahi):=abT _ _ λx oy _ ho=>ho
def xS:bI:=(jK.aD OO ahi)
theorem TX:aa Try.prog 38 xS:=am4
theorem TW:aC xS:=ax
def Gn:Env:=av 38 xS Gq
theorem zC:aI Try.prog Gn:=ag TX zE
theorem A7:aq Gn:=ab TW A9
theorem WK:aP Try.prog te Gn:=aF follows ap zC A7
def Dj:ao:=⟨[.val false .int],[],true,0,false⟩
abbrev aub:Type:=((Int)×Unit)×(Unit)
def ahm:ar:=⟨[.val true .elem],[],false⟩
def ahl:SV->Option ar:=λ_=>some ahm
def asy (a0:Int):OT Dj.Y:=
 (gd [inB a0 4,decide (Int.toNat a0+0<4)] (.ok ⟨ahm,(({w0:=List.getD [(23:UInt64),(21:UInt64),(5:UInt64),(5:UInt64)] (Int.toNat a0+0) (0:UInt64),w1:=0,w2:=0,w3:=0},()),())⟩))
theorem awl (x:aub) (Q:Dj.Y->Prop):wpf te Gn ay 1000 Try.f82 (Dj.inp.inj x).tm (Dj.inp.inj x).hp (fnK Dj ahl Q) (λ_ _=>False)=(asy (x.1.1)).wpR Q:=by kernel_rfl
theorem am6 (pre:aub->Bool) (F:aub->OT Dj.Y) (hF:∀ (x:aub) oy,pre x=true->(F x).run=some oy->(asy (x.1.1)).run=some oy):aa Try.prog 82 (Dj.aD pre F):=
 aB ap zC WK (f:=82) (fn:=Try.f82) (c:=al Try.f82) (by kernel_rfl) (by kernel_rfl) (by kernel_rfl) (S:=Dj) (k:=0) (by kernel_rfl) (λR hR=>af) (n:=1000) (sel:=ahl) (λv o h=>by cases h;rfl) (pre:=pre) (F:=F) (T:=λx=>asy (x.1.1)) (λx Q=>awl x Q) hF
def T3 (x:aub):Bool:=ak x.1.1
def au5 (x:aub):OT Dj.Y:=.ok ⟨ahm,((bS x.1.1,()),())⟩
theorem au4:aa Try.prog 82 (Dj.aD T3 au5):=am6 _ _ λx oy hp ho=>by
 rw [<-ho]
 clear ho
 obtain ⟨⟨s,⟨⟩⟩,⟨⟩⟩:=x
 rcases bD hp with h|h|h|h
 all_goals
  have h:s=_:=h
  subst h
  rfl
def Ln:bI:=(Dj.aD T3 au5)
theorem ahn:aa Try.prog 82 Ln:=au4
theorem ahk:aC Ln:=ax
def ak3:Env:=av 82 Ln Gn
theorem Ns:aI Try.prog ak3:=ag ahn zC
theorem Kw:aq ak3:=ab ahk A7
theorem ak2:aP Try.prog te ak3:=aF follows ap Ns Kw
def fx:ao:=⟨[.val false .int,.val true .elem],[],true,0,false⟩
abbrev xU:Type:=((Int)×(ac)×Unit)×(Unit)
def uM:ar:=⟨[.val true .elem],[],false⟩
def IR:SV->Option ar:=λ_=>some uM
def Lm (a0:Int) (a1:ac):OT fx.Y:=
 let z0:Nat:=pS a0
 let z1:ac:=cQ z0 a1 a1
 let z2:ac:=cQ z0 a1 z1
 let z3:ac:=bS a0
 (gd [dH ((a0,a1,a1,()),()),dH ((a0,a1,z1,()),()),T3 ((a0,()),()),jX ((a0,z2,z3,()),())] (.ok ⟨uM,((n8 z0 z2 z3,()),())⟩))
theorem am5 (x:xU) (Q:fx.Y->Prop):wpf te ak3 ay 1000 Try.f40 (fx.inp.inj x).tm (fx.inp.inj x).hp (fnK fx IR Q) (λ_ _=>False)=(Lm (x.1.1) (x.1.2.1)).wpR Q:=by kernel_rfl
theorem T0 (pre:xU->Bool) (F:xU->OT fx.Y) (hF:∀ (x:xU) oy,pre x=true->(F x).run=some oy->(Lm (x.1.1) (x.1.2.1)).run=some oy):aa Try.prog 40 (fx.aD pre F):=
 aB ap Ns ak2 (f:=40) (fn:=Try.f40) (c:=al Try.f40) (by kernel_rfl) (by kernel_rfl) (by kernel_rfl) (S:=fx) (k:=0) (by kernel_rfl) (λR hR=>af) (n:=1000) (sel:=IR) (λv o h=>by cases h;rfl) (pre:=pre) (F:=F) (T:=λx=>Lm (x.1.1) (x.1.2.1)) (λx Q=>am5 x Q) hF
theorem aih (p:Nat) (a b:ac):cQ p a b=cQ p b a:=by unfold cQ;rw [Nat.mul_comm]
def xT (x:xU):Bool:=ak x.1.1
def YT (x:xU):OT fx.Y:=.ok ⟨uM,((tc (pS x.1.1) x.1.2.1 (bS x.1.1),()),())⟩
theorem ahj:aa Try.prog 40 (fx.aD xT YT):=T0 _ _ λx oy hp ho=>by
 rw [<-ho]
 clear ho
 obtain ⟨⟨s,a,⟨⟩⟩,⟨⟩⟩:=x
 have hs:ak s=true:=hp
 show _=some (⟨uM,((tc (pS s) a (bS s),()),())⟩:fx.Y)
 unfold tc
 rw [aih _ (cQ (pS s) a a) a]
 refine (ah ?_).trans rfl
 simp only [List.all_cons,List.all_nil,Bool.and_true,Bool.and_eq_true]
 exact ⟨hs,hs,hs,hs⟩
def sH:bI:=(fx.aD xT YT)
theorem OQ:aa Try.prog 40 sH:=ahj
theorem OP:aC sH:=ax
def wD:Env:=av 40 sH ak3
theorem tB:aI Try.prog wD:=ag OQ Ns
theorem wC:aq wD:=ab OP Kw
theorem Sd:aP Try.prog te wD:=aF follows ap tB wC
def lp:ao:=⟨[.val false .int,.val true (.prod .elem (.prod .elem .bool))],[],true,0,false⟩
abbrev abS:Type:=((Int)×((ac×(ac×Bool)))×Unit)×(Unit)
def mR:ar:=⟨[.val false .bool],[],false⟩
def YR:SV->Option ar:=λ_=>some mR
def ahh (a0:Int) (a1:(ac×(ac×Bool))):OT lp.Y:=
 let z0:Int×ac×PUnit:=(a0,a1.fst,())
 let z1:Nat:=pS a0
 let z2:ac:=ofP z1 a1.fst
 let z3:ac:=ofP z1 a1.snd.fst
 let z4:ac:=cQ z1 a1.snd.fst a1.snd.fst
 let z5:ac:=tc z1 a1.fst (bS a0)
 (.br (decide (a0<(0:Int)))
 (.ok ⟨mR,((false,()),())⟩)
 (.br (decide ((3:Int)<a0))
  (.ok ⟨mR,((false,()),())⟩)
  (.br (a1.snd.snd)
   (.ok ⟨mR,((a1.fst.w0==(0:UInt64)&&(a1.fst.w1==(0:UInt64)&&(a1.fst.w2==(0:UInt64)&&(a1.fst.w3==(0:UInt64)&&true)))&&(a1.snd.fst.w0==(0:UInt64)&&(a1.snd.fst.w1==(0:UInt64)&&(a1.snd.fst.w2==(0:UInt64)&&(a1.snd.fst.w3==(0:UInt64)&&true)))&&(a1.snd.snd==true&&true)),()),())⟩)
   (gd [jM (z0,())] (.br (!(z2.w0==a1.fst.w0&&(z2.w1==a1.fst.w1&&(z2.w2==a1.fst.w2&&(z2.w3==a1.fst.w3&&true)))))
    (.ok ⟨mR,((false,()),())⟩)
    (gd [jM ((a0,a1.snd.fst,()),())] (.br (!(z3.w0==a1.snd.fst.w0&&(z3.w1==a1.snd.fst.w1&&(z3.w2==a1.snd.fst.w2&&(z3.w3==a1.snd.fst.w3&&true)))))
     (.ok ⟨mR,((false,()),())⟩)
     (gd [dH ((a0,a1.snd.fst,a1.snd.fst,()),()),xT (z0,())] (.ok ⟨mR,((z4.w0==z5.w0&&(z4.w1==z5.w1&&(z4.w2==z5.w2&&(z4.w3==z5.w3&&true))),()),())⟩)))))))))
theorem au3 (x:abS) (Q:lp.Y->Prop):wpf te wD ay 1000 Try.f43 (lp.inp.inj x).tm (lp.inp.inj x).hp (fnK lp YR Q) (λ_ _=>False)=(ahh (x.1.1) (x.1.2.1)).wpR Q:=by kernel_rfl
theorem ahg (pre:abS->Bool) (F:abS->OT lp.Y) (hF:∀ (x:abS) oy,pre x=true->(F x).run=some oy->(ahh (x.1.1) (x.1.2.1)).run=some oy):aa Try.prog 43 (lp.aD pre F):=
 aB ap tB Sd (f:=43) (fn:=Try.f43) (c:=al Try.f43) (by kernel_rfl) (by kernel_rfl) (by kernel_rfl) (S:=lp) (k:=0) (by kernel_rfl) (λR hR=>af) (n:=1000) (sel:=YR) (λv o h=>by cases h;rfl) (pre:=pre) (F:=F) (T:=λx=>ahh (x.1.1) (x.1.2.1)) (λx Q=>au3 x Q) hF
theorem Zj {s:Int} (hs:ak s=true) (x:ac):eqE (ofP (pS s) x) x=Nat.blt x.nat (pS s):=by
 have hp:=iT hs
 have hlt:=Nat.mod_lt x.nat hp.1
 rw [VP,show (ofP (pS s) x).nat=x.nat%pS s from cj hp]
 rcases (Bool.eq_false_or_eq_true (Nat.blt x.nat (pS s))).symm with h|h
 ·rw [h]
  have hle:=aic h
  cases hb:Nat.beq (x.nat%pS s) x.nat
  ·rfl
  ·have:=Nat.eq_of_beq_eq_true hb
   omega
 ·rw [h,Nat.mod_eq_of_lt (dA h)]
  exact Nat.beq_refl _
def YS (_:abS):Bool:=true
def apC (x:abS):OT lp.Y:=.ok ⟨mR,((onB x.1.1 x.1.2.1,()),())⟩
theorem asw:aa Try.prog 43 (lp.aD YS apC):=ahg _ _ λx oy _ ho=>by
 rw [<-ho]
 clear ho
 obtain ⟨⟨c,⟨X,Y,i⟩,⟨⟩⟩,⟨⟩⟩:=x
 show _=some (⟨mR,((onB c (X,Y,i),()),())⟩:lp.Y)
 rcases (Bool.eq_false_or_eq_true (ak c)).symm with hs|hs
 ·have e:onB c (X,Y,i)=false:=by unfold onB;rw [hs];rfl
  rw [e]
  by_cases h0:c<0
  ·exact OT.au (decide_eq_true h0)
  ·refine (OT.aw (decide_eq_false h0)).trans (OT.au (decide_eq_true ?_))
   show (3:Int)<c
   simp only [ak,Bool.and_eq_false_iff,decide_eq_false_iff_not] at hs
   omega
 ·have hc:0<=c/\c<4:=by simpa [ak] using hs
  refine (OT.aw (decide_eq_false (by show ¬c<0;omega))).trans ((OT.aw (decide_eq_false (by show ¬(3:Int)<c;omega))).trans ?_)
  have hx:=Zj hs X
  have hy:=Zj hs Y
  have gd1:∀ (a:ac) (z:OT lp.Y),(gd [jM ((c,a,()),())] z).run=z.run:=λa z=>ah (by simp only [List.all_cons,List.all_nil,Bool.and_true];exact hs)
  cases i
  ·refine (OT.aw rfl).trans ((gd1 X _).trans ?_)
   rcases (Bool.eq_false_or_eq_true (Nat.blt X.nat (pS c))).symm with h1|h1
   ·have e:onB c (X,Y,false)=false:=by unfold onB;rw [hs,h1];rfl
    rw [e]
    rw [h1] at hx
    exact OT.au (b:= !eqE (ofP (pS c) X) X) (by rw [hx];rfl)
   ·have hx1:=hx
    rw [h1] at hx1
    refine (OT.aw (b:= !eqE (ofP (pS c) X) X) (by rw [hx1];rfl)).trans ((gd1 Y _).trans ?_)
    rcases (Bool.eq_false_or_eq_true (Nat.blt Y.nat (pS c))).symm with h2|h2
    ·have e:onB c (X,Y,false)=false:=by unfold onB;rw [hs,h1,h2];rfl
     rw [e]
     rw [h2] at hy
     exact OT.au (b:= !eqE (ofP (pS c) Y) Y) (by rw [hy];rfl)
    ·have hy1:=hy
     rw [h2] at hy1
     have e:onB c (X,Y,false)=eqE (cQ (pS c) Y Y) (tc (pS c) X (bS c)):=by unfold onB;rw [hs,h1,h2];rfl
     rw [e]
     refine (OT.aw (b:= !eqE (ofP (pS c) Y) Y) (by rw [hy1];rfl)).trans ((ah ?_).trans rfl)
     simp only [List.all_cons,List.all_nil,Bool.and_true,Bool.and_eq_true]
     exact ⟨hs,hs⟩
  ·have e:onB c (X,Y,true)=(dw X&&(dw Y&&true)):=by unfold onB;rw [hs];rfl
   rw [e]
   exact OT.au rfl
def Di:bI:=(lp.aD YS apC)
theorem abR:aa Try.prog 43 Di:=asw
theorem abQ:aC Di:=ax
def Gm:Env:=av 43 Di wD
theorem pW:aI Try.prog Gm:=ag abR tB
theorem Gl:aq Gm:=ab abQ wC
theorem zB:aP Try.prog te Gm:=aF follows ap pW Gl
def fy:ao:=⟨[.val false .int,.val true .elem],[],true,0,false⟩
abbrev xW:Type:=((Int)×(ac)×Unit)×(Unit)
def oC:Shape:=⟨114,[(0,.val false .int),(4,.ptr 0 0 0),(10,.ptr 1 0 0),(14,.ptr 2 0 0),(15,.ptr 3 0 0),(16,.ptr 4 0 0),(17,.val false .int)],[(0,.row .u64),(1,.row .u64),(2,.row .u64),(3,.row .u64),(4,.row .u64)],0,true⟩
abbrev bV:Type:=((Int)×(Unit)×(Unit)×(Unit)×(Unit)×(Unit)×(Int)×Unit)×((List (UInt64))×(List (UInt64))×(List (UInt64))×(List (UInt64))×(List (UInt64))×Unit)
def oB:Shape:=⟨114,[(0,.val false .int),(4,.ptr 0 0 0),(10,.ptr 1 0 0),(14,.ptr 2 0 0),(15,.ptr 3 0 0),(16,.ptr 4 0 0),(17,.val false .int),(18,.ptr 5 0 0),(19,.val false .int)],[(0,.row .u64),(1,.row .u64),(2,.row .u64),(3,.row .u64),(4,.row .u64),(5,.row .u64)],0,true⟩
abbrev bi:Type:=((Int)×(Unit)×(Unit)×(Unit)×(Unit)×(Unit)×(Int)×(Unit)×(Int)×Unit)×((List (UInt64))×(List (UInt64))×(List (UInt64))×(List (UInt64))×(List (UInt64))×(List (UInt64))×Unit)
def mT:Shape:=⟨114,[(0,.val false .int),(4,.ptr 0 0 0),(10,.ptr 1 0 0),(14,.ptr 2 0 0),(15,.ptr 3 0 0),(16,.ptr 4 0 0),(17,.val false .int),(18,.ptr 5 0 0)],[(0,.row .u64),(1,.row .u64),(2,.row .u64),(3,.row .u64),(4,.row .u64),(5,.row .u64)],0,true⟩
abbrev dV:Type:=((Int)×(Unit)×(Unit)×(Unit)×(Unit)×(Unit)×(Int)×(Unit)×Unit)×((List (UInt64))×(List (UInt64))×(List (UInt64))×(List (UInt64))×(List (UInt64))×(List (UInt64))×Unit)
def OR:SE->Option Shape:=kv [(2,mT)] none
def aht (a0:Int) (a17:Int) (a19:Int) (c0:List (UInt64)) (c1:List (UInt64)) (c2:List (UInt64)) (c3:List (UInt64)) (c4:List (UInt64)) (c5:List (UInt64)):OT (Sum bi aJ):=
 let z0:Nat:=List.length c5
 let z1:Bool:=decide (4<=z0)
 let z2:ac:= {w0:=List.getD c5 0 0,w1:=List.getD c5 1 0,w2:=List.getD c5 2 0,w3:=List.getD c5 3 0}
 let z3:ac:=cQ (pS a0) z2 z2
 (.br (decide (a19<a17))
 (gd [z1,z1,dH ((a0,z2,z2,()),()),decide ((4/1:Nat)+0<=z0),inR (a19+(1:Int))] (.ok (.inl ((a0,((),((),((),((),((),(a17,((),(a19+(1:Int),()))))))))),(c0,(c1,(c2,(c3,(c4,(List.set (List.set (List.set (List.set c5 0 z3.w0) 1 z3.w1) 2 z3.w2) 3 z3.w3,()))))))))))
 (.ok (.inr ⟨(.exit 2,mT),((a0,((),((),((),((),((),(a17,((),())))))))),(c0,(c1,(c2,(c3,(c4,(c5,())))))))⟩)))
def oD (s:bi):OT (Sum bi aJ):=aht (s.1.1) (s.1.2.2.2.2.2.2.1) (s.1.2.2.2.2.2.2.2.2.1) (s.2.1) (s.2.2.1) (s.2.2.2.1) (s.2.2.2.2.1) (s.2.2.2.2.2.1) (s.2.2.2.2.2.2.1)
theorem aho (s:bi) (Q:Sum bi aJ->Prop):wps te Gm ay 1000 (bk (bk (al Try.f39) 0) 2) (oB.inj s) (cO oB OR (Q:Sum oB.T aJ->Prop))=(oD s).wpR Q:=by kernel_rfl
def uN (g2_2:bi->dV) (s:bi):OT aJ:=(.ok ⟨(.exit 2,mT),g2_2 s⟩)
def mU:Shape:=⟨114,[(0,.val false .int),(4,.ptr 0 0 0),(14,.ptr 1 0 0)],[(0,.row .u64),(1,.row .u64)],0,true⟩
abbrev io:Type:=((Int)×(Unit)×(Unit)×Unit)×((List (UInt64))×(List (UInt64))×Unit)
def OS:SE->Option Shape:=kv [(0,mU)] none
def Dl (ok2:bi->Bool) (g2_2:bi->dV) (a0:Int) (a17:Int) (c0:List (UInt64)) (c1:List (UInt64)) (c2:List (UInt64)) (c3:List (UInt64)) (c4:List (UInt64)):OT (Sum bV aJ):=
 let z0:(Int×PUnit×PUnit×PUnit×PUnit×PUnit×Int×PUnit×Int×PUnit)×List UInt64×List UInt64×List UInt64×List UInt64×List UInt64×List UInt64×PUnit:=((a0,(),(),(),(),(),a17,(),(1:Int),()),c0,c1,c2,c3,c4,[List.getD c3 0 0,List.getD c3 1 0,List.getD c3 2 0,List.getD c3 3 0],())
 let z1:(Int×PUnit×PUnit×PUnit×PUnit×PUnit×Int×PUnit×PUnit)×List UInt64×List UInt64×List UInt64×List UInt64×List UInt64×List UInt64×PUnit:=g2_2 z0
 let z2:=z1.snd
 let z3:=z2.snd
 let z4:=z3.snd
 let z5:=z4.snd
 let z6:=z5.snd
 let z7:=z6.snd.fst
 let z8:=z3.fst
 let z9:=z4.fst
 let z10:Nat:=List.length z9
 let z11:=z6.fst
 let z12:Nat:=List.length z11
 let z13:Bool:=decide (4<=z12)
 let z14:=z1.fst
 let z15:=z14.fst
 let z16:ac:= {w0:=List.getD z9 0 0,w1:=List.getD z9 1 0,w2:=List.getD z9 2 0,w3:=List.getD z9 3 0}
 let z17:ac:= {w0:=List.getD z11 0 0,w1:=List.getD z11 1 0,w2:=List.getD z11 2 0,w3:=List.getD z11 3 0}
 let z18:ac×PUnit:=(z17,())
 let z19:=z5.fst
 let z20:Nat:=List.length z19
 let z21:Bool:=dH ((z15,z17,z18),())
 let z22:ac:= {w0:=List.getD z19 0 0,w1:=List.getD z19 1 0,w2:=List.getD z19 2 0,w3:=List.getD z19 3 0}
 let z23:Nat:=pS z15
 let z24:ac:=cQ z23 z17 z17
 let z25:Bool:=decide ((4/1:Nat)+0<=z12)
 let z26:Bool:=inR (z14.snd.snd.snd.snd.snd.snd.fst-(1:Int))
 let z27:=z2.fst
 let z28:ac:=cQ z23 z16 z17
 let z29:ac:=cQ z23 z22 z24
 let z30:List UInt64:=List.set (List.set (List.set (List.set z11 0 z24.w0) 1 z24.w1) 2 z24.w2) 3 z24.w3
 (.br (decide ((1:Int)<=a17))
 (gd [decide (4<=List.length c3),ok2 z0,decide (4<=List.length z7),decide (4<=List.length z8)] (.br (!(List.getD z7 0 0==List.getD z8 0 0&&(List.getD z7 1 0==List.getD z8 1 0&&(List.getD z7 2 0==List.getD z8 2 0&&(List.getD z7 3 0==List.getD z8 3 0&&true)))))
  (gd [decide (4<=z10),z13,dH ((z15,z16,z18),()),decide ((4/1:Nat)+0<=z10),decide (4<=z20),z13,z13,z21,dH ((z15,z22,z24,()),()),decide ((4/1:Nat)+0<=z20),z13,z13,z21,z25,z26] (.ok (.inl ((z15,((),((),((),((),((),(z14.snd.snd.snd.snd.snd.snd.fst-(1:Int),()))))))),(z27,(z8,(List.set (List.set (List.set (List.set z9 0 z28.w0) 1 z28.w1) 2 z28.w2) 3 z28.w3,(List.set (List.set (List.set (List.set z19 0 z29.w0) 1 z29.w1) 2 z29.w2) 3 z29.w3,(z30,())))))))))
  (gd [z13,z13,z21,z25,z26] (.ok (.inl ((z15,((),((),((),((),((),(z14.snd.snd.snd.snd.snd.snd.fst-(1:Int),()))))))),(z27,(z8,(z9,(z19,(z30,())))))))))))
 (.ok (.inr ⟨(.exit 0,mU),((a0,((),((),()))),(c0,(c2,())))⟩)))
def lv (ok2:bi->Bool) (g2_2:bi->dV) (s:bV):OT (Sum bV aJ):=Dl ok2 g2_2 (s.1.1) (s.1.2.2.2.2.2.2.1) (s.2.1) (s.2.2.1) (s.2.2.2.1) (s.2.2.2.2.1) (s.2.2.2.2.2.1)
theorem ahp (ok2:bi->Bool) (g2_2:bi->dV) (s:bV) (Q:Sum bV aJ->Prop):wps te Gm (bu 2 (dq oB 2 ok2 (uN g2_2)) ay) 1000 (bk (al Try.f39) 0) (oC.inj s) (cO oC OS (Q:Sum oC.T aJ->Prop))=(lv ok2 g2_2 s).wpR Q:=by kernel_rfl
def uO (g0_0:bV->io) (s:bV):OT aJ:=(.ok ⟨(.exit 0,mU),g0_0 s⟩)
def eM:ar:=⟨[.val true .elem,.val false .int],[],false⟩
def IU:SV->Option ar:=λ_=>some eM
def Lo (ok2:bi->Bool) (g2_2:bi->dV) (ok0:bV->Bool) (g0_0:bV->io) (a0:Int) (a1:ac):OT fy.Y:=
 let z0:Int×PUnit:=(a0,())
 let z1:Nat:=pS a0
 let z2:ac:=ofP z1 a1
 let z3:ac:= {w0:=0,w1:=0,w2:=0,w3:=0}
 let z4:ac×Int×UInt64×UInt64×ac:=aL (Int.toNat a0)
 let z5:ac:= {w0:=1,w1:=0,w2:=0,w3:=0}
 let z6:ac:=(fo z4.fst z5).fst
 let z7:ac:=cT z6
 let z8:ac:=fS z1 z2 z7
 let z9:=z4.snd.fst
 let z10:ac:=dh z6 (Int.toNat z9)
 let z11:ac:=cT (mD z10 z5).fst
 let z12:ac×PUnit:=(z10,())
 let z13:ac:= {w0:=5,w1:=0,w2:=0,w3:=0}
 let z14:ac:=fS z1 z2 z11
 let z15:ac:=fS z1 z2 z10
 let z16:ac:=fS z1 z13 z10
 let z17:(Int×PUnit×PUnit×PUnit×PUnit×PUnit×Int×PUnit)×List UInt64×List UInt64×List UInt64×List UInt64×List UInt64×PUnit:=((a0,(),(),(),(),(),z9-(1:Int),()),[(0:UInt64),(0:UInt64),(0:UInt64),(0:UInt64)],[(1:UInt64),(0:UInt64),(0:UInt64),(0:UInt64)],[z14.w0,z14.w1,z14.w2,z14.w3],[z15.w0,z15.w1,z15.w2,z15.w3],[z16.w0,z16.w1,z16.w2,z16.w3],())
 let z18:(Int×PUnit×PUnit×PUnit)×List UInt64×List UInt64×PUnit:=g0_0 z17
 let z19:=z18.snd
 let z20:=z19.snd.fst
 let z21:Nat:=List.length z20
 let z22:UInt64:=List.getD z20 0 0
 let z23:Bool:=decide (4<=z21)
 let z24:=z18.fst.fst
 let z25:ac:= {w0:=z22,w1:=List.getD z20 1 0,w2:=List.getD z20 2 0,w3:=List.getD z20 3 0}
 let z26:ac:=HA (pS z24) z25
 let z27:List UInt64:=List.set (List.set (List.set (List.set z20 0 z26.w0) 1 z26.w1) 2 z26.w2) 3 z26.w3
 let z28:=z19.fst
 let z29:Nat:=List.length z28
 let z30:List UInt64:=lay z28 z27 4 (0:UInt64)
 let z31:List UInt64:=lay z28 z20 4 (0:UInt64)
 (gd [qF (z0,()),jM ((a0,a1,()),())] (.br (z2.w0==(0:UInt64)&&(z2.w1==(0:UInt64)&&(z2.w2==(0:UInt64)&&(z2.w3==(0:UInt64)&&true))))
 (.ok ⟨eM,((z3,((0:Int),())),())⟩)
 (gd [lC ((a0,z2,z7,()),())] (.br (!(z8.w0==(1:UInt64)&&(z8.w1==(0:UInt64)&&(z8.w2==(0:UInt64)&&(z8.w3==(0:UInt64)&&true)))))
  (.ok ⟨eM,((z3,((22:Int),())),())⟩)
  (gd [yk (z0,()),oH ((z6,z9,()),()),lC ((a0,z2,z11,()),()),lC ((a0,z2,z12),()),lC ((a0,z13,z12),()),inR (z9-(1:Int)),ok0 z17,decide (0<z21)] (.br (z22%(2:UInt64)==(1:UInt64))
   (gd [z23,Dt ((z24,z25,()),()),decide ((4/1:Nat)+0<=z21),decide (4<=List.length z27),decide ((4/1:Nat)+0<=z29),decide (4<=List.length z30)] (.ok ⟨eM,(({w0:=List.getD z30 0 0,w1:=List.getD z30 1 0,w2:=List.getD z30 2 0,w3:=List.getD z30 3 0},((0:Int),())),())⟩))
   (gd [z23,decide ((4/1:Nat)+0<=z29),decide (4<=List.length z31)] (.ok ⟨eM,(({w0:=List.getD z31 0 0,w1:=List.getD z31 1 0,w2:=List.getD z31 2 0,w3:=List.getD z31 3 0},((0:Int),())),())⟩))))))))
theorem am7 (ok2:bi->Bool) (g2_2:bi->dV) (ok0:bV->Bool) (g0_0:bV->io) (x:xW) (Q:fy.Y->Prop):wpf te Gm (bu 0 (dq oC 0 ok0 (uO g0_0)) ay) 1000 Try.f39 (fy.inp.inj x).tm (fy.inp.inj x).hp (fnK fy IU Q) (λ_ _=>False)=(Lo ok2 g2_2 ok0 g0_0 (x.1.1) (x.1.2.1)).wpR Q:=by kernel_rfl
theorem T4 (ok2:bi->Bool) (g2_2:bi->dV) (ok0:bV->Bool) (g0_0:bV->io) (h2:∀ s:bi,ok2 s=true->∃ m e,aA (oD) m s=some e/\(uN g2_2 s).run=some e) (h0:∀ s:bV,ok0 s=true->∃ m e,aA (lv ok2 g2_2) m s=some e/\(uO g0_0 s).run=some e) (pre:xW->Bool) (F:xW->OT fy.Y) (hF:∀ (x:xW) oy,pre x=true->(F x).run=some oy->(Lo ok2 g2_2 ok0 g0_0 (x.1.1) (x.1.2.1)).run=some oy):aa Try.prog 39 (fy.aD pre F):=
 aB ap pW zB (f:=39) (fn:=Try.f39) (c:=al Try.f39) (by kernel_rfl) (by kernel_rfl) (by kernel_rfl) (S:=fy) (k:=0) (by kernel_rfl) (λR hR=>(aH (c:=(al Try.f39)) (by kernel_rfl) (id:=0) (by kernel_rfl) (bn ap pW zB (sh:=oC) hR (xs:=OS) (aG (by kernel_rfl) (by kernel_rfl) hR) aV (aH (c:=(bk (al Try.f39) 0)) (by kernel_rfl) (id:=2) (by kernel_rfl) (bn ap pW zB (sh:=oB) hR (xs:=OR) (aG (by kernel_rfl) (by kernel_rfl) hR) aV af (n:=1000) (T:=oD) (λs Q=>aho s Q) (ok:=ok2) (f:=uN g2_2) h2) af) (n:=1000) (T:=lv ok2 g2_2) (λs Q=>ahp ok2 g2_2 s Q) (ok:=ok0) (f:=uO g0_0) h0) af)) (n:=1000) (sel:=IU) (λv o h=>by cases h;rfl) (pre:=pre) (F:=F) (T:=λx=>Lo ok2 g2_2 ok0 g0_0 (x.1.1) (x.1.2.1)) (λx Q=>am7 ok2 g2_2 ok0 g0_0 x Q) hF
def eE:ac:=⟨1,0,0,0⟩
def sqN (p:Nat) (b:ac) (n:Nat):ac:=upto (λ_ e=>cQ p e e) b n
def fJ (s:bi):Bool:=ak s.1.1&&decide (s.1.2.2.2.2.2.2.2.2.1=1/\s.1.2.2.2.2.2.2.1<=1000/\s.2.2.2.2.2.2.1.length=4)
def jL (s:bi):dV:=((s.1.1,(),(),(),(),(),s.1.2.2.2.2.2.2.1,(),()),(s.2.1,s.2.2.1,s.2.2.2.1,s.2.2.2.2.1,s.2.2.2.2.2.1,lst (sqN (pS s.1.1) (elemOf s.2.2.2.2.2.2.1) (s.1.2.2.2.2.2.2.1-1).toNat),()))
theorem ahr:∀ s:bi,fJ s=true->∃ m e,aA oD m s=some e/\(uN jL s).run=some e:=by
 rintro ⟨⟨s,⟨⟩,⟨⟩,⟨⟩,⟨⟩,⟨⟩,i,⟨⟩,j,⟨⟩⟩,⟨c0,c1,c2,c3,c4,c5,⟨⟩⟩⟩ h
 simp only [fJ,Bool.and_eq_true,decide_eq_true_eq] at h
 obtain ⟨hs,rfl,hi,hl⟩:=h
 obtain ⟨t,rfl⟩:∃ a,c5=lst a:=⟨elemOf c5,(aM hl).symm⟩
 have:=(bw (T:=oD) (λk t=>(((s,(),(),(),(),(),i,(),1+(k:Int),()),(c0,c1,c2,c3,c4,lst t,())):bi)) (λ_ e=>cQ (pS s) e e)
  (λt=>(⟨(.exit 2,mT),((s,(),(),(),(),(),i,(),()),(c0,c1,c2,c3,c4,lst t,()))⟩:aJ)) (i-1).toNat t (λ_ _=>True) trivial (λk t hk _=>⟨?_,trivial⟩) (λt _=> ?_)).1
 ·obtain ⟨m,hm⟩:=this
  exact ⟨m,_,hm,rfl⟩
 ·have e2:(1:Int)+(k:Int)+1=1+((k+1:Nat):Int):=by omega
  rw [<-e2]
  refine (OT.au (decide_eq_true (by dsimp only;omega))).trans ((ah ?_).trans rfl)
  simp only [List.all_cons,List.all_nil,Bool.and_true,Bool.and_eq_true]
  exact ⟨rfl,rfl,hs,rfl,aS (by omega)⟩
 ·exact OT.aw (decide_eq_false (by dsimp only;omega))
abbrev Ton:Type:=ac×ac×ac
def sw (p m:Nat) (k:Nat) (w:Ton):Ton:=cond (eqE (sqN p w.2.1 (m-k-1)) eE) (w.1,w.2.1,cQ p w.2.2 w.2.2) (cQ p w.1 w.2.2,cQ p w.2.1 (cQ p w.2.2 w.2.2),cQ p w.2.2 w.2.2)
def Oi (s:Int) (c0:List UInt64) (i:Int) (w:Ton):bV:=((s,(),(),(),(),(),i,()),(c0,lst eE,lst w.1,lst w.2.1,lst w.2.2,()))
theorem alz {s:Int} (hs:ak s=true) (c0:List UInt64) {m k:Nat} (hm:m<=1000) (hk:k<m) (w:Ton):
 (lv fJ jL (Oi s c0 ((m:Int)-(k:Int)) w)).run=some (.inl (Oi s c0 ((m:Int)-((k+1:Nat):Int)) (sw (pS s) m k w))):=by
 obtain ⟨x,b,z⟩:=w
 have e2:(m:Int)-((k+1:Nat):Int)=(m:Int)-(k:Int)-1:=by omega
 have hi:inR ((m:Int)-(k:Int)-1)=true:=aS (by omega)
 have hk2:((m:Int)-(k:Int)-1).toNat=m-k-1:=by omega
 have hg:jL ((s,(),(),(),(),(),(m:Int)-(k:Int),(),1,()),(c0,lst eE,lst x,lst b,lst z,lst b,()))=((s,(),(),(),(),(),(m:Int)-(k:Int),(),()),(c0,lst eE,lst x,lst b,lst z,lst (sqN (pS s) b (m-k-1)),())):=by
  show ((s,(),(),(),(),(),(m:Int)-(k:Int),(),()),(c0,lst eE,lst x,lst b,lst z,lst (sqN (pS s) b ((m:Int)-(k:Int)-1).toNat),()))=_
  rw [hk2]
 have hok:fJ ((s,(),(),(),(),(),(m:Int)-(k:Int),(),1,()),(c0,lst eE,lst x,lst b,lst z,lst b,()))=true:=
  (Bool.and_eq_true _ _).mpr ⟨hs,decide_eq_true (p:=(1:Int)=1/\(m:Int)-(k:Int)<=1000/\(lst b).length=4) ⟨rfl,by omega,rfl⟩⟩
 have hb: [List.getD (lst b) 0 0,List.getD (lst b) 1 0,List.getD (lst b) 2 0,List.getD (lst b) 3 0]=lst b:=rfl
 have hpre:∀ x y,dH ((s,x,y,()),())=true:=λ_ _=>hs
 show (Dl fJ jL s ((m:Int)-(k:Int)) c0 (lst eE) (lst x) (lst b) (lst z)).run=_
 unfold Dl
 simp only [hb,hg,hok]
 refine (OT.au (decide_eq_true (by omega))).trans ((ah rfl).trans ?_)
 unfold sw
 dsimp only
 rw [e2]
 generalize sqN (pS s) b (m-k-1)=t
 rcases (Bool.eq_false_or_eq_true (eqE t eE)).symm with h|h
 ·refine (OT.au (b:= !eqE t eE) (by rw [h];rfl)).trans ((ah ?_).trans ?_)
  ·simp only [at6,aug,cE,hpre,hi,List.all_cons,List.all_nil,Bool.and_true,Bool.and_eq_true]
   exact ⟨rfl,rfl,trivial,rfl,rfl,rfl,rfl,trivial,trivial,rfl,rfl,rfl,trivial,rfl⟩
  ·rw [h]
   simp only [at6,aug]
   rfl
 ·refine (OT.aw (b:= !eqE t eE) (by rw [h];rfl)).trans ((ah ?_).trans ?_)
  ·simp only [at6,aug,cE,hpre,hi,List.all_cons,List.all_nil,Bool.and_true,Bool.and_eq_true]
   exact ⟨rfl,rfl,trivial,rfl⟩
  ·rw [h]
   simp only [at6,aug]
   rfl
def alA (p m:Nat) (w:Ton):Ton:=upto (sw p m) w m
def xV (s:bV):Bool:=ak s.1.1&&decide (0<=s.1.2.2.2.2.2.2.1/\s.1.2.2.2.2.2.2.1<=1000/\s.2.2.1= [1,0,0,0]/\s.2.2.2.1.length=4/\s.2.2.2.2.1.length=4/\s.2.2.2.2.2.1.length=4)
def Dk (s:bV):io:=((s.1.1,(),(),()),(s.2.1,lst (alA (pS s.1.1) s.1.2.2.2.2.2.2.1.toNat (elemOf s.2.2.2.1,elemOf s.2.2.2.2.1,elemOf s.2.2.2.2.2.1)).1,()))
theorem ahs:∀ s:bV,xV s=true->∃ m e,aA (lv fJ jL) m s=some e/\(uO Dk s).run=some e:=by
 rintro ⟨⟨s,⟨⟩,⟨⟩,⟨⟩,⟨⟩,⟨⟩,i,⟨⟩⟩,⟨c0,c1,c2,c3,c4,⟨⟩⟩⟩ h
 simp only [xV,Bool.and_eq_true,decide_eq_true_eq] at h
 obtain ⟨hs,h0,h1,rfl,h2,h3,h4⟩:=h
 obtain ⟨x,rfl⟩:∃ a,c2=lst a:=⟨elemOf c2,(aM h2).symm⟩
 obtain ⟨b,rfl⟩:∃ a,c3=lst a:=⟨elemOf c3,(aM h3).symm⟩
 obtain ⟨z,rfl⟩:∃ a,c4=lst a:=⟨elemOf c4,(aM h4).symm⟩
 obtain ⟨m,rfl⟩:∃ m:Nat,i=(m:Int):=⟨i.toNat,by omega⟩
 have:=(bw (T:=lv fJ jL) (λk w=>Oi s c0 ((m:Int)-(k:Int)) w) (sw (pS s) m)
  (λw=>(⟨(.exit 0,mU),((s,(),(),()),(c0,lst w.1,()))⟩:aJ)) m (x,b,z) (λ_ _=>True) trivial (λk w hk _=>⟨alz hs c0 (by omega) hk w,trivial⟩) (λw _=> ?_)).1
 ·obtain ⟨n,hn⟩:=this
  refine ⟨n,_,?_,rfl⟩
  have e:Oi s c0 ((m:Int)-((0:Nat):Int)) (x,b,z)=((s,(),(),(),(),(),(m:Int),()),(c0,[1,0,0,0],lst x,lst b,lst z,())):=by
   rw [show (m:Int)-((0:Nat):Int)=(m:Int) by omega]
   rfl
  rw [e] at hn
  exact hn
 ·exact OT.aw (decide_eq_false (by dsimp only [Oi];omega))
def uJ (s:Int) (a:ac):ac:=(alA (pS s) ((aL s.toNat).2.1-1).toNat
 (fS (pS s) a (cT (mD (dh (fo (aL s.toNat).1 eE).1 (aL s.toNat).2.1.toNat) eE).1),fS (pS s) a (dh (fo (aL s.toNat).1 eE).1 (aL s.toNat).2.1.toNat),fS (pS s) ⟨5,0,0,0⟩ (dh (fo (aL s.toNat).1 eE).1 (aL s.toNat).2.1.toNat))).1
def lg (p:Nat) (x:ac):ac:=cond (x.w0%2==1) (HA p x) x
def IV (x:xW):Bool:=ak x.1.1
def YU (x:xW):OT fy.Y:=.br (dw (ofP (pS x.1.1) x.1.2.1)) (.ok ⟨eM,((⟨0,0,0,0⟩,((0:Int),())),())⟩)
 (.br (eqE (fS (pS x.1.1) (ofP (pS x.1.1) x.1.2.1) (cT (fo (aL x.1.1.toNat).1 eE).1)) eE) (.ok ⟨eM,((lg (pS x.1.1) (uJ x.1.1 (ofP (pS x.1.1) x.1.2.1)),((0:Int),())),())⟩) (.ok ⟨eM,((⟨0,0,0,0⟩,((22:Int),())),())⟩))
theorem akW {s:Int} (hs:ak s=true):1<=(aL s.toNat).2.1/\(aL s.toNat).2.1<=32:=by
 rcases bD hs with rfl|rfl|rfl|rfl<;>decide
theorem ahq:aa Try.prog 39 (fy.aD IV YU):=T4 fJ jL xV Dk ahr ahs _ _ λx oy hp ho=>by
 rw [<-ho]
 clear ho
 obtain ⟨⟨s,a,⟨⟩⟩,⟨⟩⟩:=x
 have hs:ak s=true:=hp
 have had:=akW hs
 show _=(OT.br (dw (ofP (pS s) a)) (.ok ⟨eM,((⟨0,0,0,0⟩,((0:Int),())),())⟩) (.br (eqE (fS (pS s) (ofP (pS s) a) (cT (fo (aL s.toNat).1 eE).1)) eE) (.ok ⟨eM,((lg (pS s) (uJ s (ofP (pS s) a)),((0:Int),())),())⟩) (.ok ⟨eM,((⟨0,0,0,0⟩,((22:Int),())),())⟩)):OT fy.Y).run
 refine (ah ?_).trans ?_
 ·simp only [List.all_cons,List.all_nil,Bool.and_true,Bool.and_eq_true]
  exact ⟨hs,hs⟩
 generalize hA:ofP (pS s) a=A
 rcases (Bool.eq_false_or_eq_true (dw A)).symm with hz|hz
 ·refine Eq.trans ?_ (OT.aw (b:=dw A) hz).symm
  refine (OT.aw hz).trans ((ah ?_).trans ?_)
  ·simp only [List.all_cons,List.all_nil,Bool.and_true]
   exact hs
  ·rcases (Bool.eq_false_or_eq_true (eqE (fS (pS s) A (cT (fo (aL s.toNat).1 eE).1)) eE)).symm with h1|h1
   ·refine Eq.trans ?_ (OT.aw h1).symm
    exact OT.au (b:= !eqE (fS (pS s) A (cT (fo (aL s.toNat).1 eE).1)) eE) (by rw [h1];rfl)
   ·refine Eq.trans ?_ (OT.au h1).symm
    refine (OT.aw (b:= !eqE (fS (pS s) A (cT (fo (aL s.toNat).1 eE).1)) eE) (by rw [h1];rfl)).trans ((ah ?_).trans ?_)
    ·simp only [List.all_cons,List.all_nil,Bool.and_true,Bool.and_eq_true]
     refine ⟨hs,decide_eq_true ⟨(by show 0<=(aL s.toNat).2.1;omega),(by show (aL s.toNat).2.1<=1000000;omega)⟩,hs,hs,hs,aS (by omega),(Bool.and_eq_true _ _).mpr ⟨hs,?_⟩,rfl⟩
     exact decide_eq_true ⟨(by show 0<=(aL s.toNat).2.1-1;omega),(by show (aL s.toNat).2.1-1<=1000;omega),rfl,rfl,rfl,rfl⟩
    ·have hg:∀ w x b z:ac,(Dk ((s,(),(),(),(),(),(aL s.toNat).2.1-1,()),([0,0,0,0],[1,0,0,0],[x.w0,x.w1,x.w2,x.w3],[b.w0,b.w1,b.w2,b.w3],[z.w0,z.w1,z.w2,z.w3],())))=((s,(),(),()),([0,0,0,0],lst (alA (pS s) ((aL s.toNat).2.1-1).toNat (x,b,z)).1,())):=λ_ _ _ _=>rfl
     simp only [hg eE]
     have hR:(alA (pS s) ((aL s.toNat).2.1-1).toNat (fS (pS s) A (cT (mD (dh (fo (aL s.toNat).1 ⟨1,0,0,0⟩).1 (aL s.toNat).2.1.toNat) ⟨1,0,0,0⟩).1),fS (pS s) A (dh (fo (aL s.toNat).1 ⟨1,0,0,0⟩).1 (aL s.toNat).2.1.toNat),fS (pS s) ⟨5,0,0,0⟩ (dh (fo (aL s.toNat).1 ⟨1,0,0,0⟩).1 (aL s.toNat).2.1.toNat))).1=uJ s A:=rfl
     simp only [hR]
     generalize uJ s A=R
     rcases (Bool.eq_false_or_eq_true (R.w0%2==1)).symm with h2|h2
     ·have e:lg (pS s) R=R:=by unfold lg;rw [h2];rfl
      rw [e]
      exact (OT.aw h2).trans ((ah rfl).trans rfl)
     ·have e:lg (pS s) R=HA (pS s) R:=by unfold lg;rw [h2];rfl
      rw [e]
      refine (OT.au h2).trans ((ah ?_).trans rfl)
      simp only [List.all_cons,List.all_nil,Bool.and_true,Bool.and_eq_true]
      exact ⟨rfl,hs,rfl,rfl,rfl,rfl⟩
 ·exact (OT.au hz).trans (OT.au (b:=dw A) hz).symm
def sI:bI:=(fy.aD IV YU)
theorem OV:aa Try.prog 39 sI:=ahq
theorem OU:aC sI:=ax
def rI:Env:=av 39 sI Gm
theorem nM:aI Try.prog rI:=ag OV pW
theorem wE:aq rI:=ab OU Gl
theorem A8:aP Try.prog te rI:=aF follows ap nM wE
def eV:ao:=⟨[.val false (.list .u8)],[],true,0,false⟩
abbrev q9:Type:=((List (UInt8))×Unit)×(Unit)
def l5:Shape:=⟨27,[(2,.ptr 0 0 0),(3,.ptr 1 0 0),(6,.val false (.list .u8)),(7,.val false .int),(8,.val false .int)],[(0,.row .u64),(1,.row .u64)],0,true⟩
abbrev bh:Type:=((Unit)×(Unit)×(List (UInt8))×(Int)×(Int)×Unit)×((List (UInt64))×(List (UInt64))×Unit)
def kS:Shape:=⟨27,[(2,.ptr 0 0 0),(3,.ptr 1 0 0)],[(0,.row .u64),(1,.row .u64)],0,true⟩
abbrev fj:Type:=((Unit)×(Unit)×Unit)×((List (UInt64))×(List (UInt64))×Unit)
def JG:SE->Option Shape:=kv [(0,kS)] none
def ac8 (a6:List (UInt8)) (a7:Int) (a8:Int) (c0:List (UInt64)) (c1:List (UInt64)):OT (Sum bh aJ):=
 let z0:Int:=Int.tdiv a8 (8:Int)
 let z1:Bool:=inB z0 4
 let z2:Bool:=decide (Int.toNat z0+0<List.length c1)
 let z3:Int:=(8:Int)*Int.tmod a8 (8:Int)
 (.br (decide (a8<a7))
 (gd [inB a8 (List.length a6),true&&inR z0,z1,z2,inR z3,decide ((0:Int)<=z3),z1,z2,inR (a8+(1:Int))] (.ok (.inl (((),((),(a6,(a7,(a8+(1:Int),()))))),(c0,(List.set c1 (Int.toNat z0+0) (List.getD c1 (Int.toNat z0+0) (0:UInt64)|||bL (UInt8.toUInt64 (List.getD a6 (Int.toNat a8) (0:UInt8))) z3),()))))))
 (.ok (.inr ⟨(.exit 0,kS),(((),((),())),(c0,(c1,())))⟩)))
def l7 (s:bh):OT (Sum bh aJ):=ac8 (s.1.2.2.1) (s.1.2.2.2.1) (s.1.2.2.2.2.1) (s.2.1) (s.2.2.1)
theorem ac5 (s:bh) (Q:Sum bh aJ->Prop):wps te rI ay 1000 (bk (al Try.f64) 0) (l5.inj s) (cO l5 JG (Q:Sum l5.T aJ->Prop))=(l7 s).wpR Q:=by kernel_rfl
def q8 (g0_0:bh->fj) (s:bh):OT aJ:=(.ok ⟨(.exit 0,kS),g0_0 s⟩)
def q7:ar:=⟨[.val true .elem],[],false⟩
def Ez:SV->Option ar:=λ_=>some q7
def pe (ok0:bh->Bool) (g0_0:bh->fj) (a0:List (UInt8)):OT eV.Y:=
 let z0:(PUnit×PUnit×List UInt8×Int×Int×PUnit)×List UInt64×List UInt64×PUnit:=(((),(),a0,(↑(List.length a0):Int),(0:Int),()),[(0:UInt64),(0:UInt64),(0:UInt64),(0:UInt64)],[(0:UInt64),(0:UInt64),(0:UInt64),(0:UInt64)],())
 let z1:=(g0_0 z0).snd
 let z2:=z1.snd.fst
 let z3:=z1.fst
 let z4:List UInt64:=lay z3 z2 4 (0:UInt64)
 (gd [ok0 z0,decide (4<=List.length z2),decide ((4/1:Nat)+0<=List.length z3),decide (4<=List.length z4)] (.ok ⟨q7,(({w0:=List.getD z4 0 0,w1:=List.getD z4 1 0,w2:=List.getD z4 2 0,w3:=List.getD z4 3 0},()),())⟩))
theorem ajd (ok0:bh->Bool) (g0_0:bh->fj) (x:q9) (Q:eV.Y->Prop):wpf te rI (bu 0 (dq l5 0 ok0 (q8 g0_0)) ay) 1000 Try.f64 (eV.inp.inj x).tm (eV.inp.inj x).hp (fnK eV Ez Q) (λ_ _=>False)=(pe ok0 g0_0 (x.1.1)).wpR Q:=by kernel_rfl
theorem Qq (ok0:bh->Bool) (g0_0:bh->fj) (h0:∀ s:bh,ok0 s=true->∃ m e,aA (l7) m s=some e/\(q8 g0_0 s).run=some e) (pre:q9->Bool) (F:q9->OT eV.Y) (hF:∀ (x:q9) oy,pre x=true->(F x).run=some oy->(pe ok0 g0_0 (x.1.1)).run=some oy):aa Try.prog 64 (eV.aD pre F):=
 aB ap nM A8 (f:=64) (fn:=Try.f64) (c:=al Try.f64) (by kernel_rfl) (by kernel_rfl) (by kernel_rfl) (S:=eV) (k:=0) (by kernel_rfl) (λR hR=>(aH (c:=(al Try.f64)) (by kernel_rfl) (id:=0) (by kernel_rfl) (bn ap nM A8 (sh:=l5) hR (xs:=JG) (aG (by kernel_rfl) (by kernel_rfl) hR) aV af (n:=1000) (T:=l7) (λs Q=>ac5 s Q) (ok:=ok0) (f:=q8 g0_0) h0) af)) (n:=1000) (sel:=Ez) (λv o h=>by cases h;rfl) (pre:=pre) (F:=F) (T:=λx=>pe ok0 g0_0 (x.1.1)) (λx Q=>ajd ok0 g0_0 x Q) hF
def aib (b:List UInt8) (k:Nat) (l:List UInt64):List UInt64:=l.set (k/8) (l.getD (k/8) 0|||bL (UInt8.toUInt64 (b.getD k 0)) (8*((k%8:Nat):Int)))
def awa (b:List UInt8) (n:Nat):List UInt64:=upto (aib b) [0,0,0,0] n
def Jj (b:List UInt8):ac:=elemOf (awa b 32)
theorem DO (b:List UInt8):∀ n,(awa b n).length=4
 |0=>rfl
 |n+1=>(List.length_set ..).trans (DO b n)
def EA (s:bh):Bool:=decide (s.1.2.2.1.length=32/\s.1.2.2.2.1=32/\s.1.2.2.2.2.1=0/\s.2.2.1= [0,0,0,0])
def JH (s:bh):fj:=(((),(),()),(s.2.1,awa s.1.2.2.1 32,()))
theorem avg (i:Nat):Int.tdiv (i:Int) 8=((i/8:Nat):Int):=by rw [Int.tdiv_eq_ediv_of_nonneg (by omega)];omega
theorem avh (i:Nat):Int.tmod (i:Int) 8=((i%8:Nat):Int):=by rw [Int.tmod_eq_emod_of_nonneg (by omega)];omega
theorem ac7:∀ s:bh,EA s=true->∃ m e,aA l7 m s=some e/\(q8 JH s).run=some e:=by
 rintro ⟨⟨⟨⟩,⟨⟩,b,n,i,⟨⟩⟩,⟨c0,c1,⟨⟩⟩⟩ h
 have h':=of_decide_eq_true h
 dsimp only at h'
 obtain ⟨hb,rfl,rfl,rfl⟩:=h'
 have:=(bw (T:=l7) (λi o=>((((),(),b,(32:Int),(i:Int),()),(c0,o,())):bh)) (aib b)
  (λo=>(⟨(.exit 0,kS),(((),(),()),(c0,o,()))⟩:aJ)) 32 [0,0,0,0] (λ_ o=>o.length=4) rfl (λi o hi ho=>⟨?_,(List.length_set ..).trans ho⟩) (λo ho=> ?_)).1
 ·obtain ⟨m,hm⟩:=this
  exact ⟨m,_,hm,rfl⟩
 ·have t1:=avg i
  have t2:=avh i
  refine (OT.au (decide_eq_true (by dsimp only;omega))).trans ((ah ?_).trans ?_)
  ·simp only [t1,t2,ho,hb,Int.toNat_natCast,List.all_cons,List.all_nil,Bool.and_true,Bool.true_and,Bool.and_eq_true]
   exact ⟨bc (by omega),aS (by omega),bc (by omega),decide_eq_true (by omega),aS (by omega),decide_eq_true (by omega),bc (by omega),decide_eq_true (by omega),aS (by omega)⟩
  ·simp only [OT.eC,t1,t2,Int.toNat_natCast,Nat.add_zero]
   rfl
 ·exact OT.aw (decide_eq_false (by dsimp only;omega))
def hJ (x:q9):Bool:=decide (x.1.1.length=32)
def Qs (x:q9):OT eV.Y:=.ok ⟨q7,((Jj x.1.1,()),())⟩
abbrev Qp (b:List UInt8):bh:=(((),(),b,(b.length:Int),0,()),([0,0,0,0],[0,0,0,0],()))
theorem Qr {ok0:bh->Bool} {g0:bh->fj} {b:List UInt8} {L:List UInt64} (hok:ok0 (Qp b)=true)
 (hg:g0 (Qp b)=(((),(),()),([0,0,0,0],L,()))) (hL:L.length=4):(pe ok0 g0 b).run=some ⟨q7,((elemOf L,()),())⟩:=by
 have e:lay [0,0,0,0] L 4 0=L:=PJ rfl hL
 unfold pe
 simp only [hg]
 refine (ah ?_).trans ?_
 ·simp only [e,hL,List.all_cons,List.all_nil,Bool.and_true,Bool.and_eq_true]
  exact ⟨hok,rfl,rfl,rfl⟩
 ·rw [e]
  rfl
theorem ac6:aa Try.prog 64 (eV.aD hJ Qs):=Qq EA JH ac7 _ _ λx oy hp ho=>by
 rw [<-ho]
 clear ho
 obtain ⟨⟨b,⟨⟩⟩,⟨⟩⟩:=x
 have hb:b.length=32:=of_decide_eq_true hp
 exact Qr (b:=b) (L:=awa b 32) (decide_eq_true ⟨hb,by show ((b.length:Nat):Int)=32;omega,rfl,rfl⟩) rfl (DO b 32)
def pd:bI:=(eV.aD hJ Qs)
theorem Mp:aa Try.prog 64 pd:=ac6
theorem Mo:aC pd:=ax
def p9:Env:=av 64 pd rI
theorem p7:aI Try.prog p9:=ag Mp nM
theorem sd:aq p9:=ab Mo wE
theorem NA:aP Try.prog te p9:=aF follows ap p7 sd
def iM:ao:=⟨[.val false .int,.val false (.list .u8)],[],true,0,false⟩
abbrev JA:Type:=((Int)×(List (UInt8))×Unit)×(Unit)
def gy:ar:=⟨[.val true .elem,.val false .int],[],false⟩
def Qa:SV->Option ar:=λ_=>some gy
def Em (a0:Int) (a1:List (UInt8)):OT iM.Y:=
 let z0:Nat:=List.length a1
 let z1:Int:=(↑z0:Int)
 let z2:ac:= {w0:=0,w1:=0,w2:=0,w3:=0}
 let z3:List UInt8:=List.drop 0 (List.take 32 a1)
 let z4:List UInt8:=List.drop 32 a1
 let z5:ac:=(aL (Int.toNat a0)).fst
 (.br (ak a0)
 (.br (!z1==(64:Int))
  (.ok ⟨gy,((z2,((21:Int),())),())⟩)
  (gd [bH (0:Int) (32:Int) z0,hJ ((z3,()),()),bH (32:Int) z1 z0,hJ ((z4,()),())] (.br (Az z5)
   (.ok ⟨gy,((z2,((10:Int),())),())⟩)
   (.ok ⟨gy,((aua (Jj z3) (Jj z4) z5,((0:Int),())),())⟩))))
 (.ok ⟨gy,((z2,((20:Int),())),())⟩))
theorem atc (x:JA) (Q:iM.Y->Prop):wpf te p9 ay 1000 Try.f125 (iM.inp.inj x).tm (iM.inp.inj x).hp (fnK iM Qa Q) (λ_ _=>False)=(Em (x.1.1) (x.1.2.1)).wpR Q:=by kernel_rfl
theorem acT (pre:JA->Bool) (F:JA->OT iM.Y) (hF:∀ (x:JA) oy,pre x=true->(F x).run=some oy->(Em (x.1.1) (x.1.2.1)).run=some oy):aa Try.prog 125 (iM.aD pre F):=
 aB ap p7 NA (f:=125) (fn:=Try.f125) (c:=al Try.f125) (by kernel_rfl) (by kernel_rfl) (by kernel_rfl) (S:=iM) (k:=0) (by kernel_rfl) (λR hR=>af) (n:=1000) (sel:=Qa) (λv o h=>by cases h;rfl) (pre:=pre) (F:=F) (T:=λx=>Em (x.1.1) (x.1.2.1)) (λx Q=>atc x Q) hF
def D2 (b:List UInt8):Bool:=(b.length:Int)==64
def aqj (s:Int) (b:List UInt8):ac:=aua (Jj (b.take 32)) (Jj (b.drop 32)) (aL s.toNat).1
def Qb (_:JA):Bool:=true
def ai2 (x:JA):OT iM.Y:=.br (ak x.1.1) (.br (D2 x.1.2.1) (.ok ⟨gy,((aqj x.1.1 x.1.2.1,((0:Int),())),())⟩) (.ok ⟨gy,((⟨0,0,0,0⟩,((21:Int),())),())⟩)) (.ok ⟨gy,((⟨0,0,0,0⟩,((20:Int),())),())⟩)
theorem PI {b:List UInt8}:D2 b=true ↔ b.length=64:=by
 unfold D2
 rw [beq_iff_eq]
 omega
theorem anA {s:Int} (h:ak s=true):Az (aL s.toNat).1=false:=by
 rcases bD h with rfl|rfl|rfl|rfl<;>rfl
theorem acU {s:Int} {b:List UInt8} {W:ac} (hW:aua (Jj (List.drop 0 (b.take 32))) (Jj (b.drop 32)) (aL s.toNat).1=W):(Em s b).run=(OT.br (ak s) (.br (D2 b) (.ok ⟨gy,((W,((0:Int),())),())⟩) (.ok ⟨gy,((⟨0,0,0,0⟩,((21:Int),())),())⟩)) (.ok ⟨gy,((⟨0,0,0,0⟩,((20:Int),())),())⟩):OT iM.Y).run:=by
 unfold Em
 simp only [hW]
 rcases (Bool.eq_false_or_eq_true (ak s)).symm with hs|hs
 ·exact (OT.aw hs).trans (OT.aw (b:=ak s) hs).symm
 ·refine (OT.au hs).trans (Eq.trans ?_ (OT.au (b:=ak s) hs).symm)
  rcases (Bool.eq_false_or_eq_true (D2 b)).symm with hl|hl
  ·exact (OT.au (b:= !D2 b) (by rw [hl];rfl)).trans (OT.aw (b:=D2 b) hl).symm
  ·have hb:b.length=64:=PI.1 hl
   refine (OT.aw (b:= !D2 b) (by rw [hl];rfl)).trans (Eq.trans ?_ (OT.au (b:=D2 b) hl).symm)
   refine (ah ?_).trans (OT.aw (anA hs))
   simp only [List.all_cons,List.all_nil,Bool.and_true,Bool.and_eq_true]
   exact ⟨cg (by omega),decide_eq_true (by show (List.drop 0 (b.take 32)).length=32;rw [List.drop_zero,List.length_take];omega),cg (by omega),decide_eq_true (by show (List.drop 32 b).length=32;rw [List.length_drop];omega)⟩
theorem an0:aa Try.prog 125 (iM.aD Qb ai2):=acT _ _ λx oy hp ho=>by
 rw [<-ho]
 clear ho
 obtain ⟨⟨s,b,⟨⟩⟩,⟨⟩⟩:=x
 exact acU rfl
def yI:bI:=(iM.aD Qb ai2)
theorem Vj:aa Try.prog 125 yI:=an0
theorem Vi:aC yI:=ax
def GJ:Env:=av 125 yI p9
theorem zQ:aI Try.prog GJ:=ag Vj p7
theorem Bn:aq GJ:=ab Vi sd
theorem WW:aP Try.prog te GJ:=aF follows ap zQ Bn
def cU:ao:=⟨[.val false .int,.val false (.list .u8)],[],true,0,false⟩
abbrev kW:Type:=((Int)×(List (UInt8))×Unit)×(Unit)
def cF:ar:=⟨[.val true .elem,.val false .int],[],false⟩
def EU:SV->Option ar:=λ_=>some cF
def pq (a0:Int) (a1:List (UInt8)):OT cU.Y:=
 let z0:ac:= {w0:=0,w1:=0,w2:=0,w3:=0}
 let z1:Bool:=hJ ((a1,()),())
 let z2:ac:=Jj a1
 (.br (ak a0)
 (.br (!(↑(List.length a1):Int)==(32:Int))
  (.ok ⟨cF,((z0,((21:Int),())),())⟩)
  (gd [z1] (.br (!Nat.blt (ac.nat z2) (ac.nat (aL (Int.toNat a0)).fst))
   (.ok ⟨cF,((z0,((21:Int),())),())⟩)
   (gd [z1] (.ok ⟨cF,((z2,((0:Int),())),())⟩)))))
 (.ok ⟨cF,((z0,((20:Int),())),())⟩))
theorem ajz (x:kW) (Q:cU.Y->Prop):wpf te GJ ay 1000 Try.f33 (cU.inp.inj x).tm (cU.inp.inj x).hp (fnK cU EU Q) (λ_ _=>False)=(pq (x.1.1) (x.1.2.1)).wpR Q:=by kernel_rfl
theorem QF (pre:kW->Bool) (F:kW->OT cU.Y) (hF:∀ (x:kW) oy,pre x=true->(F x).run=some oy->(pq (x.1.1) (x.1.2.1)).run=some oy):aa Try.prog 33 (cU.aD pre F):=
 aB ap zQ WW (f:=33) (fn:=Try.f33) (c:=al Try.f33) (by kernel_rfl) (by kernel_rfl) (by kernel_rfl) (S:=cU) (k:=0) (by kernel_rfl) (λR hR=>af) (n:=1000) (sel:=EU) (λv o h=>by cases h;rfl) (pre:=pre) (F:=F) (T:=λx=>pq (x.1.1) (x.1.2.1)) (λx Q=>ajz x Q) hF
def ky (b:List UInt8):Bool:=(b.length:Int)==32
theorem oV {b:List UInt8}:ky b=true ↔ b.length=32:=by
 unfold ky
 rw [beq_iff_eq]
 omega
def EV (_:kW):Bool:=true
def EW (x:kW):OT cU.Y:=.br (ak x.1.1) (.br (ky x.1.2.1) (.br (Nat.blt (Jj x.1.2.1).nat (pS x.1.1)) (.ok ⟨cF,((Jj x.1.2.1,((0:Int),())),())⟩) (.ok ⟨cF,((⟨0,0,0,0⟩,((21:Int),())),())⟩))
 (.ok ⟨cF,((⟨0,0,0,0⟩,((21:Int),())),())⟩)) (.ok ⟨cF,((⟨0,0,0,0⟩,((20:Int),())),())⟩)
theorem QG {s:Int} {b:List UInt8} {N:ac} (hN:Jj b=N):(pq s b).run=(OT.br (ak s) (.br (ky b) (.br (Nat.blt N.nat (pS s)) (.ok ⟨cF,((N,((0:Int),())),())⟩) (.ok ⟨cF,((⟨0,0,0,0⟩,((21:Int),())),())⟩))
 (.ok ⟨cF,((⟨0,0,0,0⟩,((21:Int),())),())⟩)) (.ok ⟨cF,((⟨0,0,0,0⟩,((20:Int),())),())⟩):OT cU.Y).run:=by
 unfold pq
 simp only [hN]
 rcases (Bool.eq_false_or_eq_true (ak s)).symm with hs|hs
 ·exact (OT.aw hs).trans (OT.aw (b:=ak s) hs).symm
 ·refine (OT.au hs).trans (Eq.trans ?_ (OT.au (b:=ak s) hs).symm)
  rcases (Bool.eq_false_or_eq_true (ky b)).symm with hl|hl
  ·exact (OT.au (b:= !ky b) (by rw [hl];rfl)).trans (OT.aw (b:=ky b) hl).symm
  ·have hp:hJ ((b,()),())=true:=decide_eq_true (oV.1 hl)
   refine (OT.aw (b:= !ky b) (by rw [hl];rfl)).trans (Eq.trans ?_ (OT.au (b:=ky b) hl).symm)
   rw [hp]
   refine (ah rfl).trans ?_
   rcases (Bool.eq_false_or_eq_true (Nat.blt N.nat (pS s))).symm with h|h
   ·exact (OT.au (b:= !Nat.blt N.nat (pS s)) (by rw [h];rfl)).trans (OT.aw (b:=Nat.blt N.nat (pS s)) h).symm
   ·exact (OT.aw (b:= !Nat.blt N.nat (pS s)) (by rw [h];rfl)).trans ((ah rfl).trans (OT.au (b:=Nat.blt N.nat (pS s)) h).symm)
theorem JQ:aa Try.prog 33 (cU.aD EV EW):=QF _ _ λx oy hp ho=>by
 rw [<-ho]
 clear ho
 obtain ⟨⟨s,b,⟨⟩⟩,⟨⟩⟩:=x
 exact QG rfl
def po:bI:=(cU.aD EV EW)
theorem MA:aa Try.prog 33 po:=JQ
theorem Mz:aC po:=ax
def G1:Env:=av 33 po GJ
theorem Sp:aI Try.prog G1:=ag MA zQ
theorem HW:aq G1:=ab Mz Bn
abbrev ajp:ao:=kU
def pl (x:QC):Bool:=ak x.1.1
def ajq (x:QC):OT kU.Y:=.ok ⟨yQ,((fS (pS x.1.1) x.1.2.1 x.1.2.2.1,()),())⟩
theorem aol:aa Try.prog 68 (ajp.aD pl ajq):=fF (S:=kU) ajs λx oy hp ho=>⟨rfl,(OT.au (b:=ak x.1.1) hp).trans ho⟩
def yP:bI:=(ajp.aD pl ajq)
theorem VD:aa Try.prog 68 yP:=aol
theorem VC:aC yP:=ax
def qb:Env:=av 68 yP G1
theorem jk:aI Try.prog qb:=ag VD Sp
theorem Bt:aq qb:=ab VC HW
theorem nQ:aP Try.prog te qb:=aF follows ap jk Bt
end Go.Proofs.Ythgjhpbapddpnaa

namespace Go.Proofs.Ythgjhpbapddpnaa
theorem DL {α:Type} [BEq α] [LawfulBEq α]:∀ {l1 l2:List α},l1.Nodup->(∀ x ∈ l1,x ∈ l2)->l2.length<=l1.length->l1.Perm l2
 | [],l2,_,_,h=>by
  have:l2= []:=List.length_eq_zero_iff.1 (Nat.le_zero.1 h)
  rw [this]
 |a::t,l2,hn,hs,hl=>by
  have ha:a ∈ l2:=hs a (List.mem_cons_self ..)
  have hp:l2.Perm (a::l2.erase a):=List.perm_cons_erase ha
  rw [List.nodup_cons] at hn
  have hl2:=List.length_erase_of_mem ha
  have hpos:0<l2.length:=List.length_pos_of_mem ha
  have ih:t.Perm (l2.erase a):=DL hn.2 (λx hx=>by
   have hne:x≠a:=λe=>hn.1 (e▸hx)
   exact (List.mem_erase_of_ne hne).2 (hs x (List.mem_cons_of_mem _ hx))) (by rw [List.length_cons] at hl;omega)
  exact (ih.cons a).trans hp.symm
def Pr (p:Nat):Prop:=2<=p/\∀ d,d∣p->d=1\/d=p
theorem Pr.pos {p:Nat} (h:Pr p):0<p:=by have:=h.1;omega
theorem Pr.cop {p a:Nat} (h:Pr p) (ha:¬p∣a):Nat.Coprime p a:=by
 rcases h.2 (Nat.gcd p a) (Nat.gcd_dvd_left ..) with e|e
 ·exact e
 ·exact absurd (e▸Nat.gcd_dvd_right p a) ha
theorem Pr.aae {p a b:Nat} (h:Pr p) (hd:p∣a*b):p∣a\/p∣b:=by
 by_cases ha:p∣a
 ·exact .inl ha
 ·exact .inr ((h.cop ha).dvd_of_dvd_mul_left hd)
def rR:List Nat->Nat
 | []=>1
 |a::l=>a*rR l
theorem ach {l1 l2:List Nat} (h:l1.Perm l2):rR l1=rR l2:=by
 induction h with
 |nil=>rfl
 |cons x _ ih=>simp only [rR,ih]
 |swap x y l=>simp only [rR];rw [<-Nat.mul_assoc,<-Nat.mul_assoc,Nat.mul_comm x y]
 |trans _ _ a b=>exact a.trans b
theorem Ps (p a:Nat):∀ l:List Nat,rR (l.map λx=>a*x%p)%p=a^l.length*rR l%p
 | []=>by simp [rR]
 |x::l=>by
  have ih:=Ps p a l
  simp only [List.map_cons,rR,List.length_cons]
  rw [Nat.mul_mod,Nat.mod_mod,ih,<-Nat.mul_mod,Nat.pow_succ]
  congr 1
  rw [Nat.mul_assoc,Nat.mul_assoc,Nat.mul_left_comm x]
  rw [Nat.mul_left_comm a]
theorem Pq {p:Nat} (h:Pr p):∀ l:List Nat,(∀ x ∈ l,¬p∣x)->¬p∣rR l
 | [],_,hd=>by
  have:=Nat.le_of_dvd (by decide) hd
  have:=h.1
  simp only [rR] at*
  omega
 |x::l,hx,hd=>by
  rcases h.aae hd with h1|h1
  ·exact hx x (List.mem_cons_self ..) h1
  ·exact Pq h l (λy hy=>hx y (List.mem_cons_of_mem _ hy)) h1
theorem acw {p a b:Nat} (hab:a<=b) (h:a%p=b%p):p∣b-a:=by
 have h1:=Nat.div_add_mod a p
 have h2:=Nat.div_add_mod b p
 refine ⟨b/p-a/p,?_⟩
 rw [Nat.mul_sub]
 omega
theorem iW {p x:Nat} (h0:0<x) (h1:x<p):¬p∣x:=λh=>by
 have:=Nat.le_of_dvd h0 h
 omega
theorem aiA {p a:Nat} (h:Pr p) (ha:¬p∣a) {x y:Nat} (hx:x<p) (hy:y<p) (e:a*x%p=a*y%p):x=y:=by
 have aux:∀ {x y:Nat},x<p->y<p->x<=y->a*x%p=a*y%p->x=y:=λ{x y} hx hy hxy e=>by
  have hd:=acw (Nat.mul_le_mul_left a hxy) e
  rw [<-Nat.mul_sub] at hd
  rcases h.aae hd with h1|h1
  ·exact absurd h1 ha
  ·by_cases h0:y-x=0
   ·omega
   ·exact absurd h1 (iW (by omega) (by omega))
 rcases Nat.le_total x y with hxy|hxy
 ·exact aux hx hy hxy e
 ·exact (aux hy hx hxy e.symm).symm
theorem Ay {α β:Type} {f:α->β}:∀ {l:List α},l.Nodup->(∀ x ∈ l,∀ y ∈ l,f x=f y->x=y)->(l.map f).Nodup
 | [],_,_=>List.nodup_nil
 |a::l,hn,hi=>by
  rw [List.nodup_cons] at hn
  rw [List.map_cons,List.nodup_cons]
  refine ⟨λhm=> ?_,Ay hn.2 λx hx y hy=>hi x (List.mem_cons_of_mem _ hx) y (List.mem_cons_of_mem _ hy)⟩
  obtain ⟨b,hb,e⟩:=List.mem_map.1 hm
  have:=hi a (List.mem_cons_self ..) b (List.mem_cons_of_mem _ hb) e.symm
  exact hn.1 (this▸hb)
theorem Z6 {p a:Nat} (h:Pr p) (ha:¬p∣a):a^(p-1)%p=1:=by
 have hp:=h.1
 have hn:(List.range' 1 (p-1)).Nodup:=List.nodup_range' ..
 have hm:((List.range' 1 (p-1)).map λx=>a*x%p).Nodup:=Ay hn λx hx y hy e=>by
  rw [List.mem_range'_1] at hx hy
  exact aiA h ha (by omega) (by omega) e
 have hperm:=DL (l2:=List.range' 1 (p-1)) hm (λy hy=>by
  obtain ⟨x,hx,rfl⟩:=List.mem_map.1 hy
  rw [List.mem_range'_1] at hx⊢
  have hlt:=Nat.mod_lt (a*x) h.pos
  have hne:a*x%p≠0:=λe=>by
   rcases h.aae (Nat.dvd_of_mod_eq_zero e) with h1|h1
   ·exact ha h1
   ·exact iW (by omega) (by omega) h1
  omega) (by rw [List.length_map];exact Nat.le_refl _)
 have e:=Ps p a (List.range' 1 (p-1))
 rw [ach hperm,List.length_range'] at e
 have hnot:¬p∣rR (List.range' 1 (p-1)):=Pq h _ λx hx=>by
  rw [List.mem_range'_1] at hx
  exact iW (by omega) (by omega)
 have hmul:∀ z,z*rR (List.range' 1 (p-1))%p=rR (List.range' 1 (p-1))*(z%p)%p:=λz=>by
  rw [Nat.mul_comm,Nat.mul_mod_mod]
 rw [hmul] at e
 have e1:rR (List.range' 1 (p-1))%p=rR (List.range' 1 (p-1))*1%p:=by rw [Nat.mul_one]
 rw [e1] at e
 exact (aiA h hnot (by omega) (Nat.mod_lt _ h.pos) e).symm
theorem D3:∀ (k n:Nat),2<=n->n<=k->∃ r,Pr r/\r∣n
 |0,n,h2,hk=>by omega
 |k+1,n,h2,hk=>by
  by_cases hp:Pr n
  ·exact ⟨n,hp,Nat.dvd_refl _⟩
  ·have:∃ d,d∣n/\d≠1/\d≠n:=by
    apply Classical.byContradiction
    intro hc
    refine hp ⟨h2,λd hd=> ?_⟩
    apply Classical.byContradiction
    intro hd2
    exact hc ⟨d,hd,λe=>hd2 (.inl e),λe=>hd2 (.inr e)⟩
   obtain ⟨d,hd,h1,h3⟩:=this
   have hle:=Nat.le_of_dvd (by omega) hd
   have h0:d≠0:=λe=>by subst e;have:=Nat.eq_zero_of_zero_dvd hd;omega
   obtain ⟨r,hr,hrd⟩:=D3 k d (by omega) (by omega)
   exact ⟨r,hr,Nat.dvd_trans hrd hd⟩
theorem OA {n:Nat} (h2:2<=n) (hp:¬Pr n):∃ r,Pr r/\r∣n/\r*r<=n:=by
 have:∃ d,d∣n/\d≠1/\d≠n:=by
  apply Classical.byContradiction
  intro hc
  refine hp ⟨h2,λd hd=> ?_⟩
  apply Classical.byContradiction
  intro hd2
  exact hc ⟨d,hd,λe=>hd2 (.inl e),λe=>hd2 (.inr e)⟩
 obtain ⟨d,⟨e,rfl⟩,h1,h3⟩:=this
 have hd0:d≠0:=λe'=>by subst e';omega
 have he0:e≠0:=λe'=>by subst e';omega
 have he1:e≠1:=λe'=>by subst e';omega
 rcases Nat.le_total d e with hde|hde
 ·obtain ⟨r,hr,hrd⟩:=D3 d d (by omega) (Nat.le_refl _)
  have hle:=Nat.le_of_dvd (by omega) hrd
  exact ⟨r,hr,Nat.dvd_trans hrd (Nat.dvd_mul_right ..),Nat.le_trans (Nat.mul_le_mul hle hle) (Nat.mul_le_mul_left d hde)⟩
 ·obtain ⟨r,hr,hrd⟩:=D3 e e (by omega) (Nat.le_refl _)
  have hle:=Nat.le_of_dvd (by omega) hrd
  exact ⟨r,hr,Nat.dvd_trans hrd (Nat.dvd_mul_left ..),Nat.le_trans (Nat.mul_le_mul hle hle) (Nat.mul_le_mul_right e hde)⟩
theorem asO {r a:Nat} (hr:2<=r) (m k:Nat):a^m%r=1->a^k%r=1->a^Nat.gcd m k%r=1:=by
 induction m,k using Nat.gcd.induction with
 |H0 n=>intro _ h;rw [Nat.gcd_zero_left];exact h
 |H1 m n hm ih=>
  intro h1 h2
  rw [Nat.gcd_rec]
  refine ih ?_ h1
  have e:a^n%r=a^(n%m)%r:=by
   conv=>lhs;rw [<-Nat.div_add_mod n m,Nat.pow_add,Nat.pow_mul,Nat.mul_mod,Nat.pow_mod,h1,Nat.one_pow,Nat.mod_eq_of_lt (show 1<r by omega),Nat.one_mul,Nat.mod_mod]
  rw [<-e]
  exact h2
theorem ant {n q e a m:Nat} (hn2:2<=n) (hq:Pr q) (he:n-1=q^(e+1)*m) (h1:a^(n-1)%n=1) (h2:Nat.gcd (a^(q^e*m)%n+n-1) n=1)
 {r:Nat} (hr:Pr r) (hd:r∣n):q^(e+1)∣r-1:=by
 have hr2:=hr.1
 have ha1:a^(n-1)%r=1:=by
  have:=congrArg (· %r) h1
  simp only [Nat.mod_mod_of_dvd _ hd] at this
  rw [this,Nat.mod_eq_of_lt (by omega)]
 have hna:¬r∣a:=λh=>by
  have:r∣a^(n-1):=Nat.dvd_trans h (by
   have:=Nat.pow_dvd_pow a (show 1<=n-1 by omega)
   rwa [Nat.pow_one] at this)
  rw [Nat.mod_eq_zero_of_dvd this] at ha1
  omega
 have hg:=asO hr2 _ _ ha1 (Z6 hr hna)
 obtain ⟨h,hh⟩:=Nat.gcd_dvd_left (n-1) (r-1)
 by_cases hqh:q∣h
 ·obtain ⟨k,rfl⟩:=hqh
  have hk:q^e*m=Nat.gcd (n-1) (r-1)*k:=by
   have:q*(q^e*m)=q*(Nat.gcd (n-1) (r-1)*k):=by
    rw [<-Nat.mul_assoc,<-Nat.pow_succ',<-he,Nat.mul_left_comm q,<-hh]
   exact Nat.eq_of_mul_eq_mul_left hq.pos this
  have hone:a^(q^e*m)%r=1:=by
   rw [hk,Nat.pow_mul,Nat.pow_mod,hg,Nat.one_pow,Nat.mod_eq_of_lt (by omega)]
  have hmn:a^(q^e*m)%n%r=1:=by rw [Nat.mod_mod_of_dvd _ hd,hone]
  have hdv:r∣a^(q^e*m)%n+n-1:=by
   obtain ⟨c,rfl⟩:=hd
   have:=Nat.div_add_mod (a^(q^e*m)%(r*c)) r
   refine ⟨a^(q^e*m)%(r*c)/r+c,?_⟩
   rw [Nat.mul_add]
   omega
  have:=Nat.dvd_gcd hdv hd
  rw [h2] at this
  have:=Nat.le_of_dvd (by decide) this
  omega
 ·have hc:Nat.Coprime (q^(e+1)) h:=Nat.Coprime.pow_left _ (hq.cop hqh)
  have hdg:q^(e+1)∣Nat.gcd (n-1) (r-1)*h:=by rw [<-hh,he];exact Nat.dvd_mul_right ..
  exact Nat.dvd_trans (hc.dvd_of_dvd_mul_right hdg) (Nat.gcd_dvd_right ..)
theorem anu {n F:Nat} (h2:2<=n) (hF:n<F*F) (h:∀ r,Pr r->r∣n->F∣r-1):Pr n:=by
 apply Classical.byContradiction
 intro hp
 obtain ⟨r,hr,hd,hle⟩:=OA h2 hp
 have h1:=hr.1
 have:=Nat.le_of_dvd (by omega) (h r hr hd)
 have:F*F<=r*r:=Nat.mul_le_mul (by omega) (by omega)
 omega
def Ql {α:Type} (n:Nat) (f:Nat->α):α:=match n with
 |0=>f 0
 |k+1=>f (k+1)
theorem Qk {α:Type} (n:Nat) (f:Nat->α):Ql n f=f n:=by cases n<;>rfl
def pw (n:Nat):Nat->Nat->Nat->Nat->Nat
 |0,o,_,_=>o
 |f+1,o,x,k=>Ql k λk=>cond (Nat.beq k 0) o (Ql (x*x%n) λy=>Ql (cond (Nat.beq (k%2) 1) (o*x%n) o) λo=>pw n f o y (k/2))
theorem asM {p:Nat}:∀ (n o x k:Nat),k<2^n->o<p->pw p n o x k=o*x^k%p
 |0,o,x,k,hk,ho=>by
  have:k=0:=by omega
  subst this
  show o=_
  rw [Nat.pow_zero,Nat.mul_one,Nat.mod_eq_of_lt ho]
 |n+1,o,x,k,hk,ho=>by
  unfold pw
  simp only [Qk]
  rw [Nat.pow_succ] at hk
  cases h0:Nat.beq k 0
  ·simp only [cond_false]
   have hsq:(x*x%p)^(k/2)%p=x^(2*(k/2))%p:=by
    rw [<-Nat.pow_mod,Nat.pow_mul,Nat.pow_two]
   cases h1:Nat.beq (k%2) 1
   ·have h1':¬k%2=1:=λe=>by rw [e] at h1;cases h1
    simp only [cond_false]
    rw [asM n _ _ _ (by omega) ho,Nat.mul_mod,hsq,<-Nat.mul_mod,show 2*(k/2)=k by omega]
   ·have h1:=Nat.eq_of_beq_eq_true h1
    simp only [cond_true]
    rw [asM n _ _ _ (by omega) (Nat.mod_lt _ (by omega)),Nat.mul_mod,hsq,Nat.mod_mod,<-Nat.mul_mod,Nat.mul_assoc,<-Nat.pow_succ',show (2*(k/2)).succ=k by omega]
  ·have h0:=Nat.eq_of_beq_eq_true h0
   subst h0
   simp only [cond_true]
   rw [Nat.pow_zero,Nat.mul_one,Nat.mod_eq_of_lt ho]
def pwm (n a k:Nat):Nat:=pw n 256 1 (a%n) k
theorem Zb {n:Nat} (hn:2<=n) {a k:Nat} (hk:Nat.blt k (2^256)=true):pwm n a k=a^k%n:=by
 have hk':k<2^256:=Nat.le_of_ble_eq_true hk
 unfold pwm
 rw [asM 256 1 _ _ hk' (by omega),Nat.one_mul,<-Nat.pow_mod]
def au7 (n q e a m:Nat):Bool:=Nat.beq (n-1) (q^(e+1)*m)&&(Nat.blt n (2^256)&&(Nat.beq (pwm n a (n-1)) 1&&Nat.beq (Nat.gcd (pwm n a (q^e*m)+n-1) n) 1))
theorem eD {n q e a m:Nat} (h2:2<=n) (hq:Pr q) (h:au7 n q e a m=true) {r:Nat} (hr:Pr r) (hd:r∣n):q^(e+1)∣r-1:=by
 simp only [au7,Bool.and_eq_true] at h
 obtain ⟨h1,h3,h4,h5⟩:=h
 have h1:=Nat.eq_of_beq_eq_true h1
 have h3:n<2^256:=Nat.le_of_ble_eq_true h3
 have hm:q^e*m<=n-1:=by
  rw [h1,Nat.pow_succ,Nat.mul_right_comm]
  exact Nat.le_mul_of_pos_right _ hq.pos
 rw [Zb h2 (Nat.ble_eq_true_of_le (show n-1+1<=2^256 by omega))] at h4
 rw [Zb h2 (Nat.ble_eq_true_of_le (show q^e*m+1<=2^256 by omega))] at h5
 exact ant h2 hq h1 (Nat.eq_of_beq_eq_true h4) (Nat.eq_of_beq_eq_true h5) hr hd
def av5 (n:Nat):Nat->Nat->Bool
 |0,_=>false
 |f+1,d=>Ql d λd=>cond (Nat.blt n (d*d)) true (cond (Nat.beq (n%d) 0) false (av5 n f (d+1)))
theorem afv {n:Nat}:∀ (f d:Nat),av5 n f d=true->0<d->(∀ x,1<x->x<d->¬x∣n)->∀ x,1<x->x*x<=n->¬x∣n
 |0,d,h,_,_=>by cases h
 |f+1,d,h,hd0,hb=>by
  unfold av5 at h
  rw [Qk] at h
  cases h1:Nat.blt n (d*d)
  ·rw [h1] at h
   cases h2:Nat.beq (n%d) 0
   ·rw [h2] at h
    refine afv f (d+1) h (by omega) λx hx hxd hdv=> ?_
    by_cases hxd2:x=d
    ·subst hxd2
     rw [Nat.mod_eq_zero_of_dvd hdv] at h2
     cases h2
    ·exact hb x hx (by omega) hdv
   ·rw [h2] at h;cases h
  ·have h1:n<d*d:=Nat.le_of_ble_eq_true h1
   intro x hx hxx
   refine hb x hx ?_
   apply Classical.byContradiction
   intro hc
   have:=Nat.mul_le_mul (show d<=x by omega) (show d<=x by omega)
   omega
theorem uo {n:Nat} (f:Nat) (h2:2<=n) (h:av5 n f 2=true):Pr n:=by
 apply Classical.byContradiction
 intro hp
 obtain ⟨r,hr,hd,hle⟩:=OA h2 hp
 have:=hr.1
 exact afv f 2 h (by decide) (λx a b=>by omega) r (by omega) hle hd
end Go.Proofs.Ythgjhpbapddpnaa

set_option maxRecDepth 100000
namespace Go.Proofs.Ythgjhpbapddpnaa
theorem DK:Pr 16513537:=uo 4065 (by decide) (by decide+kernel)
theorem DJ:Pr 16521217:=uo 4066 (by decide) (by decide+kernel)
theorem ahW:Pr 772231:=uo 880 (by decide) (by decide+kernel)
theorem ahX:Pr 413527:=uo 645 (by decide) (by decide+kernel)
theorem uY:Pr 325086459374267:=anu (F:=319338368737) (by decide) (by decide+kernel) λr hr hd=>by
 have h0:772231∣r-1:=eD (n:=325086459374267) (q:=772231) (e:=0) (a:=2) (m:=420970486) (by decide) ahW (by decide+kernel) hr hd
 have h1:413527∣r-1:=eD (n:=325086459374267) (q:=413527) (e:=0) (a:=2) (m:=786131158) (by decide) ahX (by decide+kernel) hr hd
 have k1:319338368737∣r-1:=Nat.Coprime.mul_dvd_of_dvd_of_dvd (m:=772231) (n:=413527) (show Nat.gcd 772231 413527=1 by decide+kernel) h0 h1
 exact k1
theorem aci:Pr 6942563:=uo 2636 (by decide) (by decide+kernel)
theorem UH:Pr 41655379:=anu (F:=6942563) (by decide) (by decide+kernel) λr hr hd=>by
 have h0:6942563∣r-1:=eD (n:=41655379) (q:=6942563) (e:=0) (a:=2) (m:=6) (by decide) aci (by decide+kernel) hr hd
 exact h0
theorem Hy:Pr 22160661629:=anu (F:=41655379) (by decide) (by decide+kernel) λr hr hd=>by
 have h0:41655379∣r-1:=eD (n:=22160661629) (q:=41655379) (e:=0) (a:=2) (m:=532) (by decide) UH (by decide+kernel) hr hd
 exact h0
theorem dC:Pr 8999194758858563409123804352480028797519453:=anu (F:=7204131026362786056900943) (by decide) (by decide+kernel) λr hr hd=>by
 have h0:325086459374267∣r-1:=eD (n:=8999194758858563409123804352480028797519453) (q:=325086459374267) (e:=0) (a:=2) (m:=27682465692912573825889481556) (by decide) uY (by decide+kernel) hr hd
 have h1:22160661629∣r-1:=eD (n:=8999194758858563409123804352480028797519453) (q:=22160661629) (e:=0) (a:=2) (m:=406088721966766121824069856270988) (by decide) Hy (by decide+kernel) hr hd
 have k1:7204131026362786056900943∣r-1:=Nat.Coprime.mul_dvd_of_dvd_of_dvd (m:=325086459374267) (n:=22160661629) (show Nat.gcd 325086459374267 22160661629=1 by decide+kernel) h0 h1
 exact k1
theorem aR:Pr 28948022309329048855892746252171976963363056481941560715954676764349967630337:=anu (F:=8999194758858563409123804352480028797519453) (by decide) (by decide+kernel) λr hr hd=>by
 have h0:8999194758858563409123804352480028797519453∣r-1:=eD (n:=28948022309329048855892746252171976963363056481941560715954676764349967630337) (q:=8999194758858563409123804352480028797519453) (e:=0) (a:=2) (m:=3216734728497058061019394250637312) (by decide) dC (by decide+kernel) hr hd
 exact h0
theorem anq:Pr 31649:=uo 179 (by decide) (by decide+kernel)
theorem anr:Pr 12149:=uo 112 (by decide) (by decide+kernel)
theorem BG:Pr 5239247429827:=anu (F:=384503701) (by decide) (by decide+kernel) λr hr hd=>by
 have h0:31649∣r-1:=eD (n:=5239247429827) (q:=31649) (e:=0) (a:=2) (m:=165542274) (by decide) anq (by decide+kernel) hr hd
 have h1:12149∣r-1:=eD (n:=5239247429827) (q:=12149) (e:=0) (a:=2) (m:=431249274) (by decide) anr (by decide+kernel) hr hd
 have k1:384503701∣r-1:=Nat.Coprime.mul_dvd_of_dvd_of_dvd (m:=31649) (n:=12149) (show Nat.gcd 31649 12149=1 by decide+kernel) h0 h1
 exact k1
theorem acj:Pr 5701177:=uo 2389 (by decide) (by decide+kernel)
theorem Pv:Pr 399082391:=anu (F:=5701177) (by decide) (by decide+kernel) λr hr hd=>by
 have h0:5701177∣r-1:=eD (n:=399082391) (q:=5701177) (e:=0) (a:=2) (m:=70) (by decide) acj (by decide+kernel) hr hd
 exact h0
theorem fc:Pr 10427374428728808478656897599072717:=anu (F:=2090891391335963876357) (by decide) (by decide+kernel) λr hr hd=>by
 have h0:5239247429827∣r-1:=eD (n:=10427374428728808478656897599072717) (q:=5239247429827) (e:=0) (a:=2) (m:=1990242791238649418308) (by decide) BG (by decide+kernel) hr hd
 have h1:399082391∣r-1:=eD (n:=10427374428728808478656897599072717) (q:=399082391) (e:=0) (a:=2) (m:=26128375152309860944621076) (by decide) Pv (by decide+kernel) hr hd
 have k1:2090891391335963876357∣r-1:=Nat.Coprime.mul_dvd_of_dvd_of_dvd (m:=5239247429827) (n:=399082391) (show Nat.gcd 5239247429827 399082391=1 by decide+kernel) h0 h1
 exact k1
theorem awQ:Pr 2:=uo 3 (by decide) (by decide+kernel)
theorem aQ:Pr 28948022309329048855892746252171976963363056481941647379679742748393362948097:=anu (F:=44785232154536915268878889192838239440863232) (by decide) (by decide+kernel) λr hr hd=>by
 have h0:10427374428728808478656897599072717∣r-1:=eD (n:=28948022309329048855892746252171976963363056481941647379679742748393362948097) (q:=10427374428728808478656897599072717) (e:=0) (a:=2) (m:=2776156405161148062854777934377771323097088) (by decide) fc (by decide+kernel) hr hd
 have h1:4294967296∣r-1:=eD (n:=28948022309329048855892746252171976963363056481941647379679742748393362948097) (q:=2) (e:=31) (a:=5) (m:=6739986666787659948666753771754907668419893943225417141728043264801) (by decide) awQ (by decide+kernel) hr hd
 have k1:44785232154536915268878889192838239440863232∣r-1:=Nat.Coprime.mul_dvd_of_dvd_of_dvd (m:=10427374428728808478656897599072717) (n:=4294967296) (show Nat.gcd 10427374428728808478656897599072717 4294967296=1 by decide+kernel) h0 h1
 exact k1
end Go.Proofs.Ythgjhpbapddpnaa

namespace Go.Proofs.Ythgjhpbapddpnaa
set_option maxRecDepth 100000
theorem dc {p a b:Int} (c:Int) (h:p∣a) (k:p∣b):p∣c*a+b:=Int.dvd_add (Int.dvd_trans h (Int.dvd_mul_left ..)) k
end Go.Proofs.Ythgjhpbapddpnaa

namespace Go.Proofs.Ythgjhpbapddpnaa
theorem Pr.ajK {p:Nat} (h:Pr p) {a b:Int} (hd:(p:Int)∣a*b):(p:Int)∣a\/(p:Int)∣b:=by
 rw [Int.ofNat_dvd_left,Int.natAbs_mul] at hd
 rcases h.aae hd with h1|h1
 ·exact .inl (Int.ofNat_dvd_left.2 h1)
 ·exact .inr (Int.ofNat_dvd_left.2 h1)
def nm (p:Nat) (z:Int):Nat:=(z%(p:Int)).toNat
theorem aie {p:Nat} (hp:0<p) (z:Int):((nm p z:Nat):Int)=z%(p:Int):=by
 unfold nm
 have:=Int.emod_nonneg z (show (p:Int)≠0 by omega)
 omega
theorem avj {p:Nat} (hp:0<p) (z:Int):(p:Int)∣((nm p z:Nat):Int)-z:=by
 rw [aie hp]
 have:=Int.emod_add_mul_ediv z p
 exact ⟨-(z/p),by grind⟩
theorem acs {p:Nat} (hp:0<p) (z:Int):nm p z<p:=by
 have h:=aie hp z
 have:=Int.emod_lt_of_pos z (show (0:Int)<p by omega)
 omega
theorem TL {p a b:Nat} (ha:a<p) (hb:b<p) (h:(p:Int)∣(a:Int)-(b:Int)):a=b:=by
 obtain ⟨k,hk⟩:=h
 have hpk:(p:Int)*k<p*1/\(p:Int)*(-1)<p*k:=by constructor<;>omega
 have h1:=Int.lt_of_mul_lt_mul_left hpk.1 (by omega)
 have h2:=Int.lt_of_mul_lt_mul_left hpk.2 (by omega)
 have:k=0:=by omega
 subst this
 omega
def awL (p:Nat) (a:Int):Int:=((nm p a^(p-2):Nat):Int)
structure Cur (p b:Nat):Prop where
 pr:Pr p
 big:5<=p
 n2:∀ x:Int,¬(p:Int)∣x*x*x+b
theorem Cur.pos {p b:Nat} (c:Cur p b):0<p:=c.pr.pos
abbrev PtQ:Type:=Option (Nat×Nat)
structure Lin (p:Nat) (x1 y1 x2 y2 l:Int):Prop where
 a:(p:Int)∣l*(x1-x2)-(y1-y2)
 b:(p:Int)∣l*(y1+y2)-(x1*x1+x1*x2+x2*x2)
structure Thd (p:Nat) (x1 y1 x2 l x3 y3:Int):Prop where
 x:(p:Int)∣x3-(l*l-x1-x2)
 y:(p:Int)∣y3-(l*(x1-x3)-y1)
def auW (p:Nat) (P R:Nat×Nat):Int:=if P.1=R.1 then 3*P.1*P.1*awL p (P.2+P.2) else ((R.2:Int)-P.2)*awL p ((R.1:Int)-P.1)
def auG (p:Nat) (P R:Nat×Nat) (l:Int):Nat×Nat:=(nm p (l*l-P.1-R.1),nm p (l*(P.1-nm p (l*l-P.1-R.1))-P.2))
def awW (p:Nat):PtQ->PtQ->PtQ
 |none,R=>R
 |some P,none=>some P
 |some P,some R=>if P.1=R.1/\P.2≠R.2 then none else some (auG p P R (auW p P R))
variable {p b:Nat}
theorem fD (P:PtQ):awW p P none=P:=by cases P<;>rfl
end Go.Proofs.Ythgjhpbapddpnaa

namespace Go.Proofs.Ythgjhpbapddpnaa
open Sx Go
abbrev Sm (p:Nat):Prop:=0<p/\p<57896044618658097711785492504343953926634992332820282019728792003956564819968
theorem awb {p:Nat} (n:Nat):(p:Int)∣((n%p:Nat):Int)-(n:Int):=by
 have:=Nat.div_add_mod n p
 refine ⟨-((n/p:Nat):Int),?_⟩
 have h:((p*(n/p)+n%p:Nat):Int)=(n:Int):=by rw [this]
 rw [Int.natCast_add,Int.natCast_mul] at h
 rw [Int.mul_neg]
 omega
variable {p:Nat}
theorem apL (hp:Sm p) (a b:ac):(p:Int)∣((cQ p a b).nat:Int)-((a.nat:Int)*(b.nat:Int)):=by
 have e:(cQ p a b).nat=a.nat*b.nat%p:=cj hp
 rw [e]
 have:=awb (p:=p) (a.nat*b.nat)
 rwa [Int.natCast_mul] at this
theorem avY (hp:Sm p) (a b:ac):(p:Int)∣((n8 p a b).nat:Int)-((a.nat:Int)+(b.nat:Int)):=by
 have e:(n8 p a b).nat=(a.nat+b.nat)%p:=cj hp
 rw [e]
 have:=awb (p:=p) (a.nat+b.nat)
 rwa [Int.natCast_add] at this
theorem oS (hp:Sm p) (a b:ac):(cQ p a b).nat<p:=by
 rw [show (cQ p a b).nat=a.nat*b.nat%p from cj hp]
 exact Nat.mod_lt _ hp.1
theorem akX (hp:Sm p) (a b:ac):(n8 p a b).nat<p:=by
 rw [show (n8 p a b).nat=(a.nat+b.nat)%p from cj hp]
 exact Nat.mod_lt _ hp.1
theorem acq:(ac.mk 0 0 0 0).nat=0:=by decide
theorem LM {p b m:Nat} (pr:Pr p) (h3:p=3*m+1) (hb0:0<b) (hb:b<p) (hm:Nat.blt m (2^256)=true) (hk:Nat.beq (pwm p (p-b) m) 1=false) (x:Int):¬(p:Int)∣x*x*x+b:=λhd=>by
 have h2:=pr.1
 rw [Zb h2 hm] at hk
 obtain ⟨k,hk1⟩:=hd
 obtain ⟨j,hj⟩:=avj pr.pos x
 have hn:p∣nm p x*nm p x*nm p x+b:=Int.natCast_dvd_natCast.1 (by
  rw [Int.natCast_add,Int.natCast_mul,Int.natCast_mul]
  generalize ((nm p x:Nat):Int)=n at*
  exact ⟨k+j*(n*n+n*x+x*x),by grind⟩)
 generalize nm p x=n at*
 have hpn:¬p∣n:=λhd=>by
  have h1:p∣n*n*n:=Nat.dvd_trans hd (Nat.dvd_mul_left ..)
  have:=(Nat.dvd_add_right h1).1 hn
  have:=Nat.le_of_dvd hb0 this
  omega
 have hf:=Z6 pr hpn
 have e:n^3%p=(p-b)%p:=by
  obtain ⟨c,hc⟩:=hn
  have hc0:c≠0:=λe=>by rw [e] at hc;omega
  obtain ⟨d,rfl⟩:∃ d,c=d+1:=⟨c-1,by omega⟩
  have:n^3=(p-b)+p*d:=by
   rw [show n^3=n*n*n by rw [Nat.pow_succ,Nat.pow_succ,Nat.pow_one]]
   rw [Nat.mul_succ] at hc
   omega
  rw [this,Nat.add_mul_mod_self_left]
 have:(p-b)^m%p=1:=by
  rw [Nat.pow_mod,<-e,<-Nat.pow_mod,<-Nat.pow_mul,show 3*m=p-1 by omega]
  exact hf
 rw [this] at hk
 cases hk
theorem ap1 {s:Int} (h:ak s=true):Cur (pS s) (bS s).nat:=by
 rcases bD h with rfl|rfl|rfl|rfl
 ·have e:pS 0=16513537:=by decide+kernel
  have e2:(bS 0).nat=23:=by decide+kernel
  rw [e,e2]
  exact ⟨DK,by decide,LM (m:=5504512) DK (by decide) (by decide) (by decide) (by decide+kernel) (by decide+kernel)⟩
 ·have e:pS 1=16521217:=by decide+kernel
  have e2:(bS 1).nat=21:=by decide+kernel
  rw [e,e2]
  exact ⟨DJ,by decide,LM (m:=5507072) DJ (by decide) (by decide) (by decide) (by decide+kernel) (by decide+kernel)⟩
 ·have e:pS 2=28948022309329048855892746252171976963363056481941560715954676764349967630337:=by decide+kernel
  have e2:(bS 2).nat=5:=by decide+kernel
  rw [e,e2]
  exact ⟨aR,by decide,LM (m:=9649340769776349618630915417390658987787685493980520238651558921449989210112) aR (by decide) (by decide) (by decide) (by decide+kernel) (by decide+kernel)⟩
 ·have e:pS 3=28948022309329048855892746252171976963363056481941647379679742748393362948097:=by decide+kernel
  have e2:(bS 3).nat=5:=by decide+kernel
  rw [e,e2]
  exact ⟨aQ,by decide,LM (m:=9649340769776349618630915417390658987787685493980549126559914249464454316032) aQ (by decide) (by decide) (by decide) (by decide+kernel) (by decide+kernel)⟩
end Go.Proofs.Ythgjhpbapddpnaa

namespace Go.Proofs.Ythgjhpbapddpnaa
open Sx Go
theorem eQ (a n p:Nat):(a%p)^n%p=a^n%p:=(Nat.pow_mod a n p).symm
theorem awn {p a b c d:Nat} (h1:a%p=c%p) (h2:b%p=d%p):a*b%p=c*d%p:=by rw [Nat.mul_mod,h1,h2,<-Nat.mul_mod]
theorem apy {p t:Nat} (pr:Pr p) (ht:t<p) (h:t*t%p=1):t=1\/t=p-1:=by
 have h2:=pr.1
 have hd:(p:Int)∣((t:Int)-1)*((t:Int)+1):=by
  have e:=Nat.div_add_mod (t*t) p
  rw [h] at e
  refine ⟨((t*t/p:Nat):Int),?_⟩
  have e:((p*(t*t/p)+1:Nat):Int)=((t*t:Nat):Int):=congrArg (λn:Nat=>(n:Int)) e
  rw [Int.natCast_add,Int.natCast_mul,Int.natCast_mul] at e
  have e2:((t:Int)-1)*((t:Int)+1)=(t:Int)*t-1:=by grind
  rw [e2,<-e]
  omega
 rcases pr.ajK hd with h|h
 ·left
  exact TL ht (by omega) h
 ·right
  refine TL ht (by omega) ?_
  obtain ⟨k,hk⟩:=h
  have:((p-1:Nat):Int)=(p:Int)-1:=by omega
  rw [this]
  exact ⟨k-1,by rw [Int.mul_sub];omega⟩
theorem avk {p:Nat} (h2:2<=p):(p-1)*(p-1)%p=1:=by
 obtain ⟨q,rfl⟩:∃ q,p=q+2:=⟨p-2,by omega⟩
 have:(q+2-1)*(q+2-1)=1+(q+2)*q:=by
  rw [show q+2-1=q+1 by omega]
  grind
 rw [this,Nat.add_mul_mod_self_left]
 exact Nat.mod_eq_of_lt (by omega)
section
variable {p:Nat}
theorem rY (hp:Sm p) (a b:ac):(cQ p a b).nat=a.nat*b.nat%p:=cj hp
theorem iA (hp:Sm p) (h2:2<=p) (a k:ac):(fS p a k).nat=a.nat^k.nat%p:=by
 rw [ajH (by omega)]
 exact cj hp
theorem asi (hp:Sm p) {b:ac} (hb:b.nat<p):∀ n,(sqN p b n).nat=b.nat^2^n%p
 |0=>by
  show b.nat=_
  rw [Nat.pow_zero,Nat.pow_one,Nat.mod_eq_of_lt hb]
 |n+1=>by
  show (cQ p (sqN p b n) (sqN p b n)).nat=_
  rw [rY hp,asi hp hb n,<-Nat.mul_mod,<-Nat.pow_add,<-Nat.two_mul,<-Nat.pow_succ']
theorem s9 (t:ac):eqE t eE=Nat.beq t.nat 1:=by rw [VP];rfl
theorem sS {a b:Nat} (h:Nat.beq a b=false):a≠b:=λe=>by rw [e,Nat.beq_refl] at h;cases h
structure apb (p a i:Nat) (w:Ton):Prop where
 x:w.1.nat<p
 b:w.2.1.nat<p
 z:w.2.2.nat<p
 sq:w.1.nat*w.1.nat%p=a*w.2.1.nat%p
 one:w.2.1.nat^2^i%p=1
 neg:w.2.2.nat^2^i%p=p-1
theorem ack (b i:Nat):b^2^(i+1)=b^2^i*b^2^i:=by rw [<-Nat.pow_add,<-Nat.two_mul,<-Nat.pow_succ']
theorem ag0 (z i:Nat) (p:Nat):(z*z%p)^2^i%p=z^2^(i+1)%p:=by rw [eQ,<-Nat.pow_two,<-Nat.pow_mul,<-Nat.pow_succ']
theorem P7 (pr:Pr p) {b i:Nat} (h:b^2^(i+1)%p=1):b^2^i%p=1\/b^2^i%p=p-1:=by
 rw [ack,Nat.mul_mod] at h
 exact apy pr (Nat.mod_lt _ pr.pos) h
theorem afx (hp:Sm p) (pr:Pr p) {a i:Nat} {x b z u:ac} (hx:x.nat*x.nat%p=a*b.nat%p) (hb:b.nat^2^i%p=p-1) (hu:u.nat*u.nat%p=z.nat%p) (hz:z.nat^2^i%p=p-1):
 (cQ p x u).nat*(cQ p x u).nat%p=a*(cQ p b z).nat%p/\(cQ p b z).nat^2^i%p=1:=by
 constructor
 ·rw [rY hp,rY hp,<-Nat.mul_mod,Nat.mul_mod_mod,show x.nat*u.nat*(x.nat*u.nat)=x.nat*x.nat*(u.nat*u.nat) by ac_rfl,show a*(b.nat*z.nat)=a*b.nat*z.nat from (Nat.mul_assoc ..).symm]
  exact awn hx hu
 ·rw [rY hp,eQ,Nat.mul_pow,Nat.mul_mod,hb,hz]
  exact avk pr.1
theorem abE (hp:Sm p) (pr:Pr p) {a m k:Nat} {w:Ton} (hk:k<m) (h:apb p a (m-k) w):apb p a (m-(k+1)) (sw p m k w):=by
 obtain ⟨x,b,z⟩:=w
 have e:m-k=(m-(k+1))+1:=by omega
 rw [e] at h
 obtain ⟨hx,hb,hz,h1,h2,h3⟩:=h
 dsimp only at*
 have ht:=asi hp hb (m-(k+1))
 have hz2:(cQ p z z).nat^2^(m-(k+1))%p=p-1:=by rw [rY hp,ag0];exact h3
 unfold sw
 dsimp only
 rw [show m-k-1=m-(k+1) by omega,s9]
 cases hq:Nat.beq (sqN p b (m-(k+1))).nat 1
 ·simp only [cond_false]
  have hn:=sS hq
  rw [ht] at hn
  have hb1:=(P7 pr h2).resolve_left hn
  obtain ⟨g1,g2⟩:=afx hp pr (u:=z) h1 hb1 (by rw [rY hp,Nat.mod_mod]) hz2
  exact ⟨oS hp _ _,oS hp _ _,oS hp _ _,g1,g2,hz2⟩
 ·simp only [cond_true]
  have hb1:=Nat.eq_of_beq_eq_true hq
  rw [ht] at hb1
  exact ⟨hx,hb,oS hp _ _,h1,hb1,hz2⟩
theorem aqO (hp:Sm p) (pr:Pr p) {a m:Nat} {w:Ton} (h:apb p a m w):(alA p m w).1.nat<p/\(alA p m w).1.nat*(alA p m w).1.nat%p=a%p:=by
 have key:∀ n,n<=m->apb p a (m-n) (upto (sw p m) w n):=by
  intro n
  induction n with
  |zero=>intro _;exact h
  |succ n ih=>intro hn;exact abE hp pr (by omega) (ih (by omega))
 have hk:=key m (Nat.le_refl _)
 rw [Nat.sub_self] at hk
 obtain ⟨hx,hb,hz,h1,h2,h3⟩:=hk
 refine ⟨hx,?_⟩
 rw [Nat.pow_zero,Nat.pow_one,Nat.mod_eq_of_lt hb] at h2
 rw [h2,Nat.mul_one] at h1
 exact h1
end
def B5 (s:Int):ac:=dh (fo (aL s.toNat).1 eE).1 (aL s.toNat).2.1.toNat
def adS (s:Int):Nat:=(aL s.toNat).2.1.toNat
structure aaQ (s:Int):Prop where
 od:(B5 s).nat*2^adS s=pS s-1
 up:2*(cT (mD (B5 s) eE).1).nat=(B5 s).nat+1
 hf:(cT (fo (aL s.toNat).1 eE).1).nat=(pS s-1)/2
 ad:1<=adS s
 ai:(aL s.toNat).2.1=(adS s:Int)
 nr:pwm (pS s) 5 ((pS s-1)/2)=pS s-1
 pr:Pr (pS s)
 sm:Sm (pS s)
 o2:pS s%2=1
theorem C6 {s:Int} (hs:ak s=true):aaQ s:=by
 have pr:=(ap1 hs).pr
 have sm:Sm (pS s):=iT hs
 rcases bD hs with rfl|rfl|rfl|rfl<;>
  exact ⟨by decide+kernel,by decide+kernel,by decide+kernel,by decide+kernel,by decide+kernel,by decide+kernel,pr,sm,by decide+kernel⟩
section
variable {s:Int} (k:aaQ s)
include k
theorem ahY (a:Nat):(a^(B5 s).nat)^2^(adS s-1)=a^((pS s-1)/2):=by
 rw [<-Nat.pow_mul]
 congr 1
 have h:=k.od
 have ha:=k.ad
 obtain ⟨n,hn⟩:∃ n,adS s=n+1:=⟨adS s-1,by omega⟩
 rw [hn] at h⊢
 rw [Nat.pow_succ,<-Nat.mul_assoc] at h
 rw [show n+1-1=n by omega]
 omega
theorem Z0:(5^(B5 s).nat)^2^(adS s-1)%pS s=pS s-1:=by
 rw [ahY k]
 have h:=k.nr
 have hp:=k.sm
 rw [Zb k.pr.1 (Nat.ble_eq_true_of_le (by have:=hp.2;omega))] at h
 exact h
omit k in
theorem Z1:(ac.mk 5 0 0 0).nat=5:=by decide
theorem ag6 {a:ac} (he:a.nat^((pS s-1)/2)%pS s=1):(uJ s a).nat<pS s/\(uJ s a).nat*(uJ s a).nat%pS s=a.nat%pS s:=by
 have hp:=k.sm
 have pr:=k.pr
 have e:uJ s a=(alA (pS s) (adS s-1) (fS (pS s) a (cT (mD (B5 s) eE).1),fS (pS s) a (B5 s),fS (pS s) ⟨5,0,0,0⟩ (B5 s))).1:=by
  show (alA (pS s) ((aL s.toNat).2.1-1).toNat _).1=_
  rw [k.ai,show ((adS s:Int)-1).toNat=adS s-1 by omega]
  rfl
 rw [e]
 refine aqO hp pr (a:=a.nat) ⟨?_,?_,?_,?_,?_,?_⟩
 ·rw [iA hp pr.1];exact Nat.mod_lt _ pr.pos
 ·rw [iA hp pr.1];exact Nat.mod_lt _ pr.pos
 ·rw [iA hp pr.1];exact Nat.mod_lt _ pr.pos
 ·show (fS (pS s) a (cT (mD (B5 s) eE).1)).nat*(fS (pS s) a (cT (mD (B5 s) eE).1)).nat%pS s=a.nat*(fS (pS s) a (B5 s)).nat%pS s
  rw [iA hp pr.1,iA hp pr.1,<-Nat.mul_mod,Nat.mul_mod_mod,<-Nat.pow_add,<-Nat.two_mul,k.up,Nat.pow_succ,Nat.mul_comm]
 ·show (fS (pS s) a (B5 s)).nat^_%pS s=1
  rw [iA hp pr.1,eQ,ahY k]
  exact he
 ·show (fS (pS s) ⟨5,0,0,0⟩ (B5 s)).nat^_%pS s=pS s-1
  rw [iA hp pr.1,eQ,Z1]
  exact Z0 k
end
theorem VM {p:Nat} (hp:Sm p) (ho:p%2=1) {x:ac} (hx:x.nat<p):(lg p x).nat<p/\(lg p x).nat%2=0/\(lg p x).nat*(lg p x).nat%p=x.nat*x.nat%p:=by
 have hb:(x.w0%2==1)=Nat.beq (x.nat%2) 1:=by
  have e:x.nat%2=x.w0.toNat%2:=by unfold Sx.ac.nat;omega
  rw [e]
  have h2:(x.w0%2).toNat=x.w0.toNat%2:=by rw [UInt64.toNat_mod];rfl
  rw [<-h2]
  by_cases h:x.w0%2=1
  ·rw [h];rfl
  ·have hn:¬(x.w0%2).toNat=1:=λe=>h (UInt64.toNat_inj.1 e)
   have:Nat.beq (x.w0%2).toNat 1=false:=by
    cases hb:Nat.beq (x.w0%2).toNat 1
    ·rfl
    ·exact absurd (Nat.eq_of_beq_eq_true hb) hn
   rw [this]
   simpa using h
 unfold lg
 rw [hb]
 cases hq:Nat.beq (x.nat%2) 1
 ·simp only [cond_false]
  have:=sS hq
  exact ⟨hx,by omega,trivial⟩
 ·simp only [cond_true]
  have h1:=Nat.eq_of_beq_eq_true hq
  have e:(HA p x).nat=p-x.nat:=by
   rw [show (HA p x).nat=(p-x.nat%p)%p from cj hp,Nat.mod_eq_of_lt hx,Nat.mod_eq_of_lt (by omega)]
  rw [e]
  refine ⟨by omega,by omega,?_⟩
  obtain ⟨d,hd⟩:∃ d,p=x.nat+d:=⟨p-x.nat,by omega⟩
  have e2:p-x.nat=d:=by omega
  rw [e2]
  have e3:d*d+p*x.nat=x.nat*x.nat+p*d:=by rw [hd];grind
  have:=congrArg (· %p) e3
  simp only [Nat.add_mul_mod_self_left] at this
  exact this
theorem E6 {p:Nat} (pr:Pr p) (ho:p%2=1) {x y:Nat} (hx:x<p) (hy:y<p) (ex:x%2=0) (ey:y%2=0) (h:x*x%p=y*y%p):x=y:=by
 have hd:(p:Int)∣((x:Int)-y)*((x:Int)+y):=by
  obtain ⟨a,ha⟩:=awb (p:=p) (x*x)
  obtain ⟨b,hb⟩:=awb (p:=p) (y*y)
  rw [h] at ha
  rw [Int.natCast_mul] at ha hb
  generalize (((y*y%p):Nat):Int)=r at*
  exact ⟨b-a,by grind⟩
 rcases pr.ajK hd with h|h
 ·exact TL hx hy h
 ·have h:(p:Int)∣((x+y:Nat):Int):=by rw [Int.natCast_add];exact h
  have h:=Int.natCast_dvd_natCast.1 h
  obtain ⟨c,hc⟩:=h
  have hc2:c<2:=by
   apply Classical.byContradiction
   intro h2
   have:=Nat.mul_le_mul_left p (show 2<=c by omega)
   omega
  rcases (show c=0\/c=1 by omega) with rfl|rfl<;>omega
end Go.Proofs.Ythgjhpbapddpnaa

namespace Go.Proofs.Ythgjhpbapddpnaa
open Sx Go
def kF (p:Nat):Nat->ac->Nat->Nat
 |0,_,k=>k
 |n+1,s,k=>cond (eqE s eE) k (kF p n (cQ p s s) (k+1))
def tsB (p m k:Nat) (w:Ton):ac:=sqN p w.2.2 (m-k-1)
def tsW (p m k:Nat) (w:Ton):Ton:=(cQ p w.1 (tsB p m k w),cQ p w.2.1 (cQ p (tsB p m k w) (tsB p m k w)),cQ p (tsB p m k w) (tsB p m k w))
def tsF (p:Nat):Nat->Nat->Ton->Option ac
 |0,_,_=>none
 |f+1,m,w=>cond (eqE w.2.1 eE) (some w.1) (cond (Nat.beq (kF p m w.2.1 0) m) none (tsF p f (kF p m w.2.1 0) (tsW p m (kF p m w.2.1 0) w)))
section
variable {p:Nat}
theorem U0 (hp:Sm p):∀ (n:Nat) (s:ac) (k:Nat),s.nat<p->k<=kF p n s k/\kF p n s k<=k+n/\(kF p n s k<k+n->s.nat^2^(kF p n s k-k)%p=1)/\∀ j,k<=j->j<kF p n s k->s.nat^2^(j-k)%p≠1
 |0,s,k,_=>⟨Nat.le_refl _,Nat.le_refl _,λh=>absurd h (Nat.lt_irrefl _),λj h1 h2=>absurd h2 (by show ¬j<k;omega)⟩
 |n+1,s,k,hs=>by
  unfold kF
  rw [s9]
  cases hq:Nat.beq s.nat 1
  ·simp only [cond_false]
   obtain ⟨h1,h2,h3,h4⟩:=U0 hp n (cQ p s s) (k+1) (oS hp _ _)
   have e:∀ j,(cQ p s s).nat^2^j%p=s.nat^2^(j+1)%p:=λj=>by rw [rY hp,ag0]
   refine ⟨by omega,by omega,λh=> ?_,λj hj1 hj2=> ?_⟩
   ·have:=h3 (by omega)
    rw [e] at this
    rw [show kF p n (cQ p s s) (k+1)-k=kF p n (cQ p s s) (k+1)-(k+1)+1 by omega]
    exact this
   ·by_cases hj:j=k
    ·subst hj
     rw [Nat.sub_self,Nat.pow_zero,Nat.pow_one,Nat.mod_eq_of_lt hs]
     exact sS hq
    ·have:=h4 j (by omega) hj2
     rw [e] at this
     rw [show j-k=j-(k+1)+1 by omega]
     exact this
  ·simp only [cond_true]
   have h1:=Nat.eq_of_beq_eq_true hq
   refine ⟨Nat.le_refl _,by omega,λ_=> ?_,λj hj1 hj2=>by omega⟩
   rw [Nat.sub_self,Nat.pow_zero,Nat.pow_one,Nat.mod_eq_of_lt hs]
   exact h1
structure avZ (p a m:Nat) (w:Ton):Prop where
 x:w.1.nat<p
 t:w.2.1.nat<p
 z:w.2.2.nat<p
 sq:w.1.nat*w.1.nat%p=a*w.2.1.nat%p
 m1:1<=m
 neg:w.2.2.nat^2^(m-1)%p=p-1
theorem aqI (hp:Sm p) (pr:Pr p) {a m k:Nat} {w:Ton} (h:avZ p a m w) (hk0:1<=k) (hk:k<m) (h1:w.2.1.nat^2^k%p=1) (h2:w.2.1.nat^2^(k-1)%p≠1):
 avZ p a k (tsW p m k w)/\(tsW p m k w).2.1.nat^2^(k-1)%p=1:=by
 have hb:=asi hp h.z (m-k-1)
 have hz':(cQ p (tsB p m k w) (tsB p m k w)).nat^2^(k-1)%p=p-1:=by
  rw [rY hp,ag0]
  show (sqN p w.2.2 (m-k-1)).nat^_%p=_
  rw [hb,eQ,<-Nat.pow_mul,<-Nat.pow_add,show m-k-1+(k-1+1)=m-1 by omega]
  exact h.neg
 have ht:w.2.1.nat^2^(k-1)%p=p-1:=by
  have e:k=(k-1)+1:=by omega
  rw [e] at h1
  exact (P7 pr h1).resolve_left h2
 obtain ⟨g1,g2⟩:=afx hp pr (u:=tsB p m k w) (z:=cQ p (tsB p m k w) (tsB p m k w)) h.sq ht (by rw [rY hp,Nat.mod_mod]) hz'
 exact ⟨⟨oS hp _ _,oS hp _ _,oS hp _ _,g1,hk0,hz'⟩,g2⟩
theorem afu (hp:Sm p) (pr:Pr p) {a:Nat}:∀ (f m:Nat) (w:Ton),m<f->avZ p a m w->w.2.1.nat^2^(m-1)%p=1->∃ x,tsF p f m w=some x/\x.nat<p/\x.nat*x.nat%p=a%p
 |0,m,w,h,_,_=>absurd h (Nat.not_lt_zero _)
 |f+1,m,w,hf,h,hr=>by
  unfold tsF
  rw [s9]
  cases hq:Nat.beq w.2.1.nat 1
  ·simp only [cond_false]
   obtain ⟨k1,k2,k3,k4⟩:=U0 hp m w.2.1 0 h.t
   have m1:=h.m1
   have hk:kF p m w.2.1 0<m:=by
    apply Classical.byContradiction
    intro hn
    exact k4 (m-1) (by omega) (by omega) hr
   have hk0:1<=kF p m w.2.1 0:=by
    apply Classical.byContradiction
    intro hn
    have e:kF p m w.2.1 0=0:=by omega
    have:=k3 (by omega)
    rw [e,Nat.sub_self,Nat.pow_zero,Nat.pow_one,Nat.mod_eq_of_lt h.t] at this
    exact sS hq this
   have e1:=k3 (by omega)
   have e2:=k4 (kF p m w.2.1 0-1) (by omega) (by omega)
   rw [Nat.sub_zero] at e1 e2
   have hb:Nat.beq (kF p m w.2.1 0) m=false:=by
    cases hb:Nat.beq (kF p m w.2.1 0) m
    ·rfl
    ·have:=Nat.eq_of_beq_eq_true hb;omega
   rw [hb]
   obtain ⟨g1,g2⟩:=aqI hp pr h hk0 hk e1 e2
   exact afu hp pr f _ _ (by omega) g1 g2
  ·simp only [cond_true]
   have h1:=Nat.eq_of_beq_eq_true hq
   have:=h.sq
   rw [h1,Nat.mul_one] at this
   exact ⟨w.1,rfl,h.x,this⟩
theorem aqK (hp:Sm p) (pr:Pr p) (h3:3<=p) {a f m:Nat} {w:Ton} (h:avZ p a m w) (hr:w.2.1.nat^2^(m-1)%p=p-1):tsF p f m w=none:=by
 cases f with
 |zero=>rfl
 |succ f=>
  unfold tsF
  rw [s9]
  have m1:=h.m1
  have up:∀ j,j<=m-1->w.2.1.nat^2^j%p≠1:=λj hj e=>by
   have:w.2.1.nat^2^(m-1)%p=1:=by
    rw [show m-1=j+(m-1-j) by omega,Nat.pow_add,Nat.pow_mul,Nat.pow_mod,e,Nat.one_pow,Nat.mod_eq_of_lt (by omega)]
   omega
  have hq:Nat.beq w.2.1.nat 1=false:=by
   cases hq:Nat.beq w.2.1.nat 1
   ·rfl
   ·have:=up 0 (by omega)
    rw [Nat.pow_zero,Nat.pow_one,Nat.mod_eq_of_lt h.t] at this
    exact absurd (Nat.eq_of_beq_eq_true hq) this
  rw [hq]
  obtain ⟨k1,k2,k3,k4⟩:=U0 hp m w.2.1 0 h.t
  have e:kF p m w.2.1 0=m:=by
   apply Classical.byContradiction
   intro hn
   have:=k3 (by omega)
   rw [Nat.sub_zero] at this
   exact up _ (by omega) this
  rw [e,Nat.beq_refl]
  rfl
end
section
variable {s:Int} (k:aaQ s)
include k
def eu (s:Int) (a:ac):Ton:=(fS (pS s) a (cT (mD (B5 s) eE).1),fS (pS s) a (B5 s),fS (pS s) ⟨5,0,0,0⟩ (B5 s))
theorem abB (a:ac):avZ (pS s) a.nat (adS s) (eu s a):=by
 have hp:=k.sm
 have pr:=k.pr
 refine ⟨?_,?_,?_,?_,k.ad,?_⟩
 ·show (fS (pS s) a _).nat<_
  rw [iA hp pr.1];exact Nat.mod_lt _ pr.pos
 ·show (fS (pS s) a _).nat<_
  rw [iA hp pr.1];exact Nat.mod_lt _ pr.pos
 ·show (fS (pS s) _ _).nat<_
  rw [iA hp pr.1];exact Nat.mod_lt _ pr.pos
 ·show (fS (pS s) a (cT (mD (B5 s) eE).1)).nat*(fS (pS s) a (cT (mD (B5 s) eE).1)).nat%pS s=a.nat*(fS (pS s) a (B5 s)).nat%pS s
  rw [iA hp pr.1,iA hp pr.1,<-Nat.mul_mod,Nat.mul_mod_mod,<-Nat.pow_add,<-Nat.two_mul,k.up,Nat.pow_succ,Nat.mul_comm]
 ·show (fS (pS s) ⟨5,0,0,0⟩ (B5 s)).nat^_%pS s=pS s-1
  rw [iA hp pr.1,eQ,Z1]
  exact Z0 k
theorem Tf (a:ac):(eu s a).2.1.nat^2^(adS s-1)%pS s=a.nat^((pS s-1)/2)%pS s:=by
 show (fS (pS s) a (B5 s)).nat^_%pS s=_
 rw [iA k.sm k.pr.1,eQ,ahY k]
theorem ajJ {a:Nat} (ha:¬pS s∣a):a^((pS s-1)/2)%pS s=1\/a^((pS s-1)/2)%pS s=pS s-1:=by
 have hf:=Z6 k.pr ha
 have ho:=k.o2
 have h2:=k.pr.1
 have e:pS s-1=(pS s-1)/2+(pS s-1)/2:=by omega
 rw [e,Nat.pow_add,Nat.mul_mod] at hf
 exact apy k.pr (Nat.mod_lt _ k.pr.pos) hf
theorem aqJ {a:ac} (ha:a.nat<pS s) (hz:dw a=false):(tsF (pS s) (adS s+1) (adS s) (eu s a)).map (lg (pS s))=
 cond (eqE (fS (pS s) a (cT (fo (aL s.toNat).1 eE).1)) eE) (some (lg (pS s) (uJ s a))) none:=by
 have hp:=k.sm
 have pr:=k.pr
 have h2:=pr.1
 have ho:=k.o2
 have h0:=abB k a
 have hpw:=Tf k a
 rw [s9,iA hp h2,k.hf]
 have hn:¬pS s∣a.nat:=λhd=>by
  have:=Nat.eq_zero_of_dvd_of_lt hd ha
  rw [jl,this] at hz
  cases hz
 rcases ajJ k hn with h|h
 ·rw [h]
  obtain ⟨x,e1,e2,e3⟩:=afu hp pr (adS s+1) (adS s) _ (by omega) h0 (by rw [hpw];exact h)
  rw [e1]
  obtain ⟨r1,r2⟩:=ag6 k h
  obtain ⟨v1,v2,v3⟩:=VM hp ho e2
  obtain ⟨w1,w2,w3⟩:=VM hp ho r1
  show some _=some _
  rw [jZ (E6 pr ho v1 w1 v2 w2 (by rw [v3,w3,e3,r2]))]
 ·have h3:3<=pS s:=by omega
  rw [aqK hp pr h3 h0 (by rw [hpw];exact h),h]
  have:Nat.beq (pS s-1) 1=false:=by
   cases hb:Nat.beq (pS s-1) 1
   ·rfl
   ·have:=Nat.eq_of_beq_eq_true hb;omega
  rw [this]
  rfl
end
end Go.Proofs.Ythgjhpbapddpnaa

namespace Go.Proofs.Ythgjhpbapddpnaa
open Sx Go
theorem zero_eq {e:ac} (h:dw e=true):e=⟨0,0,0,0⟩:=jZ (by rw [jl] at h;rw [Nat.eq_of_beq_eq_true h];exact acq.symm)
def sqA (s:Int) (x:ac):ac:=ofP (pS s) (tc (pS s) x (bS s))
def sqB (s:Int) (x:ac):Bool:=eqE (fS (pS s) (sqA s x) (cT (fo (aL s.toNat).1 eE).1)) eE
def sqY (s:Int) (x:ac):ac:=lg (pS s) (uJ s (sqA s x))
def ptD (s:Int) (x:ac) (odd:Bool):Pt:=(x,cond odd (HA (pS s) (sqY s x)) (sqY s x),false)
theorem auV {s:Int} (hs:ak s=true) (x:ac):(sqA s x).nat<pS s/\((pS s:Nat):Int)∣((sqA s x).nat:Int)-((x.nat:Int)*x.nat*x.nat+(bS s).nat):=by
 have hp:Sm (pS s):=iT hs
 have e:(sqA s x).nat=(tc (pS s) x (bS s)).nat%pS s:=cj hp
 have hlt:(tc (pS s) x (bS s)).nat<pS s:=akX hp _ _
 rw [e,Nat.mod_eq_of_lt hlt]
 refine ⟨hlt,?_⟩
 have c2:=apL hp x x
 have c3:=apL hp (cQ (pS s) x x) x
 have c4:=avY hp (cQ (pS s) (cQ (pS s) x x) x) (bS s)
 unfold tc
 generalize cQ (pS s) (cQ (pS s) x x) x=xxx at*
 generalize cQ (pS s) x x=xx at*
 generalize n8 (pS s) xxx (bS s)=z at*
 have:(z.nat:Int)-((x.nat:Int)*x.nat*x.nat+(bS s).nat)=((z.nat:Int)-(xxx.nat+(bS s).nat))+(((xxx.nat:Int)-xx.nat*x.nat)+(((xx.nat:Int)-x.nat*x.nat)*x.nat)):=by grind
 rw [this]
 exact Int.dvd_add c4 (Int.dvd_add c3 (Int.dvd_trans c2 (Int.dvd_mul_right ..)))
theorem ag1 {s:Int} (hs:ak s=true) (x:ac):dw (sqA s x)=false:=by
 have h:=(auV hs x).2
 cases hz:dw (sqA s x)
 ·rfl
 ·exfalso
  rw [jl] at hz
  rw [Nat.eq_of_beq_eq_true hz] at h
  obtain ⟨k,hk⟩:=h
  exact (ap1 hs).n2 (x.nat:Int) ⟨-k,by rw [Int.mul_neg,<-hk];simp⟩
theorem YI {s:Int} (hs:ak s=true):sqB s ⟨0,0,0,0⟩=false:=by
 rcases bD hs with rfl|rfl|rfl|rfl<;>decide+kernel
theorem auT {s:Int} (hs:ak s=true) {x:ac} (h:sqB s x=true):(sqY s x).nat<pS s/\(sqY s x).nat%2=0/\(sqY s x).nat*(sqY s x).nat%pS s=(sqA s x).nat%pS s:=by
 have k:=C6 hs
 unfold sqB at h
 rw [s9,iA k.sm k.pr.1,k.hf] at h
 obtain ⟨r1,r2⟩:=ag6 k (Nat.eq_of_beq_eq_true h)
 obtain ⟨e1,e2,e3⟩:=VM k.sm k.o2 r1
 exact ⟨e1,e2,e3.trans r2⟩
section
variable {s:Int} (hs:ak s=true)
include hs
theorem apJ {X Y:ac}:onB s (X,Y,false)=true ↔ X.nat<pS s/\Y.nat<pS s/\Y.nat*Y.nat%pS s=(sqA s X).nat:=by
 have hp:Sm (pS s):=iT hs
 have e1:(sqA s X).nat=(tc (pS s) X (bS s)).nat:=by
  show (ofN _).nat=_
  rw [cj hp]
  exact Nat.mod_eq_of_lt (akX hp _ _)
 rw [e1,<-rY hp]
 unfold onB
 rw [hs]
 simp only [cond_true,cond_false]
 rw [VP]
 generalize (tc (pS s) X (bS s)).nat=A
 generalize (cQ (pS s) Y Y).nat=M
 have b1:Nat.blt X.nat (pS s)=true ↔ X.nat<pS s:=⟨λh=>Nat.le_of_ble_eq_true h,λh=>Nat.ble_eq_true_of_le h⟩
 have b2:Nat.blt Y.nat (pS s)=true ↔ Y.nat<pS s:=⟨λh=>Nat.le_of_ble_eq_true h,λh=>Nat.ble_eq_true_of_le h⟩
 rw [<-b1,<-b2]
 generalize Nat.blt X.nat (pS s)=x
 generalize Nat.blt Y.nat (pS s)=y
 have b3:Nat.beq M A=true ↔ M=A:=⟨Nat.eq_of_beq_eq_true,λe=>by rw [e,Nat.beq_refl]⟩
 rw [<-b3]
 generalize Nat.beq M A=z
 cases x<;>cases y<;>cases z<;>simp
theorem avl {y:ac} (hy:y.nat<pS s) (h0:y.nat≠0):(HA (pS s) y).nat=pS s-y.nat:=by
 have hp:Sm (pS s):=iT hs
 rw [show (HA (pS s) y).nat=(pS s-y.nat%pS s)%pS s from cj hp,Nat.mod_eq_of_lt hy,Nat.mod_eq_of_lt (by omega)]
omit hs in
theorem acu {p y:Nat} (hy:y<p):(p-y)*(p-y)%p=y*y%p:=by
 obtain ⟨d,hd⟩:∃ d,p=y+d:=⟨p-y,by omega⟩
 have e2:p-y=d:=by omega
 rw [e2]
 have e3:d*d+p*y=y*y+p*d:=by rw [hd];grind
 have:=congrArg (· %p) e3
 simp only [Nat.add_mul_mod_self_left] at this
 exact this
theorem amN (x:ac):(sqA s x).nat≠0:=λh=>by
 have:=ag1 hs x
 rw [jl,h] at this
 cases this
end
end Go.Proofs.Ythgjhpbapddpnaa
