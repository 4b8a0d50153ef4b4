/- A symbolic machine for Go code over plain data, and functions of the program as it shows them. No statement is proved in this file. -/
import Derived.KernelRfl
import Derived.Test.YtohjofabochgfaaGreatXc
set_option linter.unusedSimpArgs false
set_option linter.unusedVariables false
set_option linter.unusedSectionVars false

namespace Go.Proofs.YtohjofabochgfaaGreat
open Sx Go
theorem aIb {n:Nat} (h:n/18446744073709551616/18446744073709551616/18446744073709551616/18446744073709551616/18446744073709551616<18446744073709551616):v6 (l6 n)=n:=by
 unfold v6 l6
 simp only [List.getD_cons_zero,List.getD_cons_succ,UInt64.toNat_ofNat']
 rw [show (2:Nat)^64=18446744073709551616 from rfl]
 omega
def JM (p neg a:Nat) (b t:Nat):Nat:=(t+a*b+p*((t+a*b)*neg%18446744073709551616))/18446744073709551616
theorem vD {p neg a b t:Nat} (hn:(p*neg+1)%18446744073709551616=0):18446744073709551616*JM p neg a b t=t+a*b+p*((t+a*b)*neg%18446744073709551616):=by
 unfold JM
 refine Nat.mul_div_cancel' (Nat.dvd_of_mod_eq_zero ?_)
 generalize t+a*b=u
 rw [Nat.add_mod,Nat.mul_mod,Nat.mod_mod,<-Nat.mul_mod,<-Nat.add_mod]
 have:u+p*(u*neg)=u*(p*neg+1):=by
  rw [Nat.mul_add,Nat.mul_one,Nat.mul_left_comm]
  omega
 rw [this,Nat.mul_mod,hn,Nat.mul_zero,Nat.zero_mod]
theorem vC {p neg a b t:Nat} (hn:(p*neg+1)%18446744073709551616=0) (ht:t<2*p) (ha:a<p) (hb:b<18446744073709551616):JM p neg a b t<2*p:=by
 have h:=vD (a:=a) (b:=b) (t:=t) hn
 have hm:(t+a*b)*neg%18446744073709551616<=18446744073709551615:=by
  have:=Nat.mod_lt ((t+a*b)*neg) (show 0<18446744073709551616 by omega)
  omega
 have h1:p*((t+a*b)*neg%18446744073709551616)<=p*18446744073709551615:=Nat.mul_le_mul_left _ hm
 have h2:a*b<=p*18446744073709551615:=Nat.mul_le_mul (by omega) (by omega)
 omega
theorem aFw {p a b t t1 m K T B M W:Nat} (h1:W*t1=t+a*b+p*m) (h2:K*T=t1+a*B+p*M):(W*K)*T=t+a*(b+W*B)+p*(m+W*M):=by
 have e:(W*K)*T=W*t1+W*(a*B)+W*(p*M):=by rw [Nat.mul_assoc,h2,Nat.mul_add,Nat.mul_add]
 rw [e,h1,Nat.mul_add,Nat.mul_add,Nat.mul_left_comm a W,Nat.mul_left_comm p W]
 omega
theorem aKT {p a b T K M r:Nat} (h:K*T=a*b+p*M) (hr:K*r%p=1%p):T%p=a*b*r%p:=by
 have h1:(K*T)*r=a*b*r+p*(M*r):=by rw [h,Nat.add_mul,Nat.mul_assoc p]
 have h2:a*b*r%p=(K*T*r)%p:=by rw [h1,Nat.add_mul_mod_self_left]
 have h3:K*T*r=T*(K*r):=by rw [Nat.mul_comm K T,Nat.mul_assoc]
 rw [h2,h3,Nat.mul_mod,hr,<-Nat.mul_mod,Nat.mul_one]
def aIZ (p neg a:Nat) (b:aa):Nat:=JM p neg a b.w3.toNat (JM p neg a b.w2.toNat (JM p neg a b.w1.toNat (JM p neg a b.w0.toNat 0)))
theorem aA2 {p neg a r:Nat} {b:aa} (hn:(p*neg+1)%18446744073709551616=0) (hr:115792089237316195423570985008687907853269984665640564039457584007913129639936*r%p=1%p):aIZ p neg a b%p=a*b.nat*r%p:=by
 have h:=aFw (vD (a:=a) (b:=b.w0.toNat) (t:=0) hn) (aFw (vD (a:=a) (b:=b.w1.toNat) hn) (aFw (vD (a:=a) (b:=b.w2.toNat) hn) (show 18446744073709551616*_=_+a*b.w3.toNat+p*_ from vD hn)))
 rw [Nat.zero_add] at h
 exact aKT (K:=18446744073709551616*(18446744073709551616*(18446744073709551616*18446744073709551616))) h hr
theorem aGo {p neg a:Nat} {b:aa} (hn:(p*neg+1)%18446744073709551616=0) (ha:a<p):aIZ p neg a b<2*p:=
 vC hn (vC hn (vC hn (vC hn (by omega) ha b.w0.toNat_lt) ha b.w1.toNat_lt) ha b.w2.toNat_lt) ha b.w3.toNat_lt
theorem aGp {T p:Nat} (h:T<2*p):T%p=if T<p then T else T-p:=by
 split
 ·exact Nat.mod_eq_of_lt ‹_›
 ·rw [Nat.mod_eq_sub_mod (by omega),Nat.mod_eq_of_lt (by omega)]
end Go.Proofs.YtohjofabochgfaaGreat

namespace Go.Proofs.YtohjofabochgfaaGreat
open Sx Go
set_option maxRecDepth 100000
def kC:aw:=⟨[.val true (.prod .elem (.prod .int (.prod .u64 (.prod .u64 .elem)))),.val true .elem,.val true .elem],[],true,0,false⟩
abbrev Ry:Type:=(((aa×(Int×(UInt64×(UInt64×aa)))))×(aa)×(aa)×Unit)×(Unit)
def Cm:Shape:=⟨61,[(3,.ptr 0 0 0),(4,.ptr 1 0 0),(6,.ptr 2 0 0),(7,.ptr 3 0 0),(13,.val true .elem),(14,.val false .int)],[(0,.cells [.val false .u64,.val false .u64,.val false .u64,.val false .u64,.val false .int,.val false .u64,.val false .u64,.val false .u64,.val false .u64,.val false .u64,.val false .u64]),(1,.row .u64),(2,.row .u64),(3,.row .u64)],0,true⟩
abbrev cQ:Type:=((Unit)×(Unit)×(Unit)×(Unit)×(aa)×(Int)×Unit)×(((UInt64)×(UInt64)×(UInt64)×(UInt64)×(Int)×(UInt64)×(UInt64)×(UInt64)×(UInt64)×(UInt64)×(UInt64)×Unit)×(List (UInt64))×(List (UInt64))×(List (UInt64))×Unit)
def wQ:Shape:=⟨61,[(3,.ptr 0 0 0),(6,.ptr 1 0 0),(7,.ptr 2 0 0)],[(0,.cells [.val false .u64,.val false .u64,.val false .u64,.val false .u64,.val false .int,.val false .u64,.val false .u64,.val false .u64,.val false .u64,.val false .u64,.val false .u64]),(1,.row .u64),(2,.row .u64)],0,true⟩
abbrev mz:Type:=((Unit)×(Unit)×(Unit)×Unit)×(((UInt64)×(UInt64)×(UInt64)×(UInt64)×(Int)×(UInt64)×(UInt64)×(UInt64)×(UInt64)×(UInt64)×(UInt64)×Unit)×(List (UInt64))×(List (UInt64))×Unit)
def akr:SE->Option Shape:=fc [(0,wQ)] none
def Vd (a13:aa) (a14:Int) (c0_0:UInt64) (c0_1:UInt64) (c0_2:UInt64) (c0_3:UInt64) (c0_4:Int) (c0_5:UInt64) (c0_6:UInt64) (c0_7:UInt64) (c0_8:UInt64) (c0_9:UInt64) (c0_10:UInt64) (c1:List (UInt64)) (c2:List (UInt64)) (c3:List (UInt64)):OT (Sum cQ aE):=
 let z0:Nat:=List.length c3
 let z1:List UInt64:=lay c3 (l6 (v6 (tab c3 6 (0:UInt64))+aa.nat {w0:=List.getD c1 0 0,w1:=List.getD c1 1 0,w2:=List.getD c1 2 0,w3:=List.getD c1 3 0}*UInt64.toNat (List.getD [a13.w0,a13.w1,a13.w2,a13.w3] (Int.toNat a14) (0:UInt64)))) 6 (0:UInt64)
 let z2:Nat:=List.length z1
 let z3:List UInt64:=lay z1 (l6 (v6 (tab z1 6 (0:UInt64))+aa.nat {w0:=c0_0,w1:=c0_1,w2:=c0_2,w3:=c0_3}*UInt64.toNat (List.getD z1 0 0*c0_6))) 6 (0:UInt64)
 let z4:Nat:=List.length z3
 (.br (decide (a14<(4:Int)))
 (gd [inB a14 4,decide (6<=z0),decide (4<=List.length c1),decide ((6/1:Nat)+0<=z0),decide (6<=z2),decide (0<z2),decide ((6/1:Nat)+0<=z2),decide (1<z4),decide (2<z4),decide (3<z4),decide (4<z4),decide (5<z4),decide ((6/1:Nat)+0<=z4),inR (a14+(1:Int))] (.ok (.inl (((),((),((),((),(a13,(a14+(1:Int),())))))),((c0_0,(c0_1,(c0_2,(c0_3,(c0_4,(c0_5,(c0_6,(c0_7,(c0_8,(c0_9,(c0_10,()))))))))))),(c1,(c2,(List.set (List.set (List.set (List.set (List.set (List.set z3 0 (List.getD z3 1 0)) 1 (List.getD z3 2 0)) 2 (List.getD z3 3 0)) 3 (List.getD z3 4 0)) 4 (List.getD z3 5 0)) 5 (0:UInt64),()))))))))
 (.ok (.inr ⟨(.exit 0,wQ),(((),((),((),()))),((c0_0,(c0_1,(c0_2,(c0_3,(c0_4,(c0_5,(c0_6,(c0_7,(c0_8,(c0_9,(c0_10,()))))))))))),(c2,(c3,()))))⟩)))
def Cn (s:cQ):OT (Sum cQ aE):=Vd (s.1.2.2.2.2.1) (s.1.2.2.2.2.2.1) (s.2.1.1) (s.2.1.2.1) (s.2.1.2.2.1) (s.2.1.2.2.2.1) (s.2.1.2.2.2.2.1) (s.2.1.2.2.2.2.2.1) (s.2.1.2.2.2.2.2.2.1) (s.2.1.2.2.2.2.2.2.2.1) (s.2.1.2.2.2.2.2.2.2.2.1) (s.2.1.2.2.2.2.2.2.2.2.2.1) (s.2.1.2.2.2.2.2.2.2.2.2.2.1) (s.2.2.1) (s.2.2.2.1) (s.2.2.2.2.1)
theorem aBq (s:cQ) (Q:Sum cQ aE->Prop):wps te SK av 1000 (aU (aj Tryz.f118) 0) (Cm.inj s) (bU Cm akr (Q:Sum Cm.T aE->Prop))=(Cn s).wpR Q:=by kernel_rfl
def I4 (g0_0:cQ->mz) (s:cQ):OT aE:=(.ok ⟨(.exit 0,wQ),g0_0 s⟩)
def wP:az:=⟨[.val true .elem],[],false⟩
def ZN:SV->Option az:=λ_=>some wP
def aeU (ok0:cQ->Bool) (g0_0:cQ->mz) (a0:(aa×(Int×(UInt64×(UInt64×aa))))) (a1:aa) (a2:aa):OT kC.Y:=
 let z0:(PUnit×PUnit×PUnit×PUnit×aa×Int×PUnit)×(UInt64×UInt64×UInt64×UInt64×Int×UInt64×UInt64×UInt64×UInt64×UInt64×UInt64×PUnit)×List UInt64×List UInt64×List UInt64×PUnit:=(((),(),(),(),a2,(0:Int),()),(a0.fst.w0,a0.fst.w1,a0.fst.w2,a0.fst.w3,a0.snd.fst,a0.snd.snd.fst,a0.snd.snd.snd.fst,a0.snd.snd.snd.snd.w0,a0.snd.snd.snd.snd.w1,a0.snd.snd.snd.snd.w2,a0.snd.snd.snd.snd.w3,()),[a1.w0,a1.w1,a1.w2,a1.w3],[(0:UInt64),(0:UInt64),(0:UInt64),(0:UInt64)],[(0:UInt64),(0:UInt64),(0:UInt64),(0:UInt64),(0:UInt64),(0:UInt64)],())
 let z1:=(g0_0 z0).snd
 let z2:=z1.snd
 let z3:=z2.snd.fst
 let z4:Nat:=List.length z3
 let z5:=z2.fst
 let z6:Nat:=List.length z5
 let z7:Bool:=decide ((4/1:Nat)+0<=z6)
 let z8:=z1.fst
 let z9:=z8.snd
 let z10:=z9.snd
 let z11:aa×Bool:=eE {w0:=List.getD z3 0 0,w1:=List.getD z3 1 0,w2:=List.getD z3 2 0,w3:=List.getD z3 3 0} {w0:=z8.fst,w1:=z9.fst,w2:=z10.fst,w3:=z10.snd.fst}
 let z12:=z11.fst
 let z13:List UInt64:=List.set (List.set (List.set (List.set z5 0 z12.w0) 1 z12.w1) 2 z12.w2) 3 z12.w3
 let z14:Bool:=decide (4<=List.length z13)
 let z15:aa:= {w0:=List.getD z13 0 0,w1:=List.getD z13 1 0,w2:=List.getD z13 2 0,w3:=List.getD z13 3 0}
 let z16:List UInt64:=lay z5 z3 4 (0:UInt64)
 (gd [ok0 z0,decide (6<=z4)&&true,decide (4<=z4),decide (4<z4)] (.br (!List.getD z3 4 0==(0:UInt64))
 (gd [z7,z14] (.ok ⟨wP,((z15,()),())⟩))
 (.br (!z11.snd)
  (gd [z7,z14] (.ok ⟨wP,((z15,()),())⟩))
  (gd [decide ((4/1:Nat)+0<=z6),decide (4<=List.length z16)] (.ok ⟨wP,(({w0:=List.getD z16 0 0,w1:=List.getD z16 1 0,w2:=List.getD z16 2 0,w3:=List.getD z16 3 0},()),())⟩)))))
theorem aGB (ok0:cQ->Bool) (g0_0:cQ->mz) (x:Ry) (Q:kC.Y->Prop):wpf te SK (aO 0 (cf Cm 0 ok0 (I4 g0_0)) av) 1000 Tryz.f118 (kC.inp.inj x).tm (kC.inp.inj x).hp (fnK kC ZN Q) (λ_ _=>False)=(aeU ok0 g0_0 (x.1.1) (x.1.2.1) (x.1.2.2.1)).wpR Q:=by kernel_rfl
theorem aoe (ok0:cQ->Bool) (g0_0:cQ->mz) (h0:∀ s:cQ,ok0 s=true->∃ m e,al (Cn) m s=some e/\(I4 g0_0 s).run=some e) (pre:Ry->Bool) (F:Ry->OT kC.Y) (hF:∀ (x:Ry) oy,pre x=true->(F x).run=some oy->(aeU ok0 g0_0 (x.1.1) (x.1.2.1) (x.1.2.2.1)).run=some oy):ac Tryz.prog 118 (kC.aI pre F):=
 aD ar DJ SJ (f:=118) (fn:=Tryz.f118) (c:=aj Tryz.f118) (by kernel_rfl) (by kernel_rfl) (by kernel_rfl) (S:=kC) (k:=0) (by kernel_rfl) (λR hR=>(aA (c:=(aj Tryz.f118)) (by kernel_rfl) (id:=0) (by kernel_rfl) (aP ar DJ SJ (sh:=Cm) hR (xs:=akr) (aC (by kernel_rfl) (by kernel_rfl) hR) aM af (n:=1000) (T:=Cn) (λs Q=>aBq s Q) (ok:=ok0) (f:=I4 g0_0) h0) af)) (n:=1000) (sel:=ZN) (λv o h=>by cases h;rfl) (pre:=pre) (F:=F) (T:=λx=>aeU ok0 g0_0 (x.1.1) (x.1.2.1) (x.1.2.2.1)) (λx Q=>aGB ok0 g0_0 x Q) hF
def kz (n:PC):Bool:=decide (n=aY 2)||decide (n=aY 3)
theorem je {n:PC} (h:kz n=true):n=aY 2\/n=aY 3:=by
 simpa [kz] using h
def az1 (n:PC):Nat:=if n.2.2.2.1==11037532056220336127 then 15353493766103302224812374511606760489073247795810767472367693728416386214313 else 14238205147845459960272226733876560297615832660064601289232577236146637664127
theorem au2 {n:PC} (h:kz n=true):(n.1.nat*n.2.2.2.1.toNat+1)%18446744073709551616=0:=by
 rcases je h with rfl|rfl<;>decide+kernel
theorem au3 {n:PC} (h:kz n=true):115792089237316195423570985008687907853269984665640564039457584007913129639936*az1 n%n.1.nat=1%n.1.nat:=by
 rcases je h with rfl|rfl<;>decide+kernel
theorem au0 {n:PC} (h:kz n=true):2*n.1.nat<=115792089237316195423570985008687907853269984665640564039457584007913129639936:=by
 rcases je h with rfl|rfl<;>decide+kernel
theorem aKH (n:Nat):tab (l6 n) 6 0=l6 n:=rfl
theorem aBb {n:Nat} (h:n/18446744073709551616/18446744073709551616/18446744073709551616/18446744073709551616/18446744073709551616/18446744073709551616=0):
 [UInt64.ofNat (n/18446744073709551616),UInt64.ofNat (n/18446744073709551616/18446744073709551616),UInt64.ofNat (n/18446744073709551616/18446744073709551616/18446744073709551616),
  UInt64.ofNat (n/18446744073709551616/18446744073709551616/18446744073709551616/18446744073709551616),UInt64.ofNat (n/18446744073709551616/18446744073709551616/18446744073709551616/18446744073709551616/18446744073709551616),0]=l6 (n/18446744073709551616):=by
 unfold l6
 rw [h]
 rfl
theorem aKM (a b:Nat):lay (l6 a) (l6 b) 6 0=l6 b:=yj rfl rfl
theorem axD (U:Nat) (neg:UInt64):(List.getD (l6 U) 0 0*neg).toNat=U*neg.toNat%18446744073709551616:=by
 show (UInt64.ofNat U*neg).toNat=_
 rw [UInt64.toNat_mul,UInt64.toNat_ofNat',Nat.mul_mod,Nat.mod_mod,<-Nat.mul_mod]
theorem aod (b:aa) (k:Nat) (hk:k<4) (x0 x1 x2 x3 x5 x6 x7 x8 x9 x10:UInt64) (x4:Int) (c1 c2:List UInt64) (T:Nat) (h1:c1.length=4) (hT:T<2*(aa.mk x0 x1 x2 x3).nat)
 (hn:((aa.mk x0 x1 x2 x3).nat*x6.toNat+1)%18446744073709551616=0) (hp:2*(aa.mk x0 x1 x2 x3).nat<=115792089237316195423570985008687907853269984665640564039457584007913129639936) (ha:(elemOf c1).nat<(aa.mk x0 x1 x2 x3).nat):
 (Vd b (k:Int) x0 x1 x2 x3 x4 x5 x6 x7 x8 x9 x10 c1 c2 (l6 T)).run=some (.inl (((),(),(),(),b,((k+1:Nat):Int),()),((x0,x1,x2,x3,x4,x5,x6,x7,x8,x9,x10,()),c1,c2,l6 (JM (aa.mk x0 x1 x2 x3).nat x6.toNat (elemOf c1).nat ((lst b).getD k 0).toNat T),()))):=by
 have hlt:=vC (b:=((lst b).getD k 0).toNat) hn hT ha (UInt64.toNat_lt _)
 have heq:=vD (a:=(elemOf c1).nat) (b:=((lst b).getD k 0).toNat) (t:=T) hn
 have hrd:JM (aa.mk x0 x1 x2 x3).nat x6.toNat (elemOf c1).nat ((lst b).getD k 0).toNat T=(T+(elemOf c1).nat*((lst b).getD k 0).toNat+(aa.mk x0 x1 x2 x3).nat*((T+(elemOf c1).nat*((lst b).getD k 0).toNat)*x6.toNat%18446744073709551616))/18446744073709551616:=rfl
 generalize hU:T+(elemOf c1).nat*((lst b).getD k 0).toNat=U at heq hrd
 generalize hV:U+(aa.mk x0 x1 x2 x3).nat*(U*x6.toNat%18446744073709551616)=V at heq hrd
 generalize JM (aa.mk x0 x1 x2 x3).nat x6.toNat (elemOf c1).nat ((lst b).getD k 0).toNat T=S at*
 have hVU:U<=V:=by rw [<-hV];exact Nat.le_add_right _ _
 have hz1:lay (l6 T) (l6 (v6 (tab (l6 T) 6 0)+aa.nat {w0:=List.getD c1 0 0,w1:=List.getD c1 1 0,w2:=List.getD c1 2 0,w3:=List.getD c1 3 0}*UInt64.toNat (List.getD [b.w0,b.w1,b.w2,b.w3] (Int.toNat (k:Int)) 0))) 6 0=l6 U:=by
  rw [aKH,aIb (by omega),aKM,Int.toNat_natCast]
  exact congrArg l6 hU
 have hz3:lay (l6 U) (l6 (v6 (tab (l6 U) 6 0)+aa.nat {w0:=x0,w1:=x1,w2:=x2,w3:=x3}*UInt64.toNat (List.getD (l6 U) 0 0*x6))) 6 0=l6 V:=by
  rw [aKH,aIb (by omega),aKM,axD,hV]
 have hsh:_=l6 (V/18446744073709551616):=aBb (n:=V) (by omega)
 unfold Vd
 simp only [hz1,hz3]
 refine (OT.ao (decide_eq_true (by omega))).trans ((ah ?_).trans ?_)
 ·simp only [auO,h1,List.all_cons,List.all_nil,Bool.and_true,Bool.and_eq_true]
  exact ⟨aN (by omega),rfl,rfl,rfl,rfl,rfl,rfl,rfl,rfl,rfl,rfl,rfl,rfl,aH (by omega)⟩
 ·rw [hrd]
  exact congrArg (λl=>some (Sum.inl (((),(),(),(),b,((k+1:Nat):Int),()),((x0,x1,x2,x3,x4,x5,x6,x7,x8,x9,x10,()),c1,c2,l,())))) hsh
def awx (s:cQ):aa:=⟨s.2.1.1,s.2.1.2.1,s.2.1.2.2.1,s.2.1.2.2.2.1⟩
def aHu (s:cQ):UInt64:=s.2.1.2.2.2.2.2.2.1
def ZO (s:cQ):Bool:=decide (s.1.2.2.2.2.2.1=0/\s.2.2.1.length=4/\s.2.2.2.2.1=l6 0/\((awx s).nat*(aHu s).toNat+1)%18446744073709551616=0/\2*(awx s).nat<=115792089237316195423570985008687907853269984665640564039457584007913129639936/\(elemOf s.2.2.1).nat<(awx s).nat)
def Vc (s:cQ):mz:=(((),(),(),()),(s.2.1,s.2.2.2.1,l6 (aIZ (awx s).nat (aHu s).toNat (elemOf s.2.2.1).nat s.1.2.2.2.2.1),()))
theorem aBs:∀ s:cQ,ZO s=true->∃ m e,al Cn m s=some e/\(I4 Vc s).run=some e:=by
 rintro ⟨⟨⟨⟩,⟨⟩,⟨⟩,⟨⟩,b,i,⟨⟩⟩,⟨⟨x0,x1,x2,x3,x4,x5,x6,x7,x8,x9,x10,⟨⟩⟩,c1,c2,c3,⟨⟩⟩⟩ h
 have h':=of_decide_eq_true h
 dsimp only [awx,aHu] at h'
 obtain ⟨rfl,h1,rfl,hn,hp,ha⟩:=h'
 have:=(aR (T:=Cn) (λk T=>((((),(),(),(),b,(k:Int),()),((x0,x1,x2,x3,x4,x5,x6,x7,x8,x9,x10,()),c1,c2,l6 T,())):cQ)) (λk T=>JM (aa.mk x0 x1 x2 x3).nat x6.toNat (elemOf c1).nat ((lst b).getD k 0).toNat T)
  (λT=>(⟨(.exit 0,wQ),(((),(),(),()),((x0,x1,x2,x3,x4,x5,x6,x7,x8,x9,x10,()),c2,l6 T,()))⟩:aE)) 4 0 (λ_ T=>T<2*(aa.mk x0 x1 x2 x3).nat) (by omega) (λk T hk hT=>⟨?_,?_⟩) (λT hT=> ?_)).1
 ·obtain ⟨m,hm⟩:=this
  exact ⟨m,_,hm,rfl⟩
 ·exact aod b k hk x0 x1 x2 x3 x5 x6 x7 x8 x9 x10 x4 c1 c2 T h1 hT hn hp ha
 ·exact vC hn hT ha (UInt64.toNat_lt _)
 ·exact OT.aq (decide_eq_false (by dsimp only;omega))
def ub (x:Ry):Bool:=kz x.1.1&&Nat.blt x.1.2.1.nat x.1.1.1.nat
def avc (x:Ry):OT kC.Y:=.ok ⟨wP,((ofN (x.1.2.1.nat*x.1.2.2.1.nat*az1 x.1.1%x.1.1.1.nat),()),())⟩
theorem aBr:ac Tryz.prog 118 (kC.aI ub avc):=aoe ZO Vc aBs _ _ λx oy hp ho=>by
 rw [<-ho]
 clear ho
 obtain ⟨⟨⟨⟨m0,m1,m2,m3⟩,ad,sm,neg,sq⟩,a,b,⟨⟩⟩,⟨⟩⟩:=x
 have hp':(kz (⟨m0,m1,m2,m3⟩,ad,sm,neg,sq)&&Nat.blt a.nat (aa.mk m0 m1 m2 m3).nat)=true:=hp
 rw [Bool.and_eq_true] at hp'
 obtain ⟨hg,ha⟩:=hp'
 have ha:=dW ha
 have hn:((aa.mk m0 m1 m2 m3).nat*neg.toNat+1)%18446744073709551616=0:=au2 hg
 have h2:2*(aa.mk m0 m1 m2 m3).nat<=115792089237316195423570985008687907853269984665640564039457584007913129639936:=au0 hg
 have hr:115792089237316195423570985008687907853269984665640564039457584007913129639936*az1 (⟨m0,m1,m2,m3⟩,ad,sm,neg,sq)%(aa.mk m0 m1 m2 m3).nat=1%(aa.mk m0 m1 m2 m3).nat:=au3 hg
 have hM:=aA2 (a:=a.nat) (b:=b) hn hr
 have hL:=aGo (b:=b) hn ha
 refine (ah ?_).trans ?_
 ·simp only [List.all_cons,List.all_nil,Bool.and_true,Bool.and_eq_true]
  exact ⟨decide_eq_true ⟨rfl,rfl,rfl,hn,h2,ha⟩,rfl,rfl,rfl⟩
 ·show _=(OT.ok ⟨wP,((ofN (a.nat*b.nat*az1 (⟨m0,m1,m2,m3⟩,ad,sm,neg,sq)%(aa.mk m0 m1 m2 m3).nat),()),())⟩:OT kC.Y).run
  rw [<-hM,aGp hL]
  have e0:Vc (((),(),(),(),b,0,()),((m0,m1,m2,m3,ad,sm,neg,sq.w0,sq.w1,sq.w2,sq.w3,()),[a.w0,a.w1,a.w2,a.w3],[0,0,0,0],[0,0,0,0,0,0],()))=(((),(),(),()),((m0,m1,m2,m3,ad,sm,neg,sq.w0,sq.w1,sq.w2,sq.w3,()),[0,0,0,0],l6 (aIZ (aa.mk m0 m1 m2 m3).nat neg.toNat a.nat b),())):=rfl
  dsimp only
  rw [e0]
  clear e0 hM
  generalize aIZ (aa.mk m0 m1 m2 m3).nat neg.toNat a.nat b=M at*
  have e4:List.getD (l6 M) 4 0=0:=by
   show UInt64.ofNat (M/18446744073709551616/18446744073709551616/18446744073709551616/18446744073709551616)=0
   rw [show M/18446744073709551616/18446744073709551616/18446744073709551616/18446744073709551616=0 by omega]
   rfl
  refine (OT.aq (by rw [e4];rfl)).trans ?_
  have eN:(ofN M).nat=M:=kx (by omega)
  by_cases hlt:M<(aa.mk m0 m1 m2 m3).nat
  ·rw [if_pos hlt]
   refine (OT.aq ?_).trans ((ah rfl).trans rfl)
   show (!Nat.blt (ofN M).nat (aa.mk m0 m1 m2 m3).nat)=false
   rw [eN,show Nat.blt M (aa.mk m0 m1 m2 m3).nat=true from Nat.ble_eq_true_of_le hlt]
   rfl
  ·rw [if_neg hlt]
   refine (OT.ao ?_).trans ((ah rfl).trans ?_)
   ·show (!Nat.blt (ofN M).nat (aa.mk m0 m1 m2 m3).nat)=true
    rw [eN]
    cases hb:Nat.blt M (aa.mk m0 m1 m2 m3).nat
    ·rfl
    ·exact absurd (dW hb) hlt
   ·have ew:(eE (ofN M) (aa.mk m0 m1 m2 m3)).1=ofN (M-(aa.mk m0 m1 m2 m3).nat):=by
     apply rc
     rw [m6 (by omega),eN,kx (by omega)]
    rw [<-ew]
    rfl
def FH:cj:=(kC.aI ub avc)
theorem aeT:ac Tryz.prog 118 FH:=aBr
theorem aeS:aG FH:=aB
def Oe:Env:=ay 118 FH SK
theorem GG:aQ Tryz.prog Oe:=ag aeT DJ
theorem HZ:ax Oe:=ae aeS OB
theorem agr:aW Tryz.prog te Oe:=aL follows ar GG HZ
def kD:aw:=⟨[.val true (.prod .elem (.prod .int (.prod .u64 (.prod .u64 .elem)))),.val true .elem,.val true .elem],[],true,0,false⟩
abbrev RD:Type:=(((aa×(Int×(UInt64×(UInt64×aa)))))×(aa)×(aa)×Unit)×(Unit)
def rv:az:=⟨[.val true .elem],[],false⟩
def Z5:SV->Option az:=λ_=>some rv
def zJ (a0:(aa×(Int×(UInt64×(UInt64×aa))))) (a1:aa) (a2:aa):OT kD.Y:=
 let z0:Bool:= !a0.snd.snd.fst==(0:UInt64)
 let z1:Nat:=aa.nat a0.fst
 let z2:aa:=ofN (aa.nat a1%z1)
 let z3:aa:=ofN (aa.nat a2%z1)
 let z4:Nat:=az1 a0
 let z5:aa:=ofN (aa.nat z2*aa.nat z3*z4%z1)
 (gd [gG ((a0,a1,()),()),gG ((a0,a2,()),())] (.br (z0)
 (gd [z0] (.ok ⟨rv,(({w0:=z2.w0*z3.w0%a0.snd.snd.fst,w1:=0,w2:=0,w3:=0},()),())⟩))
 (gd [ub ((a0,z2,z3,()),()),ub ((a0,z5,a0.snd.snd.snd.snd,()),())] (.ok ⟨rv,((ofN (aa.nat z5*aa.nat a0.snd.snd.snd.snd*z4%z1),()),())⟩))))
theorem aGS (x:RD) (Q:kD.Y->Prop):wpf te Oe av 1000 Tryz.f77 (kD.inp.inj x).tm (kD.inp.inj x).hp (fnK kD Z5 Q) (λ_ _=>False)=(zJ (x.1.1) (x.1.2.1) (x.1.2.2.1)).wpR Q:=by kernel_rfl
theorem aou (pre:RD->Bool) (F:RD->OT kD.Y) (hF:∀ (x:RD) oy,pre x=true->(F x).run=some oy->(zJ (x.1.1) (x.1.2.1) (x.1.2.2.1)).run=some oy):ac Tryz.prog 77 (kD.aI pre F):=
 aD ar GG agr (f:=77) (fn:=Tryz.f77) (c:=aj Tryz.f77) (by kernel_rfl) (by kernel_rfl) (by kernel_rfl) (S:=kD) (k:=0) (by kernel_rfl) (λR hR=>af) (n:=1000) (sel:=Z5) (λv o h=>by cases h;rfl) (pre:=pre) (F:=F) (T:=λx=>zJ (x.1.1) (x.1.2.1) (x.1.2.2.1)) (λx Q=>aGS x Q) hF
theorem auA {p A B r s:Nat} (h:r*s*r%p=1%p):A*B*r%p*s*r%p=A*B%p:=by
 have e:A*B*r*(s*r)=A*B*(r*s*r):=by
  rw [Nat.mul_assoc (A*B) r (s*r),Nat.mul_assoc r s r]
 rw [Nat.mul_assoc,Nat.mul_mod,Nat.mod_mod,<-Nat.mul_mod,e,Nat.mul_mod,h,<-Nat.mul_mod,Nat.mul_one]
theorem aBe {n:PC} (h:kz n=true):az1 n*n.2.2.2.2.nat*az1 n%n.1.nat=1%n.1.nat:=by
 rcases je h with rfl|rfl<;>decide+kernel
theorem aJc:kz (aY 2)=true:=by decide+kernel
theorem aJb:kz (aY 3)=true:=by decide+kernel
theorem au1 {n:PC} (h:kz n=true):kw n=true:=by
 rcases je h with rfl|rfl<;>decide+kernel
theorem Hl {n:PC} {a b:aa} {m:UInt64} (hn0:kw n=true) (h1:n.1=⟨m,0,0,0⟩) (h2:n.2.2.1=m) (hs:gf m=true):(zJ n a b).run=some ⟨rv,((bP n.1.nat a b,()),())⟩:=by
 have hm:=lH hs
 have hb':m.toNat<=16521217:=by rcases ef hs with rfl|rfl<;>decide
 have hn:n.1.nat=m.toNat:=by rw [h1];show m.toNat+_*(0+_*(0+_*0))=_;omega
 have hz:(!(n.2.2.1==0))=true:=by
  rw [h2]
  rcases ef hs with rfl|rfl<;>rfl
 have ha:=Nat.mod_lt a.nat hm
 have hb:=Nat.mod_lt b.nat hm
 have hab:a.nat%m.toNat*(b.nat%m.toNat)<18446744073709551616:=by
  have:a.nat%m.toNat*(b.nat%m.toNat)<=16521217*16521217:=Nat.mul_le_mul (by omega) (by omega)
  omega
 have e:UInt64.ofNat (a.nat%m.toNat)*UInt64.ofNat (b.nat%m.toNat)%m=UInt64.ofNat (a.nat*b.nat%m.toNat):=by
  have hlt:=Nat.mod_lt (a.nat*b.nat) hm
  rw [<-UInt64.toNat_inj,UInt64.toNat_mod,UInt64.toNat_mul,UInt64.toNat_ofNat',UInt64.toNat_ofNat',UInt64.toNat_ofNat',Nat.mod_eq_of_lt (a:=a.nat%m.toNat) (by omega),Nat.mod_eq_of_lt (a:=b.nat%m.toNat) (by omega),
   Nat.mod_eq_of_lt (a:=a.nat%m.toNat*(b.nat%m.toNat)) (by omega),Nat.mod_eq_of_lt (a:=a.nat*b.nat%m.toNat) (by omega),<-Nat.mul_mod]
 have hlt:=Nat.mod_lt (a.nat*b.nat) hm
 unfold zJ
 refine (ah ?_).trans ((OT.ao hz).trans ((ah ?_).trans ?_))
 ·simp only [List.all_cons,List.all_nil,Bool.and_true,Bool.and_eq_true]
  exact ⟨hn0,hn0⟩
 ·simp only [hz,List.all_cons,List.all_nil,Bool.and_true]
 ·unfold bP
  rw [hn,tG (n:=a.nat*b.nat%m.toNat) (by omega),<-e]
  show some (⟨rv,((⟨UInt64.ofNat (a.nat%m.toNat)*UInt64.ofNat (b.nat%m.toNat)%n.2.2.1,0,0,0⟩,()),())⟩:kD.Y)=_
  rw [h2]
theorem Mo {n:PC} {a b:aa} (h:kz n=true) (h2:n.2.2.1=0):(zJ n a b).run=some ⟨rv,((bP n.1.nat a b,()),())⟩:=by
 have hn0:=au1 h
 have hp:=BT hn0
 have hz:(!(n.2.2.1==0))=false:=by rw [h2];rfl
 have e1:(ofN (a.nat%n.1.nat)).nat=a.nat%n.1.nat:=dy hp
 have e2:(ofN (b.nat%n.1.nat)).nat=b.nat%n.1.nat:=dy hp
 have e3:(ofN (a.nat%n.1.nat*(b.nat%n.1.nat)*az1 n%n.1.nat)).nat=a.nat%n.1.nat*(b.nat%n.1.nat)*az1 n%n.1.nat:=dy hp
 unfold zJ
 refine (ah ?_).trans ((OT.aq hz).trans ((ah ?_).trans ?_))
 ·simp only [List.all_cons,List.all_nil,Bool.and_true,Bool.and_eq_true]
  exact ⟨hn0,hn0⟩
 ·simp only [List.all_cons,List.all_nil,Bool.and_true,Bool.and_eq_true,ub,h,true_and,e1,e2,e3]
  exact ⟨Nat.ble_eq_true_of_le (Nat.mod_lt _ hp.1),Nat.ble_eq_true_of_le (Nat.mod_lt _ hp.1)⟩
 ·simp only [e1,e2,e3,auA (aBe h),bP,<-Nat.mul_mod]
  rfl
def gj (x:RD):Bool:=kw x.1.1
def avp (x:RD):OT kD.Y:=.ok ⟨rv,((bP x.1.1.1.nat x.1.2.1 x.1.2.2.1,()),())⟩
theorem aBx:ac Tryz.prog 77 (kD.aI gj avp):=aou _ _ λx oy hp ho=>by
 rw [<-ho]
 clear ho
 obtain ⟨⟨n,a,b,⟨⟩⟩,⟨⟩⟩:=x
 have hp':kw n=true:=hp
 rcases zq hp' with rfl|rfl|rfl|rfl
 ·exact Hl hp' (m:=16513537) rfl rfl rfl
 ·exact Hl hp' (m:=16521217) rfl rfl rfl
 ·exact Mo aJc rfl
 ·exact Mo aJb rfl
def FJ:cj:=(kD.aI gj avp)
theorem ae0:ac Tryz.prog 77 FJ:=aBx
theorem aeZ:aG FJ:=aB
def Om:Env:=ay 77 FJ Oe
theorem GI:aQ Tryz.prog Om:=ag ae0 GG
theorem H3:ax Om:=ae aeZ HZ
theorem agt:aW Tryz.prog te Om:=aL follows ar GI H3
def ug:aw:=⟨[.val false .int,.val true .elem,.val true .elem],[],true,0,false⟩
abbrev aot:Type:=((Int)×(aa)×(aa)×Unit)×(Unit)
def Mn:az:=⟨[.val true .elem],[],false⟩
def akz:SV->Option az:=λ_=>some Mn
def avo (a0:Int) (a1:aa) (a2:aa):OT ug.Y:=
 let z0:aa×Int×UInt64×UInt64×aa:=aY (Int.toNat a0)
 (.br (ap a0)
 (gd [gj ((z0,a1,a2,()),())] (.ok ⟨Mn,((bP (aa.nat z0.fst) a1 a2,()),())⟩))
 (.ok ⟨Mn,(({w0:=0,w1:=0,w2:=0,w3:=0},()),())⟩))
theorem aJl (x:aot) (Q:ug.Y->Prop):wpf te Om av 1000 Tryz.f42 (ug.inp.inj x).tm (ug.inp.inj x).hp (fnK ug akz Q) (λ_ _=>False)=(avo (x.1.1) (x.1.2.1) (x.1.2.2.1)).wpR Q:=by kernel_rfl
theorem avn (pre:aot->Bool) (F:aot->OT ug.Y) (hF:∀ (x:aot) oy,pre x=true->(F x).run=some oy->(avo (x.1.1) (x.1.2.1) (x.1.2.2.1)).run=some oy):ac Tryz.prog 42 (ug.aI pre F):=
 aD ar GI agt (f:=42) (fn:=Tryz.f42) (c:=aj Tryz.f42) (by kernel_rfl) (by kernel_rfl) (by kernel_rfl) (S:=ug) (k:=0) (by kernel_rfl) (λR hR=>af) (n:=1000) (sel:=akz) (λv o h=>by cases h;rfl) (pre:=pre) (F:=F) (T:=λx=>avo (x.1.1) (x.1.2.1) (x.1.2.2.1)) (λx Q=>aJl x Q) hF
def akA (_:aot):Bool:=true
def aC9 (x:aot):OT ug.Y:=.br (ap x.1.1) (.ok ⟨Mn,((bP (pS x.1.1) x.1.2.1 x.1.2.2.1,()),())⟩) (.ok ⟨Mn,((⟨0,0,0,0⟩,()),())⟩)
theorem aGR:ac Tryz.prog 42 (ug.aI akA aC9):=avn _ _ λx oy hp ho=>by
 rw [<-ho]
 clear ho
 obtain ⟨⟨s,a,b,⟨⟩⟩,⟨⟩⟩:=x
 cases hs:ap s
 ·exact (OT.aq hs).trans (OT.aq (b:=ap s) hs).symm
 ·refine (OT.ao hs).trans ((ah ?_).trans (OT.ao (b:=ap s) hs).symm)
  simp only [List.all_cons,List.all_nil,Bool.and_true]
  exact iY hs
def Mm:cj:=(ug.aI akA aC9)
theorem aos:ac Tryz.prog 42 Mm:=aGR
theorem aor:aG Mm:=aB
def abK:Env:=ay 42 Mm Om
theorem Ok:aQ Tryz.prog abK:=ag aos GI
theorem Ol:ax abK:=ae aor H3
theorem apV:aW Tryz.prog te abK:=aL follows ar Ok Ol
def mC:aw:=⟨[.val true .elem],[],true,0,false⟩
abbrev RI:Type:=((aa)×Unit)×(Unit)
def Vp:az:=⟨[.val true .elem],[],false⟩
def aab:SV->Option az:=λ_=>some Vp
def ae4 (a0:aa):OT mC.Y:=
 (.ok ⟨Vp,(({w0:=bm a0.w0 (1:Int)|||bR a0.w1 (63:Int),w1:=bm a0.w1 (1:Int)|||bR a0.w2 (63:Int),w2:=bm a0.w2 (1:Int)|||bR a0.w3 (63:Int),w3:=bm a0.w3 (1:Int)},()),())⟩)
theorem aGW (x:RI) (Q:mC.Y->Prop):wpf te abK av 1000 Tryz.f138 (mC.inp.inj x).tm (mC.inp.inj x).hp (fnK mC aab Q) (λ_ _=>False)=(ae4 (x.1.1)).wpR Q:=by kernel_rfl
theorem aoF (pre:RI->Bool) (F:RI->OT mC.Y) (hF:∀ (x:RI) oy,pre x=true->(F x).run=some oy->(ae4 (x.1.1)).run=some oy):ac Tryz.prog 138 (mC.aI pre F):=
 aD ar Ok apV (f:=138) (fn:=Tryz.f138) (c:=aj Tryz.f138) (by kernel_rfl) (by kernel_rfl) (by kernel_rfl) (S:=mC) (k:=0) (by kernel_rfl) (λR hR=>af) (n:=1000) (sel:=aab) (λv o h=>by cases h;rfl) (pre:=pre) (F:=F) (T:=λx=>ae4 (x.1.1)) (λx Q=>aGW x Q) hF
theorem LZ (x y:UInt64):(bm x 1|||bR y 63).toNat=x.toNat/2+9223372036854775808*(y.toNat%2):=by
 have hx:=x.toNat_lt
 have e1:(bm x 1).toNat=x.toNat/2:=ff x 1 (by omega)
 have e2:(bR y 63).toNat=9223372036854775808*(y.toNat%2):=by
  have:=lI y 63 (by omega)
  have e:(bR y 63).toNat=y.toNat*2^63%2^64:=this
  rw [e]
  omega
 rw [UInt64.toNat_or,e1,e2,Nat.or_comm]
 have:=Nat.two_pow_add_eq_or_of_lt (i:=63) (b:=x.toNat/2) (by omega) (y.toNat%2)
 rw [Nat.add_comm]
 exact this.symm
theorem L0 (x N:Nat):(x+18446744073709551616*N)/2=(x/2+9223372036854775808*(N%2))+18446744073709551616*(N/2):=by
 omega
theorem aeA (y N:Nat):(y+18446744073709551616*N)%2=y%2:=by
 omega
def dr (a:aa):aa:=ofN (a.nat/2)
theorem akg (a:aa):dr a=⟨bm a.w0 1|||bR a.w1 63,bm a.w1 1|||bR a.w2 63,bm a.w2 1|||bR a.w3 63,bm a.w3 1⟩:=by
 refine aui (k:=0) ?_
 rw [LZ,LZ,LZ,Nat.mul_zero,Nat.add_zero]
 unfold Sx.aa.nat
 have e3:(bm a.w3 1).toNat=a.w3.toNat/2:=ff a.w3 1 (by omega)
 rw [L0,aeA,L0,aeA,L0,e3]
def aac (_:RI):Bool:=true
def ae5 (x:RI):OT mC.Y:=.ok ⟨Vp,((dr x.1.1,()),())⟩
theorem aBy:ac Tryz.prog 138 (mC.aI aac ae5):=aoF _ _ λx oy hp ho=>by
 rw [<-ho]
 clear ho
 obtain ⟨⟨a,⟨⟩⟩,⟨⟩⟩:=x
 simp only [ae5,akg]
 rfl
def FK:cj:=(mC.aI aac ae5)
theorem ae3:ac Tryz.prog 138 FK:=aBy
theorem ae2:aG FK:=aB
def GK:Env:=ay 138 FK abK
theorem xU:aQ Tryz.prog GK:=ag ae3 Ok
theorem H4:ax GK:=ae ae2 Ol
theorem Ou:aW Tryz.prog te GK:=aL follows ar xU H4
def fq:aw:=⟨[.val true .elem,.val false .int],[],true,0,false⟩
abbrev wX:Type:=((aa)×(Int)×Unit)×(Unit)
def pH:Shape:=⟨12,[(2,.ptr 0 0 0),(4,.ptr 1 0 0),(5,.val false .int),(6,.val false .int)],[(0,.row .u64),(1,.row .u64)],0,true⟩
abbrev cg:Type:=((Unit)×(Unit)×(Int)×(Int)×Unit)×((List (UInt64))×(List (UInt64))×Unit)
def nJ:Shape:=⟨12,[(2,.ptr 0 0 0),(4,.ptr 1 0 0)],[(0,.row .u64),(1,.row .u64)],0,true⟩
abbrev jg:Type:=((Unit)×(Unit)×Unit)×((List (UInt64))×(List (UInt64))×Unit)
def RG:SE->Option Shape:=fc [(0,nJ)] none
def aoE (a5:Int) (a6:Int) (c0:List (UInt64)) (c1:List (UInt64)):OT (Sum cg aE):=
 let z0:Nat:=List.length c0
 let z1:aa:=dr {w0:=List.getD c0 0 0,w1:=List.getD c0 1 0,w2:=List.getD c0 2 0,w3:=List.getD c0 3 0}
 (.br (decide (a6<a5))
 (gd [decide (4<=z0),decide ((4/1:Nat)+0<=z0),inR (a6+(1:Int))] (.ok (.inl (((),((),(a5,(a6+(1:Int),())))),(List.set (List.set (List.set (List.set c0 0 z1.w0) 1 z1.w1) 2 z1.w2) 3 z1.w3,(c1,()))))))
 (.ok (.inr ⟨(.exit 0,nJ),(((),((),())),(c0,(c1,())))⟩)))
def pJ (s:cg):OT (Sum cg aE):=aoE (s.1.2.2.1) (s.1.2.2.2.1) (s.2.1) (s.2.2.1)
theorem aoB (s:cg) (Q:Sum cg aE->Prop):wps te GK av 1000 (aU (aj Tryz.f136) 0) (pH.inj s) (bU pH RG (Q:Sum pH.T aE->Prop))=(pJ s).wpR Q:=by kernel_rfl
def wW (g0_0:cg->jg) (s:cg):OT aE:=(.ok ⟨(.exit 0,nJ),g0_0 s⟩)
def pI:az:=⟨[.val true .elem],[],false⟩
def Mu:SV->Option az:=λ_=>some pI
def Mw (ok0:cg->Bool) (g0_0:cg->jg) (a0:aa) (a1:Int):OT fq.Y:=
 let z0:(PUnit×PUnit×Int×Int×PUnit)×List UInt64×List UInt64×PUnit:=(((),(),a1,(0:Int),()),[a0.w0,a0.w1,a0.w2,a0.w3],[(0:UInt64),(0:UInt64),(0:UInt64),(0:UInt64)],())
 let z1:=(g0_0 z0).snd
 let z2:=z1.fst
 let z3:=z1.snd.fst
 let z4:List UInt64:=lay z3 z2 4 (0:UInt64)
 (gd [ok0 z0,decide (4<=List.length z2),decide ((4/1:Nat)+0<=List.length z3),decide (4<=List.length z4)] (.ok ⟨pI,(({w0:=List.getD z4 0 0,w1:=List.getD z4 1 0,w2:=List.getD z4 2 0,w3:=List.getD z4 3 0},()),())⟩))
theorem avu (ok0:cg->Bool) (g0_0:cg->jg) (x:wX) (Q:fq.Y->Prop):wpf te GK (aO 0 (cf pH 0 ok0 (wW g0_0)) av) 1000 Tryz.f136 (fq.inp.inj x).tm (fq.inp.inj x).hp (fnK fq Mu Q) (λ_ _=>False)=(Mw ok0 g0_0 (x.1.1) (x.1.2.1)).wpR Q:=by kernel_rfl
theorem Z9 (ok0:cg->Bool) (g0_0:cg->jg) (h0:∀ s:cg,ok0 s=true->∃ m e,al (pJ) m s=some e/\(wW g0_0 s).run=some e) (pre:wX->Bool) (F:wX->OT fq.Y) (hF:∀ (x:wX) oy,pre x=true->(F x).run=some oy->(Mw ok0 g0_0 (x.1.1) (x.1.2.1)).run=some oy):ac Tryz.prog 136 (fq.aI pre F):=
 aD ar xU Ou (f:=136) (fn:=Tryz.f136) (c:=aj Tryz.f136) (by kernel_rfl) (by kernel_rfl) (by kernel_rfl) (S:=fq) (k:=0) (by kernel_rfl) (λR hR=>(aA (c:=(aj Tryz.f136)) (by kernel_rfl) (id:=0) (by kernel_rfl) (aP ar xU Ou (sh:=pH) hR (xs:=RG) (aC (by kernel_rfl) (by kernel_rfl) hR) aM af (n:=1000) (T:=pJ) (λs Q=>aoB s Q) (ok:=ok0) (f:=wW g0_0) h0) af)) (n:=1000) (sel:=Mu) (λv o h=>by cases h;rfl) (pre:=pre) (F:=F) (T:=λx=>Mw ok0 g0_0 (x.1.1) (x.1.2.1)) (λx Q=>avu ok0 g0_0 x Q) hF
def dX (a:aa) (n:Nat):aa:=ofN (a.nat/2^n)
theorem zF (a:aa):∀ n,upto (λ_ e=>dr e) a n=dX a n
 |0=>by
  show a=ofN (a.nat/2^0)
  rw [Nat.pow_zero,Nat.div_one,wB]
 |n+1=>by
  show dr (upto (λ_ e=>dr e) a n)=_
  rw [zF a n]
  unfold dr dX
  have:=jz a
  have h2:a.nat/2^n<=a.nat:=Nat.div_le_self _ _
  rw [kx (by omega),Nat.div_div_eq_div_mul,<-Nat.pow_succ]
def Mv (s:cg):Bool:=decide (s.1.2.2.2.1=0/\0<=s.1.2.2.1/\s.1.2.2.1<=1000000/\s.2.1.length=4)
def RH (s:cg):jg:=(((),(),()),(lst (dX (elemOf s.2.1) s.1.2.2.1.toNat),s.2.2.1,()))
theorem aoD:∀ s:cg,Mv s=true->∃ m e,al pJ m s=some e/\(wW RH s).run=some e:=by
 rintro ⟨⟨⟨⟩,⟨⟩,k,i,⟨⟩⟩,⟨l,o,⟨⟩⟩⟩ h
 have h':=of_decide_eq_true h
 dsimp only at h'
 obtain ⟨rfl,h0,h1,hl⟩:=h'
 obtain ⟨a,rfl⟩:∃ a,l=lst a:=⟨elemOf l,(aS hl).symm⟩
 have:=(aR (T:=pJ) (λi a=>((((),(),k,(i:Int),()),(lst a,o,())):cg)) (λ_ e=>dr e)
  (λa=>(⟨(.exit 0,nJ),(((),(),()),(lst a,o,()))⟩:aE)) k.toNat a (λ_ _=>True) trivial (λi a hi _=>⟨?_,trivial⟩) (λa _=> ?_)).1
 ·rw [zF] at this
  obtain ⟨m,hm⟩:=this
  exact ⟨m,_,hm,rfl⟩
 ·refine (OT.ao (decide_eq_true (by dsimp only;omega))).trans ((ah ?_).trans rfl)
  simp only [List.all_cons,List.all_nil,Bool.and_true,Bool.and_eq_true]
  exact ⟨rfl,rfl,aH (by omega)⟩
 ·exact OT.aq (decide_eq_false (by dsimp only;omega))
def ry (x:wX):Bool:=decide (0<=x.1.2.1/\x.1.2.1<=1000000)
def aaa (x:wX):OT fq.Y:=.ok ⟨pI,((dX x.1.1 x.1.2.1.toNat,()),())⟩
theorem aoC:ac Tryz.prog 136 (fq.aI ry aaa):=Z9 Mv RH aoD _ _ λx oy hp ho=>by
 rw [<-ho]
 clear ho
 obtain ⟨⟨a,k,⟨⟩⟩,⟨⟩⟩:=x
 have hp':0<=k/\k<=1000000:=of_decide_eq_true hp
 refine (ah ?_).trans ?_
 ·simp only [List.all_cons,List.all_nil,Bool.and_true,Bool.and_eq_true]
  exact ⟨decide_eq_true ⟨rfl,hp'.1,hp'.2,rfl⟩,rfl,rfl,rfl⟩
 ·show some (⟨pI,((elemOf (lay [0,0,0,0] (lst (dX a k.toNat)) 4 0),()),())⟩:fq.Y)=some ⟨pI,((dX a k.toNat,()),())⟩
  rw [aHT _ _ rfl rfl]
  rfl
def ul:cj:=(fq.aI ry aaa)
theorem Vo:ac Tryz.prog 136 ul:=aoC
theorem Vn:aG ul:=aB
def ql:Env:=ay 136 ul GK
theorem nX:aQ Tryz.prog ql:=ag Vo xU
theorem yJ:ax ql:=ae Vn H4
theorem DI:aW Tryz.prog te ql:=aL follows ar nX yJ
end Go.Proofs.YtohjofabochgfaaGreat

namespace Go.Proofs.YtohjofabochgfaaGreat
open Sx Go
def bZ (k:aa):Bool:=(k.w0==0&&(k.w1==0&&(k.w2==0&&(k.w3==0&&true))))
def aJ1 (k:aa):Bool:=(k.w0&&&1==1)
theorem oc (k:aa):bZ k=Nat.beq k.nat 0:=by
 unfold bZ Sx.aa.nat
 have e:∀ x:UInt64,(x==0)=decide (x.toNat=0):=λx=>by
  by_cases h:x=0
  ·subst h;rfl
  ·have h':¬x.toNat=0:=λh'=>h (UInt64.toNat_inj.1 h')
   rw [decide_eq_false h']
   simpa using h
 rw [e,e,e,e]
 generalize k.w0.toNat=a
 generalize k.w1.toNat=b
 generalize k.w2.toNat=c
 generalize k.w3.toNat=d
 by_cases h:a=0/\b=0/\c=0/\d=0
 ·obtain ⟨rfl,rfl,rfl,rfl⟩:=h
  rfl
 ·have h1:¬(a+18446744073709551616*(b+18446744073709551616*(c+18446744073709551616*d))=0):=λh1=>h (by omega)
  have h2:Nat.beq (a+18446744073709551616*(b+18446744073709551616*(c+18446744073709551616*d))) 0=false:=by
   cases hb:Nat.beq (a+18446744073709551616*(b+18446744073709551616*(c+18446744073709551616*d))) 0
   ·rfl
   ·exact absurd (Nat.eq_of_beq_eq_true hb) h1
  rw [h2]
  by_cases ha:a=0
  ·by_cases hb:b=0
   ·by_cases hc:c=0
    ·have hd:¬d=0:=λhd=>h ⟨ha,hb,hc,hd⟩
     simp [hd]
    ·simp [hc]
   ·simp [hb]
  ·simp [ha]
theorem aAP (k:aa):aJ1 k=Nat.beq (k.nat%2) 1:=by
 have e:(k.w0&&&1).toNat=k.w0.toNat%2:=by
  rw [UInt64.toNat_and]
  exact Nat.and_two_pow_sub_one_eq_mod k.w0.toNat 1
 have e2:k.nat%2=k.w0.toNat%2:=by
  unfold Sx.aa.nat
  rw [aeA]
 rw [e2,<-e]
 unfold aJ1
 by_cases h:k.w0&&&1=1
 ·rw [h];rfl
 ·have h':¬(k.w0&&&1).toNat=1:=λh'=>h (UInt64.toNat_inj.1 h')
  have h2:Nat.beq (k.w0&&&1).toNat 1=false:=by
   cases hb:Nat.beq (k.w0&&&1).toNat 1
   ·rfl
   ·exact absurd (Nat.eq_of_beq_eq_true hb) h'
  rw [h2]
  simpa using h
theorem ZC (k:aa):(dr k).nat=k.nat/2:=by
 have:=jz k
 exact kx (by omega)
def aAC (p:Nat):Nat->aa->aa->aa->aa
 |0,o,_,_=>o
 |n+1,o,x,k=>cond (bZ k) o (aAC p n (cond (aJ1 k) (bP p o x) o) (bP p x x) (dr k))
def aCS (p:Nat):Nat->Nat->Nat->Nat->Nat
 |0,o,_,_=>o
 |n+1,o,x,k=>cond (Nat.beq k 0) o (aCS p n (cond (Nat.beq (k%2) 1) (o*x%p) o) (x*x%p) (k/2))
theorem atW {p:Nat} (hp:0<p/\p<57896044618658097711785492504343953926634992332820282019728792003956564819968):∀ (n:Nat) (o x k:aa),aAC p n o x k=ofN (aCS p n o.nat x.nat k.nat)
 |0,o,x,k=>(wB o).symm
 |n+1,o,x,k=>by
  have e:∀ a b:aa,(bP p a b).nat=a.nat*b.nat%p:=λa b=>dy hp
  simp only [aAC,aCS,oc,aAP]
  cases Nat.beq k.nat 0
  ·simp only [cond_false]
   rw [atW hp n,e,ZC]
   cases Nat.beq (k.nat%2) 1
   ·rfl
   ·simp only [cond_true,e]
  ·simp only [cond_true]
   exact (wB o).symm
def gX (p:Nat) (a k:aa):aa:=cond (Nat.beq p 0) ⟨0,0,0,0⟩ (ofN (aCS p 256 1 (a.nat%p) k.nat))
theorem Vy {p:Nat} (hp:0<p) (a k:aa):gX p a k=ofN (aCS p 256 1 (a.nat%p) k.nat):=by
 unfold gX
 cases p with
 |zero=>exact absurd hp (Nat.lt_irrefl _)
 |succ p=>rfl
end Go.Proofs.YtohjofabochgfaaGreat

namespace Go.Proofs.YtohjofabochgfaaGreat
open Sx Go
set_option maxRecDepth 100000
def nK:aw:=⟨[.val false .int,.val true .elem,.val true .elem],[],true,0,false⟩
abbrev aad:Type:=((Int)×(aa)×(aa)×Unit)×(Unit)
def My:Shape:=⟨40,[(4,.ptr 0 0 0),(5,.ptr 1 0 0),(6,.ptr 2 0 0),(7,.ptr 3 0 0),(9,.ptr 4 0 0)],[(0,.row .u64),(1,.row .u64),(2,.row .u64),(3,.cells [.val false .u64,.val false .u64,.val false .u64,.val false .u64,.val false .int,.val false .u64,.val false .u64,.val false .u64,.val false .u64,.val false .u64,.val false .u64]),(4,.row .u64)],0,true⟩
abbrev dS:Type:=((Unit)×(Unit)×(Unit)×(Unit)×(Unit)×Unit)×((List (UInt64))×(List (UInt64))×(List (UInt64))×((UInt64)×(UInt64)×(UInt64)×(UInt64)×(Int)×(UInt64)×(UInt64)×(UInt64)×(UInt64)×(UInt64)×(UInt64)×Unit)×(List (UInt64))×Unit)
def Cu:Shape:=⟨40,[(6,.ptr 0 0 0),(9,.ptr 1 0 0)],[(0,.row .u64),(1,.row .u64)],0,true⟩
abbrev pK:Type:=((Unit)×(Unit)×Unit)×((List (UInt64))×(List (UInt64))×Unit)
def avx:SE->Option Shape:=fc [(0,Cu)] none
def aGZ (c0:List (UInt64)) (c1:List (UInt64)) (c2:List (UInt64)) (c3_0:UInt64) (c3_1:UInt64) (c3_2:UInt64) (c3_3:UInt64) (c3_4:Int) (c3_5:UInt64) (c3_6:UInt64) (c3_7:UInt64) (c3_8:UInt64) (c3_9:UInt64) (c3_10:UInt64) (c4:List (UInt64)):OT (Sum dS aE):=
 let z0:Nat:=List.length c1
 let z1:Bool:=decide (4<=z0)
 let z2:UInt64:=List.getD c1 0 0
 let z3:UInt64:=List.getD c1 1 0
 let z4:UInt64:=List.getD c1 2 0
 let z5:UInt64:=List.getD c1 3 0
 let z6:Nat:=List.length c4
 let z7:Nat:=List.length c0
 let z8:Bool:=decide (4<=z7)
 let z9:aa:= {w0:=c3_0,w1:=c3_1,w2:=c3_2,w3:=c3_3}
 let z10:aa×Int×UInt64×UInt64×aa:=(z9,c3_4,c3_5,c3_6,{w0:=c3_7,w1:=c3_8,w2:=c3_9,w3:=c3_10})
 let z11:aa:= {w0:=List.getD c4 0 0,w1:=List.getD c4 1 0,w2:=List.getD c4 2 0,w3:=List.getD c4 3 0}
 let z12:aa:= {w0:=List.getD c0 0 0,w1:=List.getD c0 1 0,w2:=List.getD c0 2 0,w3:=List.getD c0 3 0}
 let z13:aa×PUnit:=(z12,())
 let z14:Bool:=gj ((z10,z12,z13),())
 let z15:Bool:=decide ((4/1:Nat)+0<=z7)
 let z16:Bool:=decide ((4/1:Nat)+0<=z0)
 let z17:Nat:=aa.nat z9
 let z18:aa:=bP z17 z12 z12
 let z19:List UInt64:=List.set (List.set (List.set (List.set c0 0 z18.w0) 1 z18.w1) 2 z18.w2) 3 z18.w3
 let z20:aa:=dr {w0:=z2,w1:=z3,w2:=z4,w3:=z5}
 let z21:List UInt64:=List.set (List.set (List.set (List.set c1 0 z20.w0) 1 z20.w1) 2 z20.w2) 3 z20.w3
 let z22:aa:=bP z17 z11 z12
 (gd [z1] (.br (!(z2==(0:UInt64)&&(z3==(0:UInt64)&&(z4==(0:UInt64)&&(z5==(0:UInt64)&&true)))))
 (gd [decide (0<z0)] (.br (z2&&&(1:UInt64)==(1:UInt64))
  (gd [decide (4<=z6),z8,gj ((z10,z11,z13),()),decide ((4/1:Nat)+0<=z6),z8,z8,z14,z15,z1,z16] (.ok (.inl (((),((),((),((),((),()))))),(z19,(z21,(c2,((c3_0,(c3_1,(c3_2,(c3_3,(c3_4,(c3_5,(c3_6,(c3_7,(c3_8,(c3_9,(c3_10,()))))))))))),(List.set (List.set (List.set (List.set c4 0 z22.w0) 1 z22.w1) 2 z22.w2) 3 z22.w3,())))))))))
  (gd [z8,z8,z14,z15,z1,z16] (.ok (.inl (((),((),((),((),((),()))))),(z19,(z21,(c2,((c3_0,(c3_1,(c3_2,(c3_3,(c3_4,(c3_5,(c3_6,(c3_7,(c3_8,(c3_9,(c3_10,()))))))))))),(c4,())))))))))))
 (.ok (.inr ⟨(.exit 0,Cu),(((),((),())),(c2,(c4,())))⟩))))
def Mz (s:dS):OT (Sum dS aE):=aGZ (s.2.1) (s.2.2.1) (s.2.2.2.1) (s.2.2.2.2.1.1) (s.2.2.2.2.1.2.1) (s.2.2.2.2.1.2.2.1) (s.2.2.2.2.1.2.2.2.1) (s.2.2.2.2.1.2.2.2.2.1) (s.2.2.2.2.1.2.2.2.2.2.1) (s.2.2.2.2.1.2.2.2.2.2.2.1) (s.2.2.2.2.1.2.2.2.2.2.2.2.1) (s.2.2.2.2.1.2.2.2.2.2.2.2.2.1) (s.2.2.2.2.1.2.2.2.2.2.2.2.2.2.1) (s.2.2.2.2.1.2.2.2.2.2.2.2.2.2.2.1) (s.2.2.2.2.2.1)
theorem aGX (s:dS) (Q:Sum dS aE->Prop):wps te ql av 1000 (aU (aj Tryz.f137) 0) (My.inj s) (bU My avx (Q:Sum My.T aE->Prop))=(Mz s).wpR Q:=by kernel_rfl
def Vr (g0_0:dS->pK) (s:dS):OT aE:=(.ok ⟨(.exit 0,Cu),g0_0 s⟩)
def FM:az:=⟨[.val true .elem],[],false⟩
def akJ:SV->Option az:=λ_=>some FM
def avC (ok0:dS->Bool) (g0_0:dS->pK) (a0:Int) (a1:aa) (a2:aa):OT nK.Y:=
 let z0:aa×Int×UInt64×UInt64×aa:=aY (Int.toNat a0)
 let z1:=z0.fst
 let z2:aa:=ofN (aa.nat a1%aa.nat z1)
 let z3:=z0.snd
 let z4:=z3.snd
 let z5:=z4.snd
 let z6:=z5.snd
 let z7:(PUnit×PUnit×PUnit×PUnit×PUnit×PUnit)×List UInt64×List UInt64×List UInt64×(UInt64×UInt64×UInt64×UInt64×Int×UInt64×UInt64×UInt64×UInt64×UInt64×UInt64×PUnit)×List UInt64×PUnit:=(((),(),(),(),(),()),[z2.w0,z2.w1,z2.w2,z2.w3],[a2.w0,a2.w1,a2.w2,a2.w3],[(0:UInt64),(0:UInt64),(0:UInt64),(0:UInt64)],(z1.w0,z1.w1,z1.w2,z1.w3,z3.fst,z4.fst,z5.fst,z6.w0,z6.w1,z6.w2,z6.w3,()),[(1:UInt64),(0:UInt64),(0:UInt64),(0:UInt64)],())
 let z8:=(g0_0 z7).snd
 let z9:=z8.snd.fst
 let z10:=z8.fst
 let z11:List UInt64:=lay z10 z9 4 (0:UInt64)
 (.br (ap a0)
 (gd [gG ((z0,a1,()),()),ok0 z7,decide (4<=List.length z9),decide ((4/1:Nat)+0<=List.length z10),decide (4<=List.length z11)] (.ok ⟨FM,(({w0:=List.getD z11 0 0,w1:=List.getD z11 1 0,w2:=List.getD z11 2 0,w3:=List.getD z11 3 0},()),())⟩))
 (.ok ⟨FM,(({w0:=0,w1:=0,w2:=0,w3:=0},()),())⟩))
theorem aJo (ok0:dS->Bool) (g0_0:dS->pK) (x:aad) (Q:nK.Y->Prop):wpf te ql (aO 0 (cf My 0 ok0 (Vr g0_0)) av) 1000 Tryz.f137 (nK.inp.inj x).tm (nK.inp.inj x).hp (fnK nK akJ Q) (λ_ _=>False)=(avC ok0 g0_0 (x.1.1) (x.1.2.1) (x.1.2.2.1)).wpR Q:=by kernel_rfl
theorem avz (ok0:dS->Bool) (g0_0:dS->pK) (h0:∀ s:dS,ok0 s=true->∃ m e,al (Mz) m s=some e/\(Vr g0_0 s).run=some e) (pre:aad->Bool) (F:aad->OT nK.Y) (hF:∀ (x:aad) oy,pre x=true->(F x).run=some oy->(avC ok0 g0_0 (x.1.1) (x.1.2.1) (x.1.2.2.1)).run=some oy):ac Tryz.prog 137 (nK.aI pre F):=
 aD ar nX DI (f:=137) (fn:=Tryz.f137) (c:=aj Tryz.f137) (by kernel_rfl) (by kernel_rfl) (by kernel_rfl) (S:=nK) (k:=0) (by kernel_rfl) (λR hR=>(aA (c:=(aj Tryz.f137)) (by kernel_rfl) (id:=0) (by kernel_rfl) (aP ar nX DI (sh:=My) hR (xs:=avx) (aC (by kernel_rfl) (by kernel_rfl) hR) aM af (n:=1000) (T:=Mz) (λs Q=>aGX s Q) (ok:=ok0) (f:=Vr g0_0) h0) af)) (n:=1000) (sel:=akJ) (λv o h=>by cases h;rfl) (pre:=pre) (F:=F) (T:=λx=>avC ok0 g0_0 (x.1.1) (x.1.2.1) (x.1.2.2.1)) (λx Q=>aJo ok0 g0_0 x Q) hF
theorem avA {x0 x1 x2 x3 x5 x6 x7 x8 x9 x10:UInt64} {x4:Int} {c2:List UInt64} (hn:kw (⟨x0,x1,x2,x3⟩,x4,x5,x6,⟨x7,x8,x9,x10⟩)=true):∀ (n:Nat) (o x k:aa),k.nat<2^n->
 ∃ m,al Mz m (((),(),(),(),(),()),(lst x,lst k,c2,(x0,x1,x2,x3,x4,x5,x6,x7,x8,x9,x10,()),lst o,()))=some ⟨(.exit 0,Cu),(((),(),()),(c2,lst (aAC (aa.mk x0 x1 x2 x3).nat n o x k),()))⟩:=by
 intro n
 induction n with
 |zero=>
  intro o x k hk
  have hz:(!bZ k)=false:=by
   rw [oc,show k.nat=0 by omega]
   rfl
  exact ⟨1,aK ((ah rfl).trans (OT.aq hz))⟩
 |succ n ih=>
  intro o x k hk
  cases hz:bZ k
  ·have hk2:(dr k).nat<2^n:=by
    rw [ZC]
    rw [Nat.pow_succ] at hk
    omega
   have hz':(!bZ k)=true:=by rw [hz];rfl
   cases ho:aJ1 k
   ·obtain ⟨m,hm⟩:=ih o (bP (aa.mk x0 x1 x2 x3).nat x x) (dr k) hk2
    simp only [aAC,hz,ho,cond_false]
    refine ⟨m+1,aF ?_ hm⟩
    refine (ah rfl).trans ((OT.ao hz').trans ((ah rfl).trans ((OT.aq ho).trans ((ah ?_).trans rfl))))
    simp only [List.all_cons,List.all_nil,Bool.and_true,Bool.and_eq_true]
    exact ⟨rfl,rfl,hn,rfl,rfl,rfl⟩
   ·obtain ⟨m,hm⟩:=ih (bP (aa.mk x0 x1 x2 x3).nat o x) (bP (aa.mk x0 x1 x2 x3).nat x x) (dr k) hk2
    simp only [aAC,hz,ho,cond_false,cond_true]
    refine ⟨m+1,aF ?_ hm⟩
    refine (ah rfl).trans ((OT.ao hz').trans ((ah rfl).trans ((OT.ao ho).trans ((ah ?_).trans rfl))))
    simp only [List.all_cons,List.all_nil,Bool.and_true,Bool.and_eq_true]
    exact ⟨rfl,rfl,hn,rfl,rfl,rfl,hn,rfl,rfl,rfl⟩
  ·simp only [aAC,hz,cond_true]
   have hz':(!bZ k)=false:=by rw [hz];rfl
   exact ⟨1,aK ((ah rfl).trans (OT.aq hz'))⟩
def aKx (s:dS):PC:=(⟨s.2.2.2.2.1.1,s.2.2.2.2.1.2.1,s.2.2.2.2.1.2.2.1,s.2.2.2.2.1.2.2.2.1⟩,s.2.2.2.2.1.2.2.2.2.1,s.2.2.2.2.1.2.2.2.2.2.1,s.2.2.2.2.1.2.2.2.2.2.2.1,⟨s.2.2.2.2.1.2.2.2.2.2.2.2.1,s.2.2.2.2.1.2.2.2.2.2.2.2.2.1,s.2.2.2.2.1.2.2.2.2.2.2.2.2.2.1,s.2.2.2.2.1.2.2.2.2.2.2.2.2.2.2.1⟩)
def Vq (s:dS):Bool:=kw (aKx s)&&decide (s.2.1.length=4/\s.2.2.1.length=4/\s.2.2.2.2.2.1.length=4)
def avB (s:dS):pK:=(((),(),()),(s.2.2.2.1,lst (aAC (aKx s).1.nat 256 (elemOf s.2.2.2.2.2.1) (elemOf s.2.1) (elemOf s.2.2.1)),()))
theorem aGY:∀ s:dS,Vq s=true->∃ m e,al Mz m s=some e/\(Vr avB s).run=some e:=by
 rintro ⟨⟨⟨⟩,⟨⟩,⟨⟩,⟨⟩,⟨⟩,⟨⟩⟩,⟨c0,c1,c2,⟨x0,x1,x2,x3,x4,x5,x6,x7,x8,x9,x10,⟨⟩⟩,c4,⟨⟩⟩⟩ h
 simp only [Vq,Bool.and_eq_true,decide_eq_true_eq,aKx] at h
 obtain ⟨hn,h0,h1,h4⟩:=h
 obtain ⟨x,rfl⟩:∃ a,c0=lst a:=⟨elemOf c0,(aS h0).symm⟩
 obtain ⟨k,rfl⟩:∃ a,c1=lst a:=⟨elemOf c1,(aS h1).symm⟩
 obtain ⟨o,rfl⟩:∃ a,c4=lst a:=⟨elemOf c4,(aS h4).symm⟩
 obtain ⟨m,hm⟩:=avA (c2:=c2) hn 256 o x k (jz k)
 exact ⟨m,_,hm,rfl⟩
def akK (_:aad):Bool:=true
def aDc (x:aad):OT nK.Y:=.br (ap x.1.1) (.ok ⟨FM,((gX (pS x.1.1) x.1.2.1 x.1.2.2.1,()),())⟩) (.ok ⟨FM,((⟨0,0,0,0⟩,()),())⟩)
theorem aBA {p:Nat} (hp:0<p/\p<57896044618658097711785492504343953926634992332820282019728792003956564819968) (a k:aa):elemOf (lay [0,0,0,0] (lst (aAC p 256 ⟨1,0,0,0⟩ (ofN (a.nat%p)) k)) 4 0)=gX p a k:=by
 rw [aHT _ _ rfl rfl,aoX,atW hp,dy hp,Vy hp.1]
 rfl
theorem avy:ac Tryz.prog 137 (nK.aI akK aDc):=avz Vq avB aGY _ _ λx oy hp ho=>by
 rw [<-ho]
 clear ho
 obtain ⟨⟨s,a,k,⟨⟩⟩,⟨⟩⟩:=x
 cases hs:ap s
 ·exact (OT.aq hs).trans (OT.aq (b:=ap s) hs).symm
 ·have hn:=iY hs
  have hfin:=aBA (tF hs) a k
  have hn2:kw (aY s.toNat)=true:=hn
  refine (OT.ao hs).trans (Eq.trans ?_ (OT.ao (b:=ap s) hs).symm)
  simp only [<-hfin]
  refine (ah ?_).trans rfl
  simp only [List.all_cons,List.all_nil,Bool.and_true,Bool.and_eq_true]
  refine ⟨hn,?_,rfl,rfl,rfl⟩
  show (kw _&&decide _)=true
  rw [Bool.and_eq_true]
  exact ⟨hn,decide_eq_true ⟨rfl,rfl,rfl⟩⟩
def Mx:cj:=(nK.aI akK aDc)
theorem aoH:ac Tryz.prog 137 Mx:=avy
theorem aoG:aG Mx:=aB
def abM:Env:=ay 137 Mx ql
theorem Ov:aQ Tryz.prog abM:=ag aoH nX
theorem Ow:ax abM:=ae aoG yJ
theorem apX:aW Tryz.prog te abM:=aL follows ar Ov Ow
def uk:aw:=⟨[.val false .int,.val true .elem],[],true,0,false⟩
abbrev aoA:Type:=((Int)×(aa)×Unit)×(Unit)
def uj:az:=⟨[.val true .elem,.val false .int],[],false⟩
def akH:SV->Option az:=λ_=>some uj
def avt (a0:Int) (a1:aa):OT uk.Y:=
 let z0:Bool:=ap a0
 let z1:aa×Int×UInt64×UInt64×aa:=aY (Int.toNat a0)
 let z2:=z1.fst
 let z3:aa:=ofN (aa.nat a1%aa.nat z2)
 let z4:aa:= {w0:=0,w1:=0,w2:=0,w3:=0}
 (.br (z0)
 (gd [gG ((z1,a1,()),())] (.br (z3.w0==(0:UInt64)&&(z3.w1==(0:UInt64)&&(z3.w2==(0:UInt64)&&(z3.w3==(0:UInt64)&&true))))
  (.ok ⟨uj,((z4,((10:Int),())),())⟩)
  (.br (z0)
   (.ok ⟨uj,((gX (pS a0) a1 (eE z2 {w0:=2,w1:=0,w2:=0,w3:=0}).fst,((0:Int),())),())⟩)
   (.ok ⟨uj,((z4,((0:Int),())),())⟩))))
 (.ok ⟨uj,((z4,((20:Int),())),())⟩))
theorem aJn (x:aoA) (Q:uk.Y->Prop):wpf te abM av 1000 Tryz.f121 (uk.inp.inj x).tm (uk.inp.inj x).hp (fnK uk akH Q) (λ_ _=>False)=(avt (x.1.1) (x.1.2.1)).wpR Q:=by kernel_rfl
theorem avs (pre:aoA->Bool) (F:aoA->OT uk.Y) (hF:∀ (x:aoA) oy,pre x=true->(F x).run=some oy->(avt (x.1.1) (x.1.2.1)).run=some oy):ac Tryz.prog 121 (uk.aI pre F):=
 aD ar Ov apX (f:=121) (fn:=Tryz.f121) (c:=aj Tryz.f121) (by kernel_rfl) (by kernel_rfl) (by kernel_rfl) (S:=uk) (k:=0) (by kernel_rfl) (λR hR=>af) (n:=1000) (sel:=akH) (λv o h=>by cases h;rfl) (pre:=pre) (F:=F) (T:=λx=>avt (x.1.1) (x.1.2.1)) (λx Q=>aJn x Q) hF
def aI3 (p:Nat) (a:aa):aa:=ofN (aCS p 256 1 (a.nat%p) (p-2))
theorem aCU {s:Int} (h:ap s=true):2<=pS s:=by
 rcases cy h with rfl|rfl|rfl|rfl<;>decide+kernel
theorem aGx {s:Int} (h:ap s=true) (a:aa):gX (pS s) a (eE (aY s.toNat).1 ⟨2,0,0,0⟩).1=aI3 (pS s) a:=by
 rw [Vy (tF h).1]
 unfold aI3
 have h2:2<=(aY s.toNat).1.nat:=aCU h
 rw [m6 (show (aa.mk 2 0 0 0).nat<=_ from h2)]
 rfl
theorem axy {p:Nat} (hp:0<p/\p<57896044618658097711785492504343953926634992332820282019728792003956564819968) (n:Nat):bZ (ofN (n%p))=Nat.beq (n%p) 0:=by
 rw [oc,dy hp]
def akI (_:aoA):Bool:=true
def aDb (x:aoA):OT uk.Y:=.br (ap x.1.1) (.br (Nat.beq (x.1.2.1.nat%pS x.1.1) 0) (.ok ⟨uj,((⟨0,0,0,0⟩,((10:Int),())),())⟩) (.ok ⟨uj,((aI3 (pS x.1.1) x.1.2.1,((0:Int),())),())⟩))
 (.ok ⟨uj,((⟨0,0,0,0⟩,((20:Int),())),())⟩)
theorem aGV:ac Tryz.prog 121 (uk.aI akI aDb):=avs _ _ λx oy hp ho=>by
 rw [<-ho]
 clear ho
 obtain ⟨⟨s,a,⟨⟩⟩,⟨⟩⟩:=x
 cases hs:ap s
 ·exact (OT.aq hs).trans (OT.aq (b:=ap s) hs).symm
 ·have hz:bZ (ofN (a.nat%pS s))=Nat.beq (a.nat%pS s) 0:=axy (tF hs) _
  refine (OT.ao hs).trans (Eq.trans ((ah ?_).trans ?_) (OT.ao (b:=ap s) hs).symm)
  ·simp only [List.all_cons,List.all_nil,Bool.and_true]
   exact iY hs
  ·cases hb:Nat.beq (a.nat%pS s) 0
   ·rw [hb] at hz
    refine (OT.aq hz).trans ((OT.ao hs).trans (Eq.trans ?_ (OT.aq rfl).symm))
    simp only [aGx hs]
   ·rw [hb] at hz
    exact (OT.ao hz).trans (OT.ao rfl).symm
def Ms:cj:=(uk.aI akI aDb)
theorem aoz:ac Tryz.prog 121 Ms:=aGV
theorem aoy:aG Ms:=aB
def abL:Env:=ay 121 Ms abM
theorem Oq:aQ Tryz.prog abL:=ag aoz Ov
theorem Ot:ax abL:=ae aoy Ow
theorem apW:aW Tryz.prog te abL:=aL follows ar Oq Ot
def jo:aw:=⟨[.val false .int],[],true,0,false⟩
abbrev FX:Type:=((Int)×Unit)×(Unit)
def jn:az:=⟨[.val true .elem,.val false .bool],[],false⟩
def R0:SV->Option az:=λ_=>some jn
def VQ (a0:Int):OT jo.Y:=
 let z0:aa:= {w0:=5,w1:=0,w2:=0,w3:=0}
 let z1:aa:= {w0:=0,w1:=0,w2:=0,w3:=0}
 (.br (a0==(0:Int))
 (.ok ⟨jn,(({w0:=23,w1:=0,w2:=0,w3:=0},(true,())),())⟩)
 (.br (a0==(1:Int))
  (.ok ⟨jn,(({w0:=21,w1:=0,w2:=0,w3:=0},(true,())),())⟩)
  (.br (a0==(2:Int))
   (.br (a0==(2:Int))
    (.ok ⟨jn,((z0,(true,())),())⟩)
    (.ok ⟨jn,((z1,(false,())),())⟩))
   (.br (a0==(3:Int))
    (.ok ⟨jn,((z0,(true,())),())⟩)
    (.ok ⟨jn,((z1,(false,())),())⟩)))))
theorem aBU (x:FX) (Q:jo.Y->Prop):wpf te abL av 1000 Tryz.f85 (jo.inp.inj x).tm (jo.inp.inj x).hp (fnK jo R0 Q) (λ_ _=>False)=(VQ (x.1.1)).wpR Q:=by kernel_rfl
theorem afv (pre:FX->Bool) (F:FX->OT jo.Y) (hF:∀ (x:FX) oy,pre x=true->(F x).run=some oy->(VQ (x.1.1)).run=some oy):ac Tryz.prog 85 (jo.aI pre F):=
 aD ar Oq apW (f:=85) (fn:=Tryz.f85) (c:=aj Tryz.f85) (by kernel_rfl) (by kernel_rfl) (by kernel_rfl) (S:=jo) (k:=0) (by kernel_rfl) (λR hR=>af) (n:=1000) (sel:=R0) (λv o h=>by cases h;rfl) (pre:=pre) (F:=F) (T:=λx=>VQ (x.1.1)) (λx Q=>aBU x Q) hF
def bOf:Nat->aa
 |0=>⟨23,0,0,0⟩
 |1=>⟨21,0,0,0⟩
 |_=>⟨5,0,0,0⟩
abbrev bS (s:Int):aa:=bOf s.toNat
def R3 (_:FX):Bool:=true
def alb (x:FX):OT jo.Y:=.br (ap x.1.1) (.ok ⟨jn,((bS x.1.1,(true,())),())⟩) (.ok ⟨jn,((⟨0,0,0,0⟩,(false,())),())⟩)
theorem aws:ac Tryz.prog 85 (jo.aI R3 alb):=afv _ _ λx oy _ ho=>by
 rw [<-ho]
 clear ho
 obtain ⟨⟨s,⟨⟩⟩,⟨⟩⟩:=x
 cases hs:ap s
 ·obtain ⟨h0,h1,h2,h3⟩:=vz hs
  exact (OT.aq h0).trans ((OT.aq h1).trans ((OT.aq h2).trans ((OT.aq h3).trans (OT.aq (b:=ap s) hs).symm)))
 ·rcases cy hs with h|h|h|h
  all_goals
   have h:s=_:=h
   subst h
   rfl
def zS:cj:=(jo.aI R3 alb)
theorem aaK:ac Tryz.prog 85 zS:=aws
theorem aaJ:aG zS:=aB
def DS:Env:=ay 85 zS abL
theorem Aq:aQ Tryz.prog DS:=ag aaK Oq
theorem DR:ax DS:=ae aaJ Ot
theorem abV:aW Tryz.prog te DS:=aL follows ar Aq DR
def uE:aw:=⟨[],[],true,0,false⟩
abbrev apg:Type:=(Unit)×(Unit)
def afp:az:=⟨[.val true (.prod .elem (.prod .elem .bool))],[],false⟩
def ak8:SV->Option az:=λ_=>some afp
def awl:OT uE.Y:=
 let z0:aa:= {w0:=0,w1:=0,w2:=0,w3:=0}
 (.ok ⟨afp,(((z0,z0,true),()),())⟩)
theorem aJB (x:apg) (Q:uE.Y->Prop):wpf te DS av 1000 Tryz.f79 (uE.inp.inj x).tm (uE.inp.inj x).hp (fnK uE ak8 Q) (λ_ _=>False)=(awl).wpR Q:=by kernel_rfl
theorem awk (pre:apg->Bool) (F:apg->OT uE.Y) (hF:∀ (x:apg) oy,pre x=true->(F x).run=some oy->(awl).run=some oy):ac Tryz.prog 79 (uE.aI pre F):=
 aD ar Aq abV (f:=79) (fn:=Tryz.f79) (c:=aj Tryz.f79) (by kernel_rfl) (by kernel_rfl) (by kernel_rfl) (S:=uE) (k:=0) (by kernel_rfl) (λR hR=>af) (n:=1000) (sel:=ak8) (λv o h=>by cases h;rfl) (pre:=pre) (F:=F) (T:=λx=>awl) (λx Q=>aJB x Q) hF
def cO:aa×(aa×Bool):=(⟨0,0,0,0⟩,⟨0,0,0,0⟩,true)
def ak9 (_:apg):Bool:=true
def aDl (_:apg):OT uE.Y:=.ok ⟨afp,((cO,()),())⟩
theorem aHq:ac Tryz.prog 79 (uE.aI ak9 aDl):=awk _ _ λx oy _ ho=>ho
def MW:cj:=(uE.aI ak9 aDl)
theorem apf:ac Tryz.prog 79 MW:=aHq
theorem ape:aG MW:=aB
def abU:Env:=ay 79 MW DS
theorem OI:aQ Tryz.prog abU:=ag apf Aq
theorem OJ:ax abU:=ae ape DR
theorem ap1:aW Tryz.prog te abU:=aL follows ar OI OJ
def mG:aw:=⟨[.val false .int,.val true .elem,.val true .elem],[],true,0,false⟩
abbrev RZ:Type:=((Int)×(aa)×(aa)×Unit)×(Unit)
def jZ:az:=⟨[.val true .elem],[],false⟩
def aaI:SV->Option az:=λ_=>some jZ
def afu (a0:Int) (a1:aa) (a2:aa):OT mG.Y:=
 let z0:Bool:=ap a0
 let z1:Nat:=pS a0
 let z2:aa:= {w0:=0,w1:=0,w2:=0,w3:=0}
 let z3:aa:=Gg z1 z2 a2
 (.br (z0)
 (.br (z0)
  (.br (z0)
   (.ok ⟨jZ,((Gg z1 (bP z1 (bP z1 a1 a1) a1) a2,()),())⟩)
   (.ok ⟨jZ,((z2,()),())⟩))
  (.br (z0)
   (.ok ⟨jZ,((z3,()),())⟩)
   (.ok ⟨jZ,((z2,()),())⟩)))
 (.br (z0)
  (.br (z0)
   (.ok ⟨jZ,((Gg z1 (bP z1 z2 a1) a2,()),())⟩)
   (.ok ⟨jZ,((z2,()),())⟩))
  (.br (z0)
   (.ok ⟨jZ,((z3,()),())⟩)
   (.ok ⟨jZ,((z2,()),())⟩))))
theorem aHr (x:RZ) (Q:mG.Y->Prop):wpf te abU av 1000 Tryz.f87 (mG.inp.inj x).tm (mG.inp.inj x).hp (fnK mG aaI Q) (λ_ _=>False)=(afu (x.1.1) (x.1.2.1) (x.1.2.2.1)).wpR Q:=by kernel_rfl
theorem apj (pre:RZ->Bool) (F:RZ->OT mG.Y) (hF:∀ (x:RZ) oy,pre x=true->(F x).run=some oy->(afu (x.1.1) (x.1.2.1) (x.1.2.2.1)).run=some oy):ac Tryz.prog 87 (mG.aI pre F):=
 aD ar OI ap1 (f:=87) (fn:=Tryz.f87) (c:=aj Tryz.f87) (by kernel_rfl) (by kernel_rfl) (by kernel_rfl) (S:=mG) (k:=0) (by kernel_rfl) (λR hR=>af) (n:=1000) (sel:=aaI) (λv o h=>by cases h;rfl) (pre:=pre) (F:=F) (T:=λx=>afu (x.1.1) (x.1.2.1) (x.1.2.2.1)) (λx Q=>aHr x Q) hF
def Cz (p:Nat) (x b:aa):aa:=Gg p (bP p (bP p x x) x) b
def uJ (x:RZ):Bool:=ap x.1.1
def awr (x:RZ):OT mG.Y:=.ok ⟨jZ,((Cz (pS x.1.1) x.1.2.1 x.1.2.2.1,()),())⟩
theorem aBT:ac Tryz.prog 87 (mG.aI uJ awr):=apj _ _ λx oy hp ho=>by
 rw [<-ho]
 clear ho
 obtain ⟨⟨s,a,b,⟨⟩⟩,⟨⟩⟩:=x
 have hs:ap s=true:=hp
 exact (OT.ao hs).trans ((OT.ao hs).trans ((OT.ao hs).trans rfl))
def FW:cj:=(mG.aI uJ awr)
theorem aft:ac Tryz.prog 87 FW:=aBT
theorem afs:aG FW:=aB
def OL:Env:=ay 87 FW abU
theorem GO:aQ Tryz.prog OL:=ag aft OI
theorem H8:ax OL:=ae afs OJ
theorem agw:aW Tryz.prog te OL:=aL follows ar GO H8
def Ir:aw:=⟨[.val false .int,.val true (.prod .elem (.prod .elem .bool))],[],true,0,false⟩
abbrev aH1:Type:=((Int)×((aa×(aa×Bool)))×Unit)×(Unit)
def yo:az:=⟨[.val false .bool],[],false⟩
def awa:SV->Option az:=λ_=>some yo
def aHk (a0:Int) (a1:(aa×(aa×Bool))):OT Ir.Y:=
 let z0:Bool:=ap a0
 let z1:Nat:=aa.nat (aY (Int.toNat a0)).fst
 let z2:aa:=bS a0
 let z3:Bool:=uJ ((a0,a1.fst,z2,()),())
 let z4:Nat:=pS a0
 let z5:aa:=bP z4 a1.snd.fst a1.snd.fst
 let z6:aa:=Cz z4 a1.fst z2
 let z7:=z6.w0
 let z8:=z6.w1
 let z9:=z6.w2
 let z10:=z6.w3
 (.br (z0)
 (.br (a1.snd.snd)
  (.ok ⟨yo,((a1.fst.w0==(0:UInt64)&&(a1.fst.w1==(0:UInt64)&&(a1.fst.w2==(0:UInt64)&&(a1.fst.w3==(0:UInt64)&&true)))&&(a1.snd.fst.w0==(0:UInt64)&&(a1.snd.fst.w1==(0:UInt64)&&(a1.snd.fst.w2==(0:UInt64)&&(a1.snd.fst.w3==(0:UInt64)&&true)))&&(a1.snd.snd==true&&true)),()),())⟩)
  (.br (z0)
   (.br (Nat.blt (aa.nat a1.fst) z1)
    (.br (Nat.blt (aa.nat a1.snd.fst) z1)
     (.br (z0)
      (gd [z3] (.ok ⟨yo,((z5.w0==z7&&(z5.w1==z8&&(z5.w2==z9&&(z5.w3==z10&&true))),()),())⟩))
      (gd [z3] (.ok ⟨yo,(((0:UInt64)==z7&&((0:UInt64)==z8&&((0:UInt64)==z9&&((0:UInt64)==z10&&true))),()),())⟩)))
     (.ok ⟨yo,((false,()),())⟩))
    (.ok ⟨yo,((false,()),())⟩))
   (.ok ⟨yo,((false,()),())⟩)))
 (.ok ⟨yo,((false,()),())⟩))
theorem aKw (x:aH1) (Q:Ir.Y->Prop):wpf te OL av 1000 Tryz.f47 (Ir.inp.inj x).tm (Ir.inp.inj x).hp (fnK Ir awa Q) (λ_ _=>False)=(aHk (x.1.1) (x.1.2.1)).wpR Q:=by kernel_rfl
theorem aBM (pre:aH1->Bool) (F:aH1->OT Ir.Y) (hF:∀ (x:aH1) oy,pre x=true->(F x).run=some oy->(aHk (x.1.1) (x.1.2.1)).run=some oy):ac Tryz.prog 47 (Ir.aI pre F):=
 aD ar GO agw (f:=47) (fn:=Tryz.f47) (c:=aj Tryz.f47) (by kernel_rfl) (by kernel_rfl) (by kernel_rfl) (S:=Ir) (k:=0) (by kernel_rfl) (λR hR=>af) (n:=1000) (sel:=awa) (λv o h=>by cases h;rfl) (pre:=pre) (F:=F) (T:=λx=>aHk (x.1.1) (x.1.2.1)) (λx Q=>aKw x Q) hF
def eqE (a b:aa):Bool:=(a.w0==b.w0&&(a.w1==b.w1&&(a.w2==b.w2&&(a.w3==b.w3&&true))))
theorem zM {a b:aa}:eqE a b=true ↔ a=b:=by
 obtain ⟨a0,a1,a2,a3⟩:=a
 obtain ⟨b0,b1,b2,b3⟩:=b
 simp [eqE]
theorem akU (a:aa):eqE a a=true:=zM.2 rfl
theorem aG9 (a b:aa):eqE a b=Nat.beq a.nat b.nat:=by
 cases h:eqE a b
 ·cases hb:Nat.beq a.nat b.nat
  ·rfl
  ·rw [zM.2 (rc (Nat.eq_of_beq_eq_true hb))] at h
   cases h
 ·rw [zM.1 h]
  exact (Nat.beq_refl _).symm
abbrev Pt:Type:=aa×(aa×Bool)
def onB (c:Int) (P:Pt):Bool:=cond (ap c) (cond P.2.2 (bZ P.1&&(bZ P.2.1&&(P.2.2==true&&true)))
 (cond (Nat.blt P.1.nat (pS c)) (cond (Nat.blt P.2.1.nat (pS c)) (eqE (bP (pS c) P.2.1 P.2.1) (Cz (pS c) P.1 (bS c))) false) false)) false
def awb (_:aH1):Bool:=true
def aJy (x:aH1):OT Ir.Y:=.ok ⟨yo,((onB x.1.1 x.1.2.1,()),())⟩
theorem aJx:ac Tryz.prog 47 (Ir.aI awb aJy):=aBM _ _ λx oy _ ho=>by
 rw [<-ho]
 clear ho
 obtain ⟨⟨c,⟨X,Y,i⟩,⟨⟩⟩,⟨⟩⟩:=x
 show _=(OT.ok ⟨yo,((onB c (X,Y,i),()),())⟩:OT Ir.Y).run
 unfold onB
 cases hs:ap c
 ·exact OT.aq hs
 ·refine (OT.ao hs).trans ?_
  cases i
  ·refine (OT.aq rfl).trans ((OT.ao hs).trans ?_)
   cases hx:Nat.blt X.nat (pS c)
   ·exact OT.aq hx
   ·refine (OT.ao hx).trans ?_
    cases hy:Nat.blt Y.nat (pS c)
    ·exact OT.aq hy
    ·refine (OT.ao hy).trans ((OT.ao hs).trans ((ah ?_).trans rfl))
     simp only [List.all_cons,List.all_nil,Bool.and_true]
     exact hs
  ·exact OT.ao rfl
theorem Ux {c:Int} {P:Pt} (h:onB c P=true):ap c=true:=by
 unfold onB at h
 cases hs:ap c
 ·rw [hs] at h;cases h
 ·rfl
def VG:cj:=(Ir.aI awb aJy)
theorem awc:ac Tryz.prog 47 VG:=aJx
theorem av9:aG VG:=aB
def axr:Env:=ay 47 VG OL
theorem WD:aQ Tryz.prog axr:=ag awc GO
theorem SL:ax axr:=ae av9 H8
theorem axq:aW Tryz.prog te axr:=aL follows ar WD SL
def jm:aw:=⟨[.val true (.prod .elem (.prod .elem .elem))],[],true,0,false⟩
abbrev FV:Type:=(((aa×(aa×aa)))×Unit)×(Unit)
def MV:az:=⟨[.val false .bool],[],false⟩
def RU:SV->Option az:=λ_=>some MV
def VK (a0:(aa×(aa×aa))):OT jm.Y:=
 (.ok ⟨MV,((a0.snd.snd.w0==(0:UInt64)&&(a0.snd.snd.w1==(0:UInt64)&&(a0.snd.snd.w2==(0:UInt64)&&(a0.snd.snd.w3==(0:UInt64)&&true))),()),())⟩)
theorem aBS (x:FV) (Q:jm.Y->Prop):wpf te axr av 1000 Tryz.f120 (jm.inp.inj x).tm (jm.inp.inj x).hp (fnK jm RU Q) (λ_ _=>False)=(VK (x.1.1)).wpR Q:=by kernel_rfl
theorem afo (pre:FV->Bool) (F:FV->OT jm.Y) (hF:∀ (x:FV) oy,pre x=true->(F x).run=some oy->(VK (x.1.1)).run=some oy):ac Tryz.prog 120 (jm.aI pre F):=
 aD ar WD axq (f:=120) (fn:=Tryz.f120) (c:=aj Tryz.f120) (by kernel_rfl) (by kernel_rfl) (by kernel_rfl) (S:=jm) (k:=0) (by kernel_rfl) (λR hR=>af) (n:=1000) (sel:=RU) (λv o h=>by cases h;rfl) (pre:=pre) (F:=F) (T:=λx=>VK (x.1.1)) (λx Q=>aBS x Q) hF
abbrev Ss:Type:=aa×(aa×aa)
def RV (_:FV):Bool:=true
def ak7 (x:FV):OT jm.Y:=.ok ⟨MV,((bZ x.1.1.2.2,()),())⟩
theorem awj:ac Tryz.prog 120 (jm.aI RV ak7):=afo _ _ λx oy hp ho=>by
 rw [<-ho]
 rfl
def zR:cj:=(jm.aI RV ak7)
theorem aaC:ac Tryz.prog 120 zR:=awj
theorem aaB:aG zR:=aB
def DP:Env:=ay 120 zR axr
theorem Ap:aQ Tryz.prog DP:=ag aaC WD
theorem DO:ax DP:=ae aaB SL
theorem abT:aW Tryz.prog te DP:=aL follows ar Ap DO
def jj:aw:=⟨[.val true (.prod .elem (.prod .elem .bool))],[],true,0,false⟩
abbrev FQ:Type:=(((aa×(aa×Bool)))×Unit)×(Unit)
def Cy:az:=⟨[.val true (.prod .elem (.prod .elem .elem))],[],false⟩
def RN:SV->Option az:=λ_=>some Cy
def VC (a0:(aa×(aa×Bool))):OT jj.Y:=
 let z0:aa:= {w0:=0,w1:=0,w2:=0,w3:=0}
 (.br (a0.snd.snd)
 (.ok ⟨Cy,(((z0,z0,z0),()),())⟩)
 (.ok ⟨Cy,(((a0.fst,a0.snd.fst,{w0:=1,w1:=0,w2:=0,w3:=0}),()),())⟩))
theorem aBK (x:FQ) (Q:jj.Y->Prop):wpf te DP av 1000 Tryz.f82 (jj.inp.inj x).tm (jj.inp.inj x).hp (fnK jj RN Q) (λ_ _=>False)=(VC (x.1.1)).wpR Q:=by kernel_rfl
theorem afj (pre:FQ->Bool) (F:FQ->OT jj.Y) (hF:∀ (x:FQ) oy,pre x=true->(F x).run=some oy->(VC (x.1.1)).run=some oy):ac Tryz.prog 82 (jj.aI pre F):=
 aD ar Ap abT (f:=82) (fn:=Tryz.f82) (c:=aj Tryz.f82) (by kernel_rfl) (by kernel_rfl) (by kernel_rfl) (S:=jj) (k:=0) (by kernel_rfl) (λR hR=>af) (n:=1000) (sel:=RN) (λv o h=>by cases h;rfl) (pre:=pre) (F:=F) (T:=λx=>VC (x.1.1)) (λx Q=>aBK x Q) hF
def lB (P:Pt):Ss:=cond P.2.2 (⟨0,0,0,0⟩,⟨0,0,0,0⟩,⟨0,0,0,0⟩) (P.1,P.2.1,⟨1,0,0,0⟩)
def RO (_:FQ):Bool:=true
def akZ (x:FQ):OT jj.Y:=.ok ⟨Cy,((lB x.1.1,()),())⟩
theorem av2:ac Tryz.prog 82 (jj.aI RO akZ):=afj _ _ λx oy hp ho=>by
 rw [<-ho]
 clear ho
 obtain ⟨⟨⟨X,Y,i⟩,⟨⟩⟩,⟨⟩⟩:=x
 cases i<;>rfl
def zP:cj:=(jj.aI RO akZ)
theorem aas:ac Tryz.prog 82 zP:=av2
theorem aar:aG zP:=aB
def DL:Env:=ay 82 zP DP
theorem An:aQ Tryz.prog DL:=ag aas Ap
theorem DK:ax DL:=ae aar DO
theorem abP:aW Tryz.prog te DL:=aL follows ar An DK
def uC:aw:=⟨[.val false .int,.val true .elem,.val true .elem],[],true,0,false⟩
abbrev apc:Type:=((Int)×(aa)×(aa)×Unit)×(Unit)
def VJ:az:=⟨[.val true .elem],[],false⟩
def ak5:SV->Option az:=λ_=>some VJ
def awg (a0:Int) (a1:aa) (a2:aa):OT uC.Y:=
 (.br (ap a0)
 (.ok ⟨VJ,((bP (pS a0) a1 a2,()),())⟩)
 (.ok ⟨VJ,(({w0:=0,w1:=0,w2:=0,w3:=0},()),())⟩))
theorem aJA (x:apc) (Q:uC.Y->Prop):wpf te DL av 1000 Tryz.f122 (uC.inp.inj x).tm (uC.inp.inj x).hp (fnK uC ak5 Q) (λ_ _=>False)=(awg (x.1.1) (x.1.2.1) (x.1.2.2.1)).wpR Q:=by kernel_rfl
theorem awf (pre:apc->Bool) (F:apc->OT uC.Y) (hF:∀ (x:apc) oy,pre x=true->(F x).run=some oy->(awg (x.1.1) (x.1.2.1) (x.1.2.2.1)).run=some oy):ac Tryz.prog 122 (uC.aI pre F):=
 aD ar An abP (f:=122) (fn:=Tryz.f122) (c:=aj Tryz.f122) (by kernel_rfl) (by kernel_rfl) (by kernel_rfl) (S:=uC) (k:=0) (by kernel_rfl) (λR hR=>af) (n:=1000) (sel:=ak5) (λv o h=>by cases h;rfl) (pre:=pre) (F:=F) (T:=λx=>awg (x.1.1) (x.1.2.1) (x.1.2.2.1)) (λx Q=>aJA x Q) hF
def bK (x:apc):Bool:=ap x.1.1
def aDk (x:apc):OT uC.Y:=.ok ⟨VJ,((bP (pS x.1.1) x.1.2.1 x.1.2.2.1,()),())⟩
theorem aHo:ac Tryz.prog 122 (uC.aI bK aDk):=awf _ _ λx oy hp ho=>by
 rw [<-ho]
 clear ho
 obtain ⟨⟨s,a,b,⟨⟩⟩,⟨⟩⟩:=x
 have hs:ap s=true:=hp
 exact (OT.ao hs).trans rfl
def MU:cj:=(uC.aI bK aDk)
theorem apb:ac Tryz.prog 122 MU:=aHo
theorem apa:aG MU:=aB
def abS:Env:=ay 122 MU DL
theorem OG:aQ Tryz.prog abS:=ag apb An
theorem OH:ax abS:=ae apa DK
theorem ap0:aW Tryz.prog te abS:=aL follows ar OG OH
def uy:aw:=⟨[.val false .int,.val true .elem,.val true .elem],[],true,0,false⟩
abbrev ao5:Type:=((Int)×(aa)×(aa)×Unit)×(Unit)
def VE:az:=⟨[.val true .elem],[],false⟩
def ak2:SV->Option az:=λ_=>some VE
def av7 (a0:Int) (a1:aa) (a2:aa):OT uy.Y:=
 (.br (ap a0)
 (.ok ⟨VE,((JC (pS a0) a1 a2,()),())⟩)
 (.ok ⟨VE,(({w0:=0,w1:=0,w2:=0,w3:=0},()),())⟩))
theorem aJw (x:ao5) (Q:uy.Y->Prop):wpf te abS av 1000 Tryz.f123 (uy.inp.inj x).tm (uy.inp.inj x).hp (fnK uy ak2 Q) (λ_ _=>False)=(av7 (x.1.1) (x.1.2.1) (x.1.2.2.1)).wpR Q:=by kernel_rfl
theorem av6 (pre:ao5->Bool) (F:ao5->OT uy.Y) (hF:∀ (x:ao5) oy,pre x=true->(F x).run=some oy->(av7 (x.1.1) (x.1.2.1) (x.1.2.2.1)).run=some oy):ac Tryz.prog 123 (uy.aI pre F):=
 aD ar OG ap0 (f:=123) (fn:=Tryz.f123) (c:=aj Tryz.f123) (by kernel_rfl) (by kernel_rfl) (by kernel_rfl) (S:=uy) (k:=0) (by kernel_rfl) (λR hR=>af) (n:=1000) (sel:=ak2) (λv o h=>by cases h;rfl) (pre:=pre) (F:=F) (T:=λx=>av7 (x.1.1) (x.1.2.1) (x.1.2.2.1)) (λx Q=>aJw x Q) hF
def jl (x:ao5):Bool:=ap x.1.1
def aDj (x:ao5):OT uy.Y:=.ok ⟨VE,((JC (pS x.1.1) x.1.2.1 x.1.2.2.1,()),())⟩
theorem aHj:ac Tryz.prog 123 (uy.aI jl aDj):=av6 _ _ λx oy hp ho=>by
 rw [<-ho]
 clear ho
 obtain ⟨⟨s,a,b,⟨⟩⟩,⟨⟩⟩:=x
 have hs:ap s=true:=hp
 exact (OT.ao hs).trans rfl
def MQ:cj:=(uy.aI jl aDj)
theorem ao4:ac Tryz.prog 123 MQ:=aHj
theorem ao3:aG MQ:=aB
def abR:Env:=ay 123 MQ abS
theorem OC:aQ Tryz.prog abR:=ag ao4 OG
theorem OD:ax abR:=ae ao3 OH
theorem apZ:aW Tryz.prog te abR:=aL follows ar OC OD
def jk:aw:=⟨[.val false .int,.val true .elem,.val false .u64],[],true,0,false⟩
abbrev FR:Type:=((Int)×(aa)×(UInt64)×Unit)×(Unit)
def MP:az:=⟨[.val true .elem],[],false⟩
def RQ:SV->Option az:=λ_=>some MP
def VD (a0:Int) (a1:aa) (a2:UInt64):OT jk.Y:=
 let z0:aa:= {w0:=a2,w1:=0,w2:=0,w3:=0}
 (gd [bK ((a0,a1,z0,()),())] (.ok ⟨MP,((bP (pS a0) a1 z0,()),())⟩))
theorem aBL (x:FR) (Q:jk.Y->Prop):wpf te abR av 1000 Tryz.f124 (jk.inp.inj x).tm (jk.inp.inj x).hp (fnK jk RQ Q) (λ_ _=>False)=(VD (x.1.1) (x.1.2.1) (x.1.2.2.1)).wpR Q:=by kernel_rfl
theorem afk (pre:FR->Bool) (F:FR->OT jk.Y) (hF:∀ (x:FR) oy,pre x=true->(F x).run=some oy->(VD (x.1.1) (x.1.2.1) (x.1.2.2.1)).run=some oy):ac Tryz.prog 124 (jk.aI pre F):=
 aD ar OC apZ (f:=124) (fn:=Tryz.f124) (c:=aj Tryz.f124) (by kernel_rfl) (by kernel_rfl) (by kernel_rfl) (S:=jk) (k:=0) (by kernel_rfl) (λR hR=>af) (n:=1000) (sel:=RQ) (λv o h=>by cases h;rfl) (pre:=pre) (F:=F) (T:=λx=>VD (x.1.1) (x.1.2.1) (x.1.2.2.1)) (λx Q=>aBL x Q) hF
def oh (p:Nat) (a:aa) (n:UInt64):aa:=bP p a ⟨n,0,0,0⟩
def io (x:FR):Bool:=ap x.1.1
def ak1 (x:FR):OT jk.Y:=.ok ⟨MP,((oh (pS x.1.1) x.1.2.1 x.1.2.2.1,()),())⟩
theorem av5:ac Tryz.prog 124 (jk.aI io ak1):=afk _ _ λx oy hp ho=>by
 rw [<-ho]
 clear ho
 obtain ⟨⟨s,a,b,⟨⟩⟩,⟨⟩⟩:=x
 have hs:ap s=true:=hp
 refine (ah ?_).trans rfl
 simp only [List.all_cons,List.all_nil,Bool.and_true]
 exact hs
def zQ:cj:=(jk.aI io ak1)
theorem aau:ac Tryz.prog 124 zQ:=av5
theorem aat:aG zQ:=aB
def DN:Env:=ay 124 zQ abR
theorem Ao:aQ Tryz.prog DN:=ag aau OC
theorem DM:ax DN:=ae aat OD
theorem abQ:aW Tryz.prog te DN:=aL follows ar Ao DM
def fv:aw:=⟨[.val false .int,.val true (.prod .elem (.prod .elem .elem))],[],true,0,false⟩
abbrev xe:Type:=((Int)×((aa×(aa×aa)))×Unit)×(Unit)
def jT:az:=⟨[.val true (.prod .elem (.prod .elem .bool))],[],false⟩
def MR:SV->Option az:=λ_=>some jT
def MS (a0:Int) (a1:(aa×(aa×aa))):OT fv.Y:=
 let z0:aa:= {w0:=0,w1:=0,w2:=0,w3:=0}
 let z1:Nat:=pS a0
 let z2:aa×PUnit:=(z0,())
 let z3:Bool:=bK ((a0,z0,z2),())
 let z4:aa:=bP z1 z0 z0
 let z5:Bool:=bK ((a0,a1.fst,z4,()),())
 let z6:Bool:=bK ((a0,z4,z2),())
 let z7:aa:=bP z1 z4 z0
 let z8:Bool:=bK ((a0,a1.snd.fst,z7,()),())
 let z9:aa×aa×Bool:=(bP z1 a1.fst z4,bP z1 a1.snd.fst z7,false)
 let z10:aa:=aI3 z1 a1.snd.snd
 let z11:aa×PUnit:=(z10,())
 let z12:aa:=bP z1 z10 z10
 let z13:aa:=bP z1 z12 z10
 (.br (bZ a1.snd.snd)
 (.ok ⟨jT,(((z0,z0,true),()),())⟩)
 (.br (ap a0)
  (.br (Nat.beq (aa.nat a1.snd.snd%z1) 0)
   (gd [z3,z5,z6,z8] (.ok ⟨jT,((z9,()),())⟩))
   (gd [bK ((a0,z10,z11),()),bK ((a0,a1.fst,z12,()),()),bK ((a0,z12,z11),()),bK ((a0,a1.snd.fst,z13,()),())] (.ok ⟨jT,(((bP z1 a1.fst z12,bP z1 a1.snd.fst z13,false),()),())⟩)))
  (gd [z3,z5,z6,z8] (.ok ⟨jT,((z9,()),())⟩))))
theorem awd (x:xe) (Q:fv.Y->Prop):wpf te DN av 1000 Tryz.f80 (fv.inp.inj x).tm (fv.inp.inj x).hp (fnK fv MR Q) (λ_ _=>False)=(MS (x.1.1) (x.1.2.1)).wpR Q:=by kernel_rfl
theorem aax (pre:xe->Bool) (F:xe->OT fv.Y) (hF:∀ (x:xe) oy,pre x=true->(F x).run=some oy->(MS (x.1.1) (x.1.2.1)).run=some oy):ac Tryz.prog 80 (fv.aI pre F):=
 aD ar Ao abQ (f:=80) (fn:=Tryz.f80) (c:=aj Tryz.f80) (by kernel_rfl) (by kernel_rfl) (by kernel_rfl) (S:=fv) (k:=0) (by kernel_rfl) (λR hR=>af) (n:=1000) (sel:=MR) (λv o h=>by cases h;rfl) (pre:=pre) (F:=F) (T:=λx=>MS (x.1.1) (x.1.2.1)) (λx Q=>awd x Q) hF
def aKO (p:Nat) (a:aa):aa:=cond (Nat.beq (a.nat%p) 0) ⟨0,0,0,0⟩ (aI3 p a)
def aGc (p:Nat) (x y i:aa):Pt:=(bP p x (bP p i i),bP p y (bP p (bP p i i) i),false)
def n7 (p:Nat) (w:Ss):Pt:=cond (bZ w.2.2) cO (aGc p w.1 w.2.1 (aKO p w.2.2))
def mE (x:xe):Bool:=ap x.1.1
def aay (x:xe):OT fv.Y:=.ok ⟨jT,((n7 (pS x.1.1) x.1.2.1,()),())⟩
theorem ao8:ac Tryz.prog 80 (fv.aI mE aay):=aax _ _ λx oy hp ho=>by
 rw [<-ho]
 clear ho
 obtain ⟨⟨c,⟨X,Y,Z⟩,⟨⟩⟩,⟨⟩⟩:=x
 have hs:ap c=true:=hp
 show _=(OT.ok ⟨jT,((n7 (pS c) (X,Y,Z),()),())⟩:OT fv.Y).run
 unfold n7
 dsimp only
 cases hz:bZ Z
 ·refine (OT.aq hz).trans ((OT.ao hs).trans ?_)
  unfold aKO
  cases hb:Nat.beq (Z.nat%pS c) 0
  ·refine (OT.aq rfl).trans ((ah ?_).trans rfl)
   simp only [List.all_cons,List.all_nil,Bool.and_true,Bool.and_eq_true]
   exact ⟨hs,hs,hs,hs⟩
  ·refine (OT.ao rfl).trans ((ah ?_).trans rfl)
   simp only [List.all_cons,List.all_nil,Bool.and_true,Bool.and_eq_true]
   exact ⟨hs,hs,hs,hs⟩
 ·exact OT.ao hz
def uB:cj:=(fv.aI mE aay)
theorem VI:ac Tryz.prog 80 uB:=ao8
theorem VH:aG uB:=aB
def vu:Env:=ay 80 uB DN
theorem vt:aQ Tryz.prog vu:=ag VI Ao
theorem yL:ax vu:=ae VH DM
theorem WE:aW Tryz.prog te vu:=aL follows ar vt yL
def fw:aw:=⟨[.val false .int,.val true (.prod .elem (.prod .elem .elem))],[],true,0,false⟩
abbrev xi:Type:=((Int)×((aa×(aa×aa)))×Unit)×(Unit)
def pO:az:=⟨[.val true (.prod .elem (.prod .elem .elem))],[],false⟩
def MY:SV->Option az:=λ_=>some pO
def MZ (a0:Int) (a1:(aa×(aa×aa))):OT fw.Y:=
 let z0:Nat:=pS a0
 let z1:aa:=bP z0 a1.snd.fst a1.snd.fst
 let z2:aa×PUnit:=(z1,())
 let z3:aa:=bP z0 a1.fst z1
 let z4:aa:=bP z0 a1.fst a1.fst
 let z5:aa:=oh z0 z4 (3:UInt64)
 let z6:aa:=oh z0 z3 (4:UInt64)
 let z7:UInt64×PUnit:=((2:UInt64),())
 let z8:aa:=bP z0 z5 z5
 let z9:aa:=oh z0 z6 (2:UInt64)
 let z10:aa:=JC z0 z8 z9
 let z11:aa:=JC z0 z6 z10
 let z12:aa:=bP z0 z1 z1
 let z13:aa:=bP z0 z5 z11
 let z14:aa:=oh z0 z12 (8:UInt64)
 let z15:aa:=bP z0 a1.snd.fst a1.snd.snd
 (.br (bZ a1.snd.snd)
 (.ok ⟨pO,((a1,()),())⟩)
 (gd [bK ((a0,a1.snd.fst,a1.snd.fst,()),()),bK ((a0,a1.fst,z2),()),io ((a0,z3,(4:UInt64),()),()),bK ((a0,a1.fst,a1.fst,()),()),io ((a0,z4,(3:UInt64),()),()),bK ((a0,z5,z5,()),()),io ((a0,z6,z7),()),jl ((a0,z8,z9,()),()),jl ((a0,z6,z10,()),()),bK ((a0,z5,z11,()),()),bK ((a0,z1,z2),()),io ((a0,z12,(8:UInt64),()),()),jl ((a0,z13,z14,()),()),bK ((a0,a1.snd.fst,a1.snd.snd,()),()),io ((a0,z15,z7),())] (.ok ⟨pO,(((z10,JC z0 z13 z14,oh z0 z15 (2:UInt64)),()),())⟩)))
theorem awp (x:xi) (Q:fw.Y->Prop):wpf te vu av 1000 Tryz.f83 (fw.inp.inj x).tm (fw.inp.inj x).hp (fnK fw MY Q) (λ_ _=>False)=(MZ (x.1.1) (x.1.2.1)).wpR Q:=by kernel_rfl
theorem aaD (pre:xi->Bool) (F:xi->OT fw.Y) (hF:∀ (x:xi) oy,pre x=true->(F x).run=some oy->(MZ (x.1.1) (x.1.2.1)).run=some oy):ac Tryz.prog 83 (fw.aI pre F):=
 aD ar vt WE (f:=83) (fn:=Tryz.f83) (c:=aj Tryz.f83) (by kernel_rfl) (by kernel_rfl) (by kernel_rfl) (S:=fw) (k:=0) (by kernel_rfl) (λR hR=>af) (n:=1000) (sel:=MY) (λv o h=>by cases h;rfl) (pre:=pre) (F:=F) (T:=λx=>MZ (x.1.1) (x.1.2.1)) (λx Q=>awp x Q) hF
def aKZ (p:Nat) (x y z:aa):Ss:=
 let yy:=bP p y y
 let s:=oh p (bP p x yy) 4
 let m:=oh p (bP p x x) 3
 let x':=JC p (bP p m m) (oh p s 2)
 (x',JC p (bP p m (JC p s x')) (oh p (bP p yy yy) 8),oh p (bP p y z) 2)
def axw (p:Nat) (w:Ss):Ss:=cond (bZ w.2.2) w (aKZ p w.1 w.2.1 w.2.2)
def rC (x:xi):Bool:=ap x.1.1
def aaE (x:xi):OT fw.Y:=.ok ⟨pO,((axw (pS x.1.1) x.1.2.1,()),())⟩
theorem api:ac Tryz.prog 83 (fw.aI rC aaE):=aaD _ _ λx oy hp ho=>by
 rw [<-ho]
 clear ho
 obtain ⟨⟨c,⟨X,Y,Z⟩,⟨⟩⟩,⟨⟩⟩:=x
 have hs:ap c=true:=hp
 show _=(OT.ok ⟨pO,((axw (pS c) (X,Y,Z),()),())⟩:OT fw.Y).run
 unfold axw
 dsimp only
 cases hz:bZ Z
 ·refine (OT.aq hz).trans ((ah ?_).trans rfl)
  simp only [List.all_cons,List.all_nil,Bool.and_true,Bool.and_eq_true]
  exact ⟨hs,hs,hs,hs,hs,hs,hs,hs,hs,hs,hs,hs,hs,hs,hs⟩
 ·exact OT.ao hz
def uG:cj:=(fw.aI rC aaE)
theorem VN:ac Tryz.prog 83 uG:=api
theorem VM:aG uG:=aB
def vw:Env:=ay 83 uG vu
theorem vv:aQ Tryz.prog vw:=ag VN vt
theorem yM:ax vw:=ae VM yL
theorem WG:aW Tryz.prog te vw:=aL follows ar vv yM
def kI:aw:=⟨[.val false .int,.val true (.prod .elem (.prod .elem .elem)),.val true (.prod .elem (.prod .elem .elem))],[],true,0,false⟩
abbrev R4:Type:=((Int)×((aa×(aa×aa)))×((aa×(aa×aa)))×Unit)×(Unit)
def nN:az:=⟨[.val true (.prod .elem (.prod .elem .elem))],[],false⟩
def aaL:SV->Option az:=λ_=>some nN
def afy (a0:Int) (a1:(aa×(aa×aa))) (a2:(aa×(aa×aa))):OT kI.Y:=
 let z0:aa×PUnit:=(a1.snd.snd,())
 let z1:aa×PUnit:=(a2.snd.snd,())
 let z2:Nat:=pS a0
 let z3:aa:=bP z2 a2.snd.snd a2.snd.snd
 let z4:aa:=bP z2 a1.snd.snd a1.snd.snd
 let z5:aa:=bP z2 z3 a2.snd.snd
 let z6:aa:=bP z2 z4 a1.snd.snd
 let z7:aa:=bP z2 a2.fst z4
 let z8:aa:=bP z2 a1.fst z3
 let z9:aa:=bP z2 a2.snd.fst z6
 let z10:aa:=bP z2 a1.snd.fst z5
 let z11:aa:=JC z2 z7 z8
 let z12:aa:=JC z2 z9 z10
 let z13:aa:= {w0:=0,w1:=0,w2:=0,w3:=0}
 let z14:aa×PUnit:=(z11,())
 let z15:aa:=bP z2 z11 z11
 let z16:aa:=bP z2 z12 z12
 let z17:aa:=bP z2 z15 z11
 let z18:aa×PUnit:=(z17,())
 let z19:aa:=bP z2 z8 z15
 let z20:aa:=JC z2 z16 z17
 let z21:aa:=oh z2 z19 (2:UInt64)
 let z22:aa:=JC z2 z20 z21
 let z23:aa:=JC z2 z19 z22
 let z24:aa:=bP z2 z12 z23
 let z25:aa:=bP z2 z10 z17
 let z26:aa:=bP z2 a1.snd.snd a2.snd.snd
 (.br (bZ a1.snd.snd)
 (.ok ⟨nN,((a2,()),())⟩)
 (.br (bZ a2.snd.snd)
  (.ok ⟨nN,((a1,()),())⟩)
  (gd [bK ((a0,a1.snd.snd,z0),()),bK ((a0,a2.snd.snd,z1),()),bK ((a0,a1.fst,z3,()),()),bK ((a0,a2.fst,z4,()),()),bK ((a0,z3,z1),()),bK ((a0,a1.snd.fst,z5,()),()),bK ((a0,z4,z0),()),bK ((a0,a2.snd.fst,z6,()),()),jl ((a0,z7,z8,()),()),jl ((a0,z9,z10,()),())] (.br (z11.w0==(0:UInt64)&&(z11.w1==(0:UInt64)&&(z11.w2==(0:UInt64)&&(z11.w3==(0:UInt64)&&true))))
   (.br (z12.w0==(0:UInt64)&&(z12.w1==(0:UInt64)&&(z12.w2==(0:UInt64)&&(z12.w3==(0:UInt64)&&true))))
    (gd [rC ((a0,a1,()),())] (.ok ⟨nN,((axw z2 a1,()),())⟩))
    (.ok ⟨nN,(((z13,z13,z13),()),())⟩))
   (gd [bK ((a0,z11,z14),()),bK ((a0,z15,z14),()),bK ((a0,z8,z15,()),()),bK ((a0,z12,z12,()),()),jl ((a0,z16,z18),()),io ((a0,z19,(2:UInt64),()),()),jl ((a0,z20,z21,()),()),jl ((a0,z19,z22,()),()),bK ((a0,z12,z23,()),()),bK ((a0,z10,z18),()),jl ((a0,z24,z25,()),()),bK ((a0,a1.snd.snd,z1),()),bK ((a0,z11,z26,()),())] (.ok ⟨nN,(((z22,JC z2 z24 z25,bP z2 z11 z26),()),())⟩))))))
theorem aHt (x:R4) (Q:kI.Y->Prop):wpf te vw av 1000 Tryz.f81 (kI.inp.inj x).tm (kI.inp.inj x).hp (fnK kI aaL Q) (λ_ _=>False)=(afy (x.1.1) (x.1.2.1) (x.1.2.2.1)).wpR Q:=by kernel_rfl
theorem apo (pre:R4->Bool) (F:R4->OT kI.Y) (hF:∀ (x:R4) oy,pre x=true->(F x).run=some oy->(afy (x.1.1) (x.1.2.1) (x.1.2.2.1)).run=some oy):ac Tryz.prog 81 (kI.aI pre F):=
 aD ar vv WG (f:=81) (fn:=Tryz.f81) (c:=aj Tryz.f81) (by kernel_rfl) (by kernel_rfl) (by kernel_rfl) (S:=kI) (k:=0) (by kernel_rfl) (λR hR=>af) (n:=1000) (sel:=aaL) (λv o h=>by cases h;rfl) (pre:=pre) (F:=F) (T:=λx=>afy (x.1.1) (x.1.2.1) (x.1.2.2.1)) (λx Q=>aHt x Q) hF
def aK1 (p:Nat) (u s h r Z1 Z2:aa):Ss:=
 let hh:=bP p h h
 let hhh:=bP p hh h
 let c:=bP p u hh
 let x:=JC p (JC p (bP p r r) hhh) (oh p c 2)
 (x,JC p (bP p r (JC p c x)) (bP p s hhh),bP p h (bP p Z1 Z2))
def aKQ (p:Nat) (w:Ss) (u s h r Z2:aa):Ss:=cond (bZ h) (cond (bZ r) (axw p w) (⟨0,0,0,0⟩,⟨0,0,0,0⟩,⟨0,0,0,0⟩)) (aK1 p u s h r w.2.2 Z2)
def aKR (p:Nat) (w v:Ss):Ss:=
 let pz:=bP p w.2.2 w.2.2
 let qz:=bP p v.2.2 v.2.2
 let u:=bP p w.1 qz
 let s:=bP p w.2.1 (bP p qz v.2.2)
 aKQ p w u s (JC p (bP p v.1 pz) u) (JC p (bP p v.2.1 (bP p pz w.2.2)) s) v.2.2
def aCs (p:Nat) (w v:Ss):Ss:=cond (bZ w.2.2) v (cond (bZ v.2.2) w (aKR p w v))
def CD (x:R4):Bool:=ap x.1.1
def aww (x:R4):OT kI.Y:=.ok ⟨nN,((aCs (pS x.1.1) x.1.2.1 x.1.2.2.1,()),())⟩
theorem aBW:ac Tryz.prog 81 (kI.aI CD aww):=apo _ _ λx oy hp ho=>by
 rw [<-ho]
 clear ho
 obtain ⟨⟨c,⟨X,Y,Z⟩,⟨X2,Y2,Z2⟩,⟨⟩⟩,⟨⟩⟩:=x
 have hs:ap c=true:=hp
 show _=(OT.ok ⟨nN,((aCs (pS c) (X,Y,Z) (X2,Y2,Z2),()),())⟩:OT kI.Y).run
 unfold aCs
 dsimp only
 cases hz:bZ Z
 ·refine (OT.aq hz).trans ?_
  cases hz2:bZ Z2
  ·refine (OT.aq rfl).trans ((ah ?_).trans ?_)
   ·simp only [List.all_cons,List.all_nil,Bool.and_true,Bool.and_eq_true]
    exact ⟨hs,hs,hs,hs,hs,hs,hs,hs,hs,hs⟩
   ·unfold aKR aKQ
    dsimp only [cond_false]
    cases hh:bZ (JC (pS c) (bP (pS c) X2 (bP (pS c) Z Z)) (bP (pS c) X (bP (pS c) Z2 Z2)))
    ·refine (OT.aq hh).trans ((ah ?_).trans rfl)
     simp only [List.all_cons,List.all_nil,Bool.and_true,Bool.and_eq_true]
     exact ⟨hs,hs,hs,hs,hs,hs,hs,hs,hs,hs,hs,hs,hs⟩
    ·refine (OT.ao hh).trans ?_
     dsimp only [cond_true]
     cases hr:bZ (JC (pS c) (bP (pS c) Y2 (bP (pS c) (bP (pS c) Z Z) Z)) (bP (pS c) Y (bP (pS c) (bP (pS c) Z2 Z2) Z2)))
     ·exact OT.aq hr
     ·refine (OT.ao hr).trans ((ah ?_).trans rfl)
      simp only [List.all_cons,List.all_nil,Bool.and_true]
      exact hs
  ·exact OT.ao rfl
 ·exact OT.ao hz
def FZ:cj:=(kI.aI CD aww)
theorem afx:ac Tryz.prog 81 FZ:=aBW
theorem afw:aG FZ:=aB
def ON:Env:=ay 81 FZ vw
theorem GP:aQ Tryz.prog ON:=ag afx vv
theorem H9:ax ON:=ae afw yM
theorem agx:aW Tryz.prog te ON:=aL follows ar GP H9
def sk:aw:=⟨[.val false .int,.val true (.prod .elem (.prod .elem .bool)),.val true (.prod .elem (.prod .elem .bool))],[],true,0,false⟩
abbrev apn:Type:=((Int)×((aa×(aa×Bool)))×((aa×(aa×Bool)))×Unit)×(Unit)
def FY:az:=⟨[.val true (.prod .elem (.prod .elem .bool))],[],false⟩
def ald:SV->Option az:=λ_=>some FY
def awv (a0:Int) (a1:(aa×(aa×Bool))) (a2:(aa×(aa×Bool))):OT sk.Y:=
 let z0:aa:= {w0:=0,w1:=0,w2:=0,w3:=0}
 let z1:aa×aa×Bool:=(z0,z0,true)
 let z2:aa×aa×aa:=lB a1
 let z3:aa×aa×aa:=lB a2
 let z4:Nat:=pS a0
 let z5:aa×aa×aa:=aCs z4 z2 z3
 (.br (!onB a0 a1)
 (.ok ⟨FY,((z1,()),())⟩)
 (.br (!onB a0 a2)
  (.ok ⟨FY,((z1,()),())⟩)
  (gd [CD ((a0,z2,z3,()),()),mE ((a0,z5,()),())] (.ok ⟨FY,((n7 z4 z5,()),())⟩))))
theorem aJD (x:apn) (Q:sk.Y->Prop):wpf te ON av 1000 Tryz.f44 (sk.inp.inj x).tm (sk.inp.inj x).hp (fnK sk ald Q) (λ_ _=>False)=(awv (x.1.1) (x.1.2.1) (x.1.2.2.1)).wpR Q:=by kernel_rfl
theorem awu (pre:apn->Bool) (F:apn->OT sk.Y) (hF:∀ (x:apn) oy,pre x=true->(F x).run=some oy->(awv (x.1.1) (x.1.2.1) (x.1.2.2.1)).run=some oy):ac Tryz.prog 44 (sk.aI pre F):=
 aD ar GP agx (f:=44) (fn:=Tryz.f44) (c:=aj Tryz.f44) (by kernel_rfl) (by kernel_rfl) (by kernel_rfl) (S:=sk) (k:=0) (by kernel_rfl) (λR hR=>af) (n:=1000) (sel:=ald) (λv o h=>by cases h;rfl) (pre:=pre) (F:=F) (T:=λx=>awv (x.1.1) (x.1.2.1) (x.1.2.2.1)) (λx Q=>aJD x Q) hF
def lb (c:Int) (P Q:Pt):Pt:=cond (onB c P) (cond (onB c Q) (n7 (pS c) (aCs (pS c) (lB P) (lB Q))) cO) cO
def ale (_:apn):Bool:=true
def aDm (x:apn):OT sk.Y:=.ok ⟨FY,((lb x.1.1 x.1.2.1 x.1.2.2.1,()),())⟩
theorem aHs:ac Tryz.prog 44 (sk.aI ale aDm):=awu _ _ λx oy _ ho=>by
 rw [<-ho]
 clear ho
 obtain ⟨⟨c,P,Q,⟨⟩⟩,⟨⟩⟩:=x
 show _=(OT.ok ⟨FY,((lb c P Q,()),())⟩:OT sk.Y).run
 rcases (Bool.eq_false_or_eq_true (onB c P)).symm with h1|h1
 ·have e:lb c P Q=cO:=by unfold lb;rw [h1];rfl
  rw [e]
  exact OT.ao (b:= !onB c P) (by rw [h1];rfl)
 ·have hs:=Ux h1
  refine (OT.aq (b:= !onB c P) (by rw [h1];rfl)).trans ?_
  rcases (Bool.eq_false_or_eq_true (onB c Q)).symm with h2|h2
  ·have e:lb c P Q=cO:=by unfold lb;rw [h1,h2];rfl
   rw [e]
   exact OT.ao (b:= !onB c Q) (by rw [h2];rfl)
  ·have e:lb c P Q=n7 (pS c) (aCs (pS c) (lB P) (lB Q)):=by unfold lb;rw [h1,h2];rfl
   rw [e]
   refine (OT.aq (b:= !onB c Q) (by rw [h2];rfl)).trans ((ah ?_).trans rfl)
   simp only [List.all_cons,List.all_nil,Bool.and_true,Bool.and_eq_true]
   exact ⟨hs,hs⟩
def M2:cj:=(sk.aI ale aDm)
theorem apm:ac Tryz.prog 44 M2:=aHs
theorem apl:aG M2:=aB
def SN:Env:=ay 44 M2 ON
theorem DT:aQ Tryz.prog SN:=ag apm GP
theorem OM:ax SN:=ae apl H9
theorem SM:aW Tryz.prog te SN:=aL follows ar DT OM
def kH:aw:=⟨[.val false .int,.val true .elem,.val true (.prod .elem (.prod .elem .bool))],[],true,0,false⟩
abbrev RT:Type:=((Int)×(aa)×((aa×(aa×Bool)))×Unit)×(Unit)
def CA:Shape:=⟨39,[(4,.ptr 0 0 0),(5,.ptr 1 0 0),(6,.ptr 2 0 0),(7,.val false .int),(8,.ptr 3 0 0),(9,.val false .int)],[(0,.row .u64),(1,.cells [.val false .u64,.val false .u64,.val false .u64,.val false .u64,.val false .u64,.val false .u64,.val false .u64,.val false .u64,.val false .bool]),(2,.cells [.val false .u64,.val false .u64,.val false .u64,.val false .u64,.val false .u64,.val false .u64,.val false .u64,.val false .u64,.val false .bool]),(3,.cells [.val false .u64,.val false .u64,.val false .u64,.val false .u64,.val false .u64,.val false .u64,.val false .u64,.val false .u64,.val false .u64,.val false .u64,.val false .u64,.val false .u64])],0,true⟩
abbrev da:Type:=((Unit)×(Unit)×(Unit)×(Int)×(Unit)×(Int)×Unit)×((List (UInt64))×((UInt64)×(UInt64)×(UInt64)×(UInt64)×(UInt64)×(UInt64)×(UInt64)×(UInt64)×(Bool)×Unit)×((UInt64)×(UInt64)×(UInt64)×(UInt64)×(UInt64)×(UInt64)×(UInt64)×(UInt64)×(Bool)×Unit)×((UInt64)×(UInt64)×(UInt64)×(UInt64)×(UInt64)×(UInt64)×(UInt64)×(UInt64)×(UInt64)×(UInt64)×(UInt64)×(UInt64)×Unit)×Unit)
def xg:Shape:=⟨39,[(6,.ptr 0 0 0),(7,.val false .int),(8,.ptr 1 0 0)],[(0,.cells [.val false .u64,.val false .u64,.val false .u64,.val false .u64,.val false .u64,.val false .u64,.val false .u64,.val false .u64,.val false .bool]),(1,.cells [.val false .u64,.val false .u64,.val false .u64,.val false .u64,.val false .u64,.val false .u64,.val false .u64,.val false .u64,.val false .u64,.val false .u64,.val false .u64,.val false .u64])],0,true⟩
abbrev mF:Type:=((Unit)×(Int)×(Unit)×Unit)×(((UInt64)×(UInt64)×(UInt64)×(UInt64)×(UInt64)×(UInt64)×(UInt64)×(UInt64)×(Bool)×Unit)×((UInt64)×(UInt64)×(UInt64)×(UInt64)×(UInt64)×(UInt64)×(UInt64)×(UInt64)×(UInt64)×(UInt64)×(UInt64)×(UInt64)×Unit)×Unit)
def ak3:SE->Option Shape:=fc [(0,xg)] none
def aBQ (a7:Int) (a9:Int) (c0:List (UInt64)) (c1_0:UInt64) (c1_1:UInt64) (c1_2:UInt64) (c1_3:UInt64) (c1_4:UInt64) (c1_5:UInt64) (c1_6:UInt64) (c1_7:UInt64) (c1_8:Bool) (c2_0:UInt64) (c2_1:UInt64) (c2_2:UInt64) (c2_3:UInt64) (c2_4:UInt64) (c2_5:UInt64) (c2_6:UInt64) (c2_7:UInt64) (c2_8:Bool) (c3_0:UInt64) (c3_1:UInt64) (c3_2:UInt64) (c3_3:UInt64) (c3_4:UInt64) (c3_5:UInt64) (c3_6:UInt64) (c3_7:UInt64) (c3_8:UInt64) (c3_9:UInt64) (c3_10:UInt64) (c3_11:UInt64):OT (Sum da aE):=
 let z0:aa×aa×aa:=({w0:=c3_0,w1:=c3_1,w2:=c3_2,w3:=c3_3},{w0:=c3_4,w1:=c3_5,w2:=c3_6,w3:=c3_7},{w0:=c3_8,w1:=c3_9,w2:=c3_10,w3:=c3_11})
 let z1:Nat:=pS a7
 let z2:aa×aa×aa:=axw z1 z0
 let z3:aa×aa×aa:=lB ({w0:=c1_0,w1:=c1_1,w2:=c1_2,w3:=c1_3},{w0:=c1_4,w1:=c1_5,w2:=c1_6,w3:=c1_7},c1_8)
 let z4:Bool:=inR (a9-(1:Int))
 let z5:aa×aa×aa:=aCs z1 z2 z3
 let z6:=z5.fst
 let z7:=z5.snd
 let z8:=z7.fst
 let z9:=z7.snd
 let z10:=z2.fst
 let z11:=z2.snd
 let z12:=z11.fst
 let z13:=z11.snd
 (.br (decide ((0:Int)<=a9))
 (gd [rC ((a7,z0,()),()),decide (4<=List.length c0)] (.br (yp {w0:=List.getD c0 0 0,w1:=List.getD c0 1 0,w2:=List.getD c0 2 0,w3:=List.getD c0 3 0} a9)
  (gd [CD ((a7,z2,z3,()),()),z4] (.ok (.inl (((),((),((),(a7,((),(a9-(1:Int),())))))),(c0,((c1_0,(c1_1,(c1_2,(c1_3,(c1_4,(c1_5,(c1_6,(c1_7,(c1_8,()))))))))),((c2_0,(c2_1,(c2_2,(c2_3,(c2_4,(c2_5,(c2_6,(c2_7,(c2_8,()))))))))),((z6.w0,(z6.w1,(z6.w2,(z6.w3,(z8.w0,(z8.w1,(z8.w2,(z8.w3,(z9.w0,(z9.w1,(z9.w2,(z9.w3,())))))))))))),()))))))))
  (gd [z4] (.ok (.inl (((),((),((),(a7,((),(a9-(1:Int),())))))),(c0,((c1_0,(c1_1,(c1_2,(c1_3,(c1_4,(c1_5,(c1_6,(c1_7,(c1_8,()))))))))),((c2_0,(c2_1,(c2_2,(c2_3,(c2_4,(c2_5,(c2_6,(c2_7,(c2_8,()))))))))),((z10.w0,(z10.w1,(z10.w2,(z10.w3,(z12.w0,(z12.w1,(z12.w2,(z12.w3,(z13.w0,(z13.w1,(z13.w2,(z13.w3,())))))))))))),()))))))))))
 (.ok (.inr ⟨(.exit 0,xg),(((),(a7,((),()))),((c2_0,(c2_1,(c2_2,(c2_3,(c2_4,(c2_5,(c2_6,(c2_7,(c2_8,()))))))))),((c3_0,(c3_1,(c3_2,(c3_3,(c3_4,(c3_5,(c3_6,(c3_7,(c3_8,(c3_9,(c3_10,(c3_11,())))))))))))),())))⟩)))
def CB (s:da):OT (Sum da aE):=aBQ (s.1.2.2.2.1) (s.1.2.2.2.2.2.1) (s.2.1) (s.2.2.1.1) (s.2.2.1.2.1) (s.2.2.1.2.2.1) (s.2.2.1.2.2.2.1) (s.2.2.1.2.2.2.2.1) (s.2.2.1.2.2.2.2.2.1) (s.2.2.1.2.2.2.2.2.2.1) (s.2.2.1.2.2.2.2.2.2.2.1) (s.2.2.1.2.2.2.2.2.2.2.2.1) (s.2.2.2.1.1) (s.2.2.2.1.2.1) (s.2.2.2.1.2.2.1) (s.2.2.2.1.2.2.2.1) (s.2.2.2.1.2.2.2.2.1) (s.2.2.2.1.2.2.2.2.2.1) (s.2.2.2.1.2.2.2.2.2.2.1) (s.2.2.2.1.2.2.2.2.2.2.2.1) (s.2.2.2.1.2.2.2.2.2.2.2.2.1) (s.2.2.2.2.1.1) (s.2.2.2.2.1.2.1) (s.2.2.2.2.1.2.2.1) (s.2.2.2.2.1.2.2.2.1) (s.2.2.2.2.1.2.2.2.2.1) (s.2.2.2.2.1.2.2.2.2.2.1) (s.2.2.2.2.1.2.2.2.2.2.2.1) (s.2.2.2.2.1.2.2.2.2.2.2.2.1) (s.2.2.2.2.1.2.2.2.2.2.2.2.2.1) (s.2.2.2.2.1.2.2.2.2.2.2.2.2.2.1) (s.2.2.2.2.1.2.2.2.2.2.2.2.2.2.2.1) (s.2.2.2.2.1.2.2.2.2.2.2.2.2.2.2.2.1)
theorem aBN (s:da) (Q:Sum da aE->Prop):wps te SN av 1000 (aU (aj Tryz.f45) 0) (CA.inj s) (bU CA ak3 (Q:Sum CA.T aE->Prop))=(CB s).wpR Q:=by kernel_rfl
def I8 (g0_0:da->mF) (s:da):OT aE:=(.ok ⟨(.exit 0,xg),g0_0 s⟩)
def xf:az:=⟨[.val true (.prod .elem (.prod .elem .bool))],[],false⟩
def aaz:SV->Option az:=λ_=>some xf
def afn (ok0:da->Bool) (g0_0:da->mF) (a0:Int) (a1:aa) (a2:(aa×(aa×Bool))):OT kH.Y:=
 let z0:aa:= {w0:=0,w1:=0,w2:=0,w3:=0}
 let z1:Int:=aI2 a0 (1:Int)
 let z2:PUnit×PUnit×PUnit×Int×PUnit×Int×PUnit:=((),(),(),a0,(),(255:Int),())
 let z3:aa:=Gg (pS z1) a1 z0
 let z4:(UInt64×UInt64×UInt64×UInt64×UInt64×UInt64×UInt64×UInt64×Bool×PUnit)×(UInt64×UInt64×UInt64×UInt64×UInt64×UInt64×UInt64×UInt64×Bool×PUnit)×(UInt64×UInt64×UInt64×UInt64×UInt64×UInt64×UInt64×UInt64×UInt64×UInt64×UInt64×UInt64×PUnit)×PUnit:=((a2.fst.w0,a2.fst.w1,a2.fst.w2,a2.fst.w3,a2.snd.fst.w0,a2.snd.fst.w1,a2.snd.fst.w2,a2.snd.fst.w3,a2.snd.snd,()),((0:UInt64),(0:UInt64),(0:UInt64),(0:UInt64),(0:UInt64),(0:UInt64),(0:UInt64),(0:UInt64),false,()),((0:UInt64),(0:UInt64),(0:UInt64),(0:UInt64),(0:UInt64),(0:UInt64),(0:UInt64),(0:UInt64),(0:UInt64),(0:UInt64),(0:UInt64),(0:UInt64),()),())
 let z5:(PUnit×PUnit×PUnit×Int×PUnit×Int×PUnit)×List UInt64×(UInt64×UInt64×UInt64×UInt64×UInt64×UInt64×UInt64×UInt64×Bool×PUnit)×(UInt64×UInt64×UInt64×UInt64×UInt64×UInt64×UInt64×UInt64×Bool×PUnit)×(UInt64×UInt64×UInt64×UInt64×UInt64×UInt64×UInt64×UInt64×UInt64×UInt64×UInt64×UInt64×PUnit)×PUnit:=(z2,[z3.w0,z3.w1,z3.w2,z3.w3],z4)
 let z6:(PUnit×Int×PUnit×PUnit)×(UInt64×UInt64×UInt64×UInt64×UInt64×UInt64×UInt64×UInt64×Bool×PUnit)×(UInt64×UInt64×UInt64×UInt64×UInt64×UInt64×UInt64×UInt64×UInt64×UInt64×UInt64×UInt64×PUnit)×PUnit:=g0_0 z5
 let z7:=z6.fst.snd.fst
 let z8:=z6.snd.snd.fst
 let z9:=z8.snd
 let z10:=z9.snd
 let z11:=z10.snd
 let z12:=z11.snd
 let z13:=z12.snd
 let z14:=z13.snd
 let z15:=z14.snd
 let z16:=z15.snd
 let z17:=z16.snd
 let z18:=z17.snd
 let z19:aa×aa×aa:=({w0:=z8.fst,w1:=z9.fst,w2:=z10.fst,w3:=z11.fst},{w0:=z12.fst,w1:=z13.fst,w2:=z14.fst,w3:=z15.fst},{w0:=z16.fst,w1:=z17.fst,w2:=z18.fst,w3:=z18.snd.fst})
 let z20:(PUnit×PUnit×PUnit×Int×PUnit×Int×PUnit)×List UInt64×(UInt64×UInt64×UInt64×UInt64×UInt64×UInt64×UInt64×UInt64×Bool×PUnit)×(UInt64×UInt64×UInt64×UInt64×UInt64×UInt64×UInt64×UInt64×Bool×PUnit)×(UInt64×UInt64×UInt64×UInt64×UInt64×UInt64×UInt64×UInt64×UInt64×UInt64×UInt64×UInt64×PUnit)×PUnit:=(z2,[(0:UInt64),(0:UInt64),(0:UInt64),(0:UInt64)],z4)
 let z21:(PUnit×Int×PUnit×PUnit)×(UInt64×UInt64×UInt64×UInt64×UInt64×UInt64×UInt64×UInt64×Bool×PUnit)×(UInt64×UInt64×UInt64×UInt64×UInt64×UInt64×UInt64×UInt64×UInt64×UInt64×UInt64×UInt64×PUnit)×PUnit:=g0_0 z20
 let z22:=z21.fst.snd.fst
 let z23:=z21.snd.snd.fst
 let z24:=z23.snd
 let z25:=z24.snd
 let z26:=z25.snd
 let z27:=z26.snd
 let z28:=z27.snd
 let z29:=z28.snd
 let z30:=z29.snd
 let z31:=z30.snd
 let z32:=z31.snd
 let z33:=z32.snd
 let z34:aa×aa×aa:=({w0:=z23.fst,w1:=z24.fst,w2:=z25.fst,w3:=z26.fst},{w0:=z27.fst,w1:=z28.fst,w2:=z29.fst,w3:=z30.fst},{w0:=z31.fst,w1:=z32.fst,w2:=z33.fst,w3:=z33.snd.fst})
 (.br (!onB a0 a2)
 (.ok ⟨xf,(((z0,z0,true),()),())⟩)
 (.br (ap z1)
  (gd [ok0 z5,mE ((z7,z19,()),())] (.ok ⟨xf,((n7 (pS z7) z19,()),())⟩))
  (gd [ok0 z20,mE ((z22,z34,()),())] (.ok ⟨xf,((n7 (pS z22) z34,()),())⟩))))
theorem aHn (ok0:da->Bool) (g0_0:da->mF) (x:RT) (Q:kH.Y->Prop):wpf te SN (aO 0 (cf CA 0 ok0 (I8 g0_0)) av) 1000 Tryz.f45 (kH.inp.inj x).tm (kH.inp.inj x).hp (fnK kH aaz Q) (λ_ _=>False)=(afn ok0 g0_0 (x.1.1) (x.1.2.1) (x.1.2.2.1)).wpR Q:=by kernel_rfl
theorem ao9 (ok0:da->Bool) (g0_0:da->mF) (h0:∀ s:da,ok0 s=true->∃ m e,al (CB) m s=some e/\(I8 g0_0 s).run=some e) (pre:RT->Bool) (F:RT->OT kH.Y) (hF:∀ (x:RT) oy,pre x=true->(F x).run=some oy->(afn ok0 g0_0 (x.1.1) (x.1.2.1) (x.1.2.2.1)).run=some oy):ac Tryz.prog 45 (kH.aI pre F):=
 aD ar DT SM (f:=45) (fn:=Tryz.f45) (c:=aj Tryz.f45) (by kernel_rfl) (by kernel_rfl) (by kernel_rfl) (S:=kH) (k:=0) (by kernel_rfl) (λR hR=>(aA (c:=(aj Tryz.f45)) (by kernel_rfl) (id:=0) (by kernel_rfl) (aP ar DT SM (sh:=CA) hR (xs:=ak3) (aC (by kernel_rfl) (by kernel_rfl) hR) aM af (n:=1000) (T:=CB) (λs Q=>aBN s Q) (ok:=ok0) (f:=I8 g0_0) h0) af)) (n:=1000) (sel:=aaz) (λv o h=>by cases h;rfl) (pre:=pre) (F:=F) (T:=λx=>afn ok0 g0_0 (x.1.1) (x.1.2.1) (x.1.2.2.1)) (λx Q=>aHn ok0 g0_0 x Q) hF
abbrev C9:Type:=UInt64×UInt64×UInt64×UInt64×UInt64×UInt64×UInt64×UInt64×Bool×Unit
def bQ (P:Pt):C9:=(P.1.w0,P.1.w1,P.1.w2,P.1.w3,P.2.1.w0,P.2.1.w1,P.2.1.w2,P.2.1.w3,P.2.2,())
abbrev C12:Type:=UInt64×UInt64×UInt64×UInt64×UInt64×UInt64×UInt64×UInt64×UInt64×UInt64×UInt64×UInt64×Unit
def MX (t:C9):Pt:=(⟨t.1,t.2.1,t.2.2.1,t.2.2.2.1⟩,⟨t.2.2.2.2.1,t.2.2.2.2.2.1,t.2.2.2.2.2.2.1,t.2.2.2.2.2.2.2.1⟩,t.2.2.2.2.2.2.2.2.1)
def aJC (t:C12):Ss:=(⟨t.1,t.2.1,t.2.2.1,t.2.2.2.1⟩,⟨t.2.2.2.2.1,t.2.2.2.2.2.1,t.2.2.2.2.2.2.1,t.2.2.2.2.2.2.2.1⟩,⟨t.2.2.2.2.2.2.2.2.1,t.2.2.2.2.2.2.2.2.2.1,t.2.2.2.2.2.2.2.2.2.2.1,t.2.2.2.2.2.2.2.2.2.2.2.1⟩)
def aGU (w:Ss):C12:=(w.1.w0,w.1.w1,w.1.w2,w.1.w3,w.2.1.w0,w.2.1.w1,w.2.1.w2,w.2.1.w3,w.2.2.w0,w.2.2.w1,w.2.2.w2,w.2.2.w3,())
def zx (p:Nat) (k:aa) (P:Ss) (n:Nat) (w:Ss):Ss:=cond (yp k (255-(n:Int))) (aCs p (axw p w) P) (axw p w)
def MT (s:da):Bool:=ap s.1.2.2.2.1&&decide (s.1.2.2.2.2.2.1=255/\s.2.1.length=4)
def ak4 (s:da):mF:=(((),s.1.2.2.2.1,(),()),(s.2.2.2.1,aGU (upto (zx (pS s.1.2.2.2.1) (elemOf s.2.1) (lB (MX s.2.2.1))) (aJC s.2.2.2.2.1) 256),()))
theorem aBP:∀ s:da,MT s=true->∃ m e,al CB m s=some e/\(I8 ak4 s).run=some e:=by
 rintro ⟨⟨⟨⟩,⟨⟩,⟨⟩,c,⟨⟩,i,⟨⟩⟩,⟨l,⟨p0,p1,p2,p3,p4,p5,p6,p7,p8,⟨⟩⟩,⟨q0,q1,q2,q3,q4,q5,q6,q7,q8,⟨⟩⟩,⟨w0,w1,w2,w3,w4,w5,w6,w7,w8,w9,w10,w11,⟨⟩⟩,⟨⟩⟩⟩ h
 simp only [MT,Bool.and_eq_true,decide_eq_true_eq] at h
 obtain ⟨hs,rfl,hl⟩:=h
 obtain ⟨k,rfl⟩:∃ a,l=lst a:=⟨elemOf l,(aS hl).symm⟩
 have:=(aR (T:=CB) (λn w=>((((),(),(),c,(),255-(n:Int),()),(lst k,(p0,p1,p2,p3,p4,p5,p6,p7,p8,()),(q0,q1,q2,q3,q4,q5,q6,q7,q8,()),aGU w,())):da)) (zx (pS c) k (lB (MX (p0,p1,p2,p3,p4,p5,p6,p7,p8,()))))
  (λw=>(⟨(.exit 0,xg),(((),c,(),()),((q0,q1,q2,q3,q4,q5,q6,q7,q8,()),aGU w,()))⟩:aE)) 256 (aJC (w0,w1,w2,w3,w4,w5,w6,w7,w8,w9,w10,w11,())) (λ_ _=>True) trivial (λn w hn _=>⟨?_,trivial⟩) (λw _=> ?_)).1
 ·obtain ⟨m,hm⟩:=this
  exact ⟨m,_,hm,rfl⟩
 ·have e2:(255:Int)-(n:Int)-1=255-((n+1:Nat):Int):=by omega
  refine (OT.ao (decide_eq_true (by dsimp only;omega))).trans ((ah ?_).trans ?_)
  ·simp only [List.all_cons,List.all_nil,Bool.and_true,Bool.and_eq_true]
   exact ⟨hs,rfl⟩
  ·rcases (Bool.eq_false_or_eq_true (yp k (255-(n:Int)))).symm with hb|hb
   ·have e:zx (pS c) k (lB (MX (p0,p1,p2,p3,p4,p5,p6,p7,p8,()))) n w=axw (pS c) w:=by unfold zx;rw [hb];rfl
    rw [e,<-e2]
    refine (OT.aq hb).trans ((ah ?_).trans rfl)
    simp only [List.all_cons,List.all_nil,Bool.and_true]
    exact aH (by omega)
   ·have e:zx (pS c) k (lB (MX (p0,p1,p2,p3,p4,p5,p6,p7,p8,()))) n w=aCs (pS c) (axw (pS c) w) (lB (MX (p0,p1,p2,p3,p4,p5,p6,p7,p8,()))):=by unfold zx;rw [hb];rfl
    rw [e,<-e2]
    refine (OT.ao hb).trans ((ah ?_).trans rfl)
    simp only [List.all_cons,List.all_nil,Bool.and_true,Bool.and_eq_true]
    exact ⟨hs,aH (by omega)⟩
 ·exact OT.aq (decide_eq_false (by dsimp only;omega))
def aJ6:Ss:=(⟨0,0,0,0⟩,⟨0,0,0,0⟩,⟨0,0,0,0⟩)
def aKK (p:Nat) (k:aa) (P:Ss):Ss:=upto (zx p k P) aJ6 256
def acA (c:Int) (k:aa):aa:=Gg (pS (aI2 c 1)) k ⟨0,0,0,0⟩
def Zh (c:Int) (k:aa) (P:Pt):Pt:=cond (onB c P) (n7 (pS c) (aKK (pS c) (acA c k) (lB P))) cO
theorem PV {c:Int} (h:ap c=true):ap (aI2 c 1)=true:=by
 rcases cy h with rfl|rfl|rfl|rfl<;>decide+kernel
def aaA (_:RT):Bool:=true
def awe (x:RT):OT kH.Y:=.ok ⟨xf,((Zh x.1.1 x.1.2.1 x.1.2.2.1,()),())⟩
theorem aBO:ac Tryz.prog 45 (kH.aI aaA awe):=ao9 MT ak4 aBP _ _ λx oy _ ho=>by
 rw [<-ho]
 clear ho
 obtain ⟨⟨c,k,P,⟨⟩⟩,⟨⟩⟩:=x
 show _=(OT.ok ⟨xf,((Zh c k P,()),())⟩:OT kH.Y).run
 rcases (Bool.eq_false_or_eq_true (onB c P)).symm with h1|h1
 ·have e:Zh c k P=cO:=by unfold Zh;rw [h1];rfl
  rw [e]
  exact OT.ao (b:= !onB c P) (by rw [h1];rfl)
 ·have hs:=Ux h1
  have e:Zh c k P=n7 (pS c) (aKK (pS c) (acA c k) (lB P)):=by unfold Zh;rw [h1];rfl
  rw [e]
  refine (OT.aq (b:= !onB c P) (by rw [h1];rfl)).trans ((OT.ao (PV hs)).trans ((ah ?_).trans ?_))
  ·simp only [List.all_cons,List.all_nil,Bool.and_true,Bool.and_eq_true]
   refine ⟨?_,hs⟩
   refine (Bool.and_eq_true _ _).mpr ⟨hs,?_⟩
   exact decide_eq_true (p:=(255:Int)=255/\(lst (acA c k)).length=4) ⟨rfl,rfl⟩
  ·rfl
def FT:cj:=(kH.aI aaA awe)
theorem afm:ac Tryz.prog 45 FT:=aBO
theorem afl:aG FT:=aB
def OE:Env:=ay 45 FT SN
theorem GM:aQ Tryz.prog OE:=ag afm DT
theorem H7:ax OE:=ae afl OM
theorem agv:aW Tryz.prog te OE:=aL follows ar GM H7
def iD:aw:=⟨[.val false .int],[],true,0,false⟩
abbrev G1:Type:=((Int)×Unit)×(Unit)
def kT:az:=⟨[.val true .elem,.val false .int],[],false⟩
def X4:SV->Option az:=λ_=>some kT
def adp (a0:Int):OT iD.Y:=
 (.br (a0==(0:Int))
 (.ok ⟨kT,(({w0:=16513537,w1:=0,w2:=0,w3:=0},((0:Int),())),())⟩)
 (.br (a0==(1:Int))
  (.ok ⟨kT,(({w0:=16521217,w1:=0,w2:=0,w3:=0},((0:Int),())),())⟩)
  (.br (a0==(2:Int))
   (.ok ⟨kT,(({w0:=11037532056220336129,w1:=2469829653914515739,w2:=0,w3:=4611686018427387904},((0:Int),())),())⟩)
   (.br (a0==(3:Int))
    (.ok ⟨kT,(({w0:=10108024940646105089,w1:=2469829653919213789,w2:=0,w3:=4611686018427387904},((0:Int),())),())⟩)
    (.ok ⟨kT,(({w0:=0,w1:=0,w2:=0,w3:=0},((20:Int),())),())⟩)))))
theorem aFO (x:G1) (Q:iD.Y->Prop):wpf te OE av 1000 Tryz.f92 (iD.inp.inj x).tm (iD.inp.inj x).hp (fnK iD X4 Q) (λ_ _=>False)=(adp (x.1.1)).wpR Q:=by kernel_rfl
theorem amw (pre:G1->Bool) (F:G1->OT iD.Y) (hF:∀ (x:G1) oy,pre x=true->(F x).run=some oy->(adp (x.1.1)).run=some oy):ac Tryz.prog 92 (iD.aI pre F):=
 aD ar GM agv (f:=92) (fn:=Tryz.f92) (c:=aj Tryz.f92) (by kernel_rfl) (by kernel_rfl) (by kernel_rfl) (S:=iD) (k:=0) (by kernel_rfl) (λR hR=>af) (n:=1000) (sel:=X4) (λv o h=>by cases h;rfl) (pre:=pre) (F:=F) (T:=λx=>adp (x.1.1)) (λx Q=>aFO x Q) hF
def X5 (_:G1):Bool:=true
def atq (x:G1):OT iD.Y:=.br (ap x.1.1) (.ok ⟨kT,(((aY x.1.1.toNat).1,((0:Int),())),())⟩) (.ok ⟨kT,((⟨0,0,0,0⟩,((20:Int),())),())⟩)
theorem ajl:ac Tryz.prog 92 (iD.aI X5 atq):=amw _ _ λx oy _ ho=>by
 rw [<-ho]
 clear ho
 obtain ⟨⟨s,⟨⟩⟩,⟨⟩⟩:=x
 cases hs:ap s
 ·obtain ⟨h0,h1,h2,h3⟩:=vz hs
  exact (OT.aq h0).trans ((OT.aq h1).trans ((OT.aq h2).trans ((OT.aq h3).trans (OT.aq (b:=ap s) hs).symm)))
 ·rcases cy hs with h|h|h|h
  all_goals
   have h:s=_:=h
   subst h
   rfl
def EI:cj:=(iD.aI X5 atq)
theorem ado:ac Tryz.prog 92 EI:=ajl
theorem adn:aG EI:=aB
def NR:Env:=ay 92 EI OE
theorem Gs:aQ Tryz.prog NR:=ag ado GM
theorem HF:ax NR:=ae adn H7
theorem agj:aW Tryz.prog te NR:=aL follows ar Gs HF
def iJ:aw:=⟨[.val false .int],[],true,0,false⟩
abbrev G7:Type:=((Int)×Unit)×(Unit)
def qV:az:=⟨[.val false .int,.val false .int],[],false⟩
def Yk:SV->Option az:=λ_=>some qV
def adL (a0:Int):OT iJ.Y:=
 (.br (decide (a0<(0:Int)))
 (.ok ⟨qV,(((0:Int),((20:Int),())),())⟩)
 (.br (decide ((3:Int)<a0))
  (.ok ⟨qV,(((0:Int),((20:Int),())),())⟩)
  (gd [inB a0 4,decide (Int.toNat a0+0<4)] (.ok ⟨qV,((List.getD [(9:Int),(11:Int),(32:Int),(32:Int)] (Int.toNat a0+0) (0:Int),((0:Int),())),())⟩))))
theorem aFS (x:G7) (Q:iJ.Y->Prop):wpf te NR av 1000 Tryz.f131 (iJ.inp.inj x).tm (iJ.inp.inj x).hp (fnK iJ Yk Q) (λ_ _=>False)=(adL (x.1.1)).wpR Q:=by kernel_rfl
theorem amL (pre:G7->Bool) (F:G7->OT iJ.Y) (hF:∀ (x:G7) oy,pre x=true->(F x).run=some oy->(adL (x.1.1)).run=some oy):ac Tryz.prog 131 (iJ.aI pre F):=
 aD ar Gs agj (f:=131) (fn:=Tryz.f131) (c:=aj Tryz.f131) (by kernel_rfl) (by kernel_rfl) (by kernel_rfl) (S:=iJ) (k:=0) (by kernel_rfl) (λR hR=>af) (n:=1000) (sel:=Yk) (λv o h=>by cases h;rfl) (pre:=pre) (F:=F) (T:=λx=>adL (x.1.1)) (λx Q=>aFS x Q) hF
def Yl (_:G7):Bool:=true
def atB (x:G7):OT iJ.Y:=.br (ap x.1.1) (.ok ⟨qV,(((aY x.1.1.toNat).2.1,((0:Int),())),())⟩) (.ok ⟨qV,(((0:Int),((20:Int),())),())⟩)
theorem ajt:ac Tryz.prog 131 (iJ.aI Yl atB):=amL _ _ λx oy _ ho=>by
 rw [<-ho]
 clear ho
 obtain ⟨⟨s,⟨⟩⟩,⟨⟩⟩:=x
 rcases (Bool.eq_false_or_eq_true (ap s)).symm with hs|hs
 ·refine Eq.trans ?_ (OT.aq (b:=ap s) hs).symm
  by_cases h0:s<0
  ·exact OT.ao (decide_eq_true h0)
  ·refine (OT.aq (decide_eq_false h0)).trans (OT.ao (decide_eq_true ?_))
   show (3:Int)<s
   simp only [ap,Bool.and_eq_false_iff,decide_eq_false_iff_not] at hs
   omega
 ·rcases cy hs with h|h|h|h
  all_goals
   have h:s=_:=h
   subst h
   rfl
def ES:cj:=(iJ.aI Yl atB)
theorem adK:ac Tryz.prog 131 ES:=ajt
theorem adJ:aG ES:=aB
def NW:Env:=ay 131 ES NR
theorem Gx:aQ Tryz.prog NW:=ag adK Gs
theorem HK:ax NW:=ae adJ HF
theorem agl:aW Tryz.prog te NW:=aL follows ar Gx HK
def kt:aw:=⟨[.val false .int],[],true,0,false⟩
abbrev Qp:Type:=((Int)×Unit)×(Unit)
def Bv:az:=⟨[.val false .u64],[],false⟩
def X7:SV->Option az:=λ_=>some Bv
def ads (a0:Int):OT kt.Y:=
 (.br (a0==(0:Int))
 (.ok ⟨Bv,(((16513537:UInt64),()),())⟩)
 (.ok ⟨Bv,(((16521217:UInt64),()),())⟩))
theorem aFP (x:Qp) (Q:kt.Y->Prop):wpf te NW av 1000 Tryz.f102 (kt.inp.inj x).tm (kt.inp.inj x).hp (fnK kt X7 Q) (λ_ _=>False)=(ads (x.1.1)).wpR Q:=by kernel_rfl
theorem amB (pre:Qp->Bool) (F:Qp->OT kt.Y) (hF:∀ (x:Qp) oy,pre x=true->(F x).run=some oy->(ads (x.1.1)).run=some oy):ac Tryz.prog 102 (kt.aI pre F):=
 aD ar Gx agl (f:=102) (fn:=Tryz.f102) (c:=aj Tryz.f102) (by kernel_rfl) (by kernel_rfl) (by kernel_rfl) (S:=kt) (k:=0) (by kernel_rfl) (λR hR=>af) (n:=1000) (sel:=X7) (λv o h=>by cases h;rfl) (pre:=pre) (F:=F) (T:=λx=>ads (x.1.1)) (λx Q=>aFP x Q) hF
def WN (s:Int):UInt64:=cond (s==0) 16513537 16521217
def X8 (_:Qp):Bool:=true
def ats (x:Qp):OT kt.Y:=.ok ⟨Bv,((WN x.1.1,()),())⟩
theorem aAe:ac Tryz.prog 102 (kt.aI X8 ats):=amB _ _ λx oy _ ho=>by
 rw [<-ho]
 clear ho
 obtain ⟨⟨s,⟨⟩⟩,⟨⟩⟩:=x
 show _=(OT.ok ⟨Bv,((WN s,()),())⟩:OT kt.Y).run
 unfold WN
 rcases (Bool.eq_false_or_eq_true (s==0)).symm with h|h
 ·rw [h];exact OT.aq h
 ·rw [h];exact OT.ao h
def EK:cj:=(kt.aI X8 ats)
theorem adr:ac Tryz.prog 102 EK:=aAe
theorem adq:aG EK:=aB
def Gt:Env:=ay 102 EK NW
theorem xI:aQ Tryz.prog Gt:=ag adr Gx
theorem HG:ax Gt:=ae adq HK
theorem NS:aW Tryz.prog te Gt:=aL follows ar xI HG
def eM:aw:=⟨[.val true .elem,.val true .elem],[],true,0,false⟩
abbrev vS:Type:=((aa)×(aa)×Unit)×(Unit)
def oR:Shape:=⟨24,[(2,.ptr 0 0 0),(3,.ptr 1 0 0),(5,.val false .int)],[(0,.row .u64),(1,.row .u64)],0,true⟩
abbrev bh:Type:=((Unit)×(Unit)×(Int)×Unit)×((List (UInt64))×(List (UInt64))×Unit)
def kc:Shape:=⟨24,[(4,.val false .bool)],[],0,true⟩
abbrev iH:Type:=((Bool)×Unit)×(Unit)
def nl:Shape:=⟨24,[],[],0,true⟩
abbrev iI:Type:=(Unit)×(Unit)
def Qy:SE->Option Shape:=fc [(0,nl)] (some kc)
def amK (a5:Int) (c0:List (UInt64)) (c1:List (UInt64)):OT (Sum bh aE):=
 let z0:Bool:=inB a5 4
 let z1:Bool:=decide (Int.toNat a5+0<List.length c0)
 let z2:Bool:=decide (Int.toNat a5+0<List.length c1)
 let z3:UInt64:=List.getD c0 (Int.toNat a5+0) (0:UInt64)
 let z4:UInt64:=List.getD c1 (Int.toNat a5+0) (0:UInt64)
 (.br (decide ((0:Int)<=a5))
 (gd [z0,z1,z0,z2] (.br (!z3==z4)
  (gd [z0,z1,z0,z2] (.ok (.inr ⟨(.ret,kc),((decide (z3<z4),()),())⟩)))
  (gd [inR (a5-(1:Int))] (.ok (.inl (((),((),(a5-(1:Int),()))),(c0,(c1,()))))))))
 (.ok (.inr ⟨(.exit 0,nl),((),())⟩)))
def gv (s:bh):OT (Sum bh aE):=amK (s.1.2.2.1) (s.2.1) (s.2.2.1)
theorem amH (s:bh) (Q:Sum bh aE->Prop):wps te Gt av 1000 (aU (aj Tryz.f99) 0) (oR.inj s) (bU oR Qy (Q:Sum oR.T aE->Prop))=(gv s).wpR Q:=by kernel_rfl
def oS (g0_r:bh->iH) (c0_r:bh->Bool) (g0_0:bh->iI) (s:bh):OT aE:=(.br (c0_r s) (.ok ⟨(.ret,kc),g0_r s⟩) (.ok ⟨(.exit 0,nl),g0_0 s⟩))
def lg:az:=⟨[.val false .bool],[],false⟩
def Kr:SV->Option az:=λ_=>some lg
def Ku (ok0:bh->Bool) (g0_r:bh->iH) (c0_r:bh->Bool) (g0_0:bh->iI) (a0:aa) (a1:aa):OT eM.Y:=
 let z0:(PUnit×PUnit×Int×PUnit)×List UInt64×List UInt64×PUnit:=(((),(),(3:Int),()),[a0.w0,a0.w1,a0.w2,a0.w3],[a1.w0,a1.w1,a1.w2,a1.w3],())
 (gd [ok0 z0] (.br (c0_r z0)
 (.ok ⟨lg,(((g0_r z0).fst.fst,()),())⟩)
 (.ok ⟨lg,((false,()),())⟩)))
theorem atz (ok0:bh->Bool) (g0_r:bh->iH) (c0_r:bh->Bool) (g0_0:bh->iI) (x:vS) (Q:eM.Y->Prop):wpf te Gt (aO 0 (cf oR 0 ok0 (oS g0_r c0_r g0_0)) av) 1000 Tryz.f99 (eM.inp.inj x).tm (eM.inp.inj x).hp (fnK eM Kr Q) (λ_ _=>False)=(Ku ok0 g0_r c0_r g0_0 (x.1.1) (x.1.2.1)).wpR Q:=by kernel_rfl
theorem Yg (ok0:bh->Bool) (g0_r:bh->iH) (c0_r:bh->Bool) (g0_0:bh->iI) (h0:∀ s:bh,ok0 s=true->∃ m e,al (gv) m s=some e/\(oS g0_r c0_r g0_0 s).run=some e) (pre:vS->Bool) (F:vS->OT eM.Y) (hF:∀ (x:vS) oy,pre x=true->(F x).run=some oy->(Ku ok0 g0_r c0_r g0_0 (x.1.1) (x.1.2.1)).run=some oy):ac Tryz.prog 99 (eM.aI pre F):=
 aD ar xI NS (f:=99) (fn:=Tryz.f99) (c:=aj Tryz.f99) (by kernel_rfl) (by kernel_rfl) (by kernel_rfl) (S:=eM) (k:=0) (by kernel_rfl) (λR hR=>(aA (c:=(aj Tryz.f99)) (by kernel_rfl) (id:=0) (by kernel_rfl) (aP ar xI NS (sh:=oR) hR (xs:=Qy) (aC (by kernel_rfl) (by kernel_rfl) hR) aM af (n:=1000) (T:=gv) (λs Q=>amH s Q) (ok:=ok0) (f:=oS g0_r c0_r g0_0) h0) af)) (n:=1000) (sel:=Kr) (λv o h=>by cases h;rfl) (pre:=pre) (F:=F) (T:=λx=>Ku ok0 g0_r c0_r g0_0 (x.1.1) (x.1.2.1)) (λx Q=>atz ok0 g0_r c0_r g0_0 x Q) hF
theorem sj {x y N M:Nat} (hx:x<18446744073709551616) (hy:y<18446744073709551616) (h:¬N=M):(x+18446744073709551616*N<y+18446744073709551616*M ↔ N<M)/\¬x+18446744073709551616*N=y+18446744073709551616*M:=by
 omega
theorem Ro {x y N:Nat}:(x+18446744073709551616*N<y+18446744073709551616*N ↔ x<y)/\(¬x=y->¬x+18446744073709551616*N=y+18446744073709551616*N):=by
 omega
theorem uR {n m:Nat} {x y:UInt64} (h:n<m ↔ x.toNat<y.toNat):decide (x<y)=Nat.blt n m:=by
 have h1:Nat.blt n m=true ↔ n<m:=⟨dW,λh=>Nat.ble_eq_true_of_le h⟩
 rw [Bool.eq_iff_iff,decide_eq_true_iff,h1,h,UInt64.lt_iff_toNat_lt]
theorem Fp {x y:UInt64} (h:¬x=y):¬x.toNat=y.toNat:=λe=>h (UInt64.toNat_inj.1 e)
def dV (a b:aa) (i:Int):bh:=(((),(),i,()),(lst a,lst b,()))
theorem xl (a b:aa) (k:Nat) (hk:k<4) (h:(lst a).getD k 0=(lst b).getD k 0):(gv (dV a b (k:Int))).run=some (.inl (dV a b ((k:Int)-1))):=by
 refine (OT.ao (decide_eq_true (by dsimp only [dV];omega))).trans ((ah ?_).trans ((OT.aq ?_).trans ((ah ?_).trans rfl)))
 ·simp only [dV,Int.toNat_natCast,Nat.add_zero,cN,List.all_cons,List.all_nil,Bool.and_true,Bool.and_eq_true]
  exact ⟨aN (by omega),decide_eq_true hk,aN (by omega),decide_eq_true hk⟩
 ·simp only [dV,Int.toNat_natCast,Nat.add_zero,h,beq_self_eq_true,Bool.not_true]
 ·simp only [dV,List.all_cons,List.all_nil,Bool.and_true]
  exact aH (by omega)
theorem nO (a b:aa) (k:Nat) (hk:k<4) (h:¬(lst a).getD k 0=(lst b).getD k 0):(gv (dV a b (k:Int))).run=some (.inr ⟨(.ret,kc),((decide ((lst a).getD k 0<(lst b).getD k 0),()),())⟩):=by
 refine (OT.ao (decide_eq_true (by dsimp only [dV];omega))).trans ((ah ?_).trans ((OT.ao ?_).trans ((ah ?_).trans ?_)))
 ·simp only [dV,Int.toNat_natCast,Nat.add_zero,cN,List.all_cons,List.all_nil,Bool.and_true,Bool.and_eq_true]
  exact ⟨aN (by omega),decide_eq_true hk,aN (by omega),decide_eq_true hk⟩
 ·simp only [dV,Int.toNat_natCast,Nat.add_zero,beq_eq_false_iff_ne.2 h,Bool.not_false]
 ·simp only [dV,Int.toNat_natCast,Nat.add_zero,cN,List.all_cons,List.all_nil,Bool.and_true,Bool.and_eq_true]
  exact ⟨aN (by omega),decide_eq_true hk,aN (by omega),decide_eq_true hk⟩
 ·simp only [dV,Int.toNat_natCast,Nat.add_zero]
  rfl
def Kt (s:bh):Bool:=decide (s.1.2.2.1=3/\s.2.1.length=4/\s.2.2.1.length=4)
def EP (s:bh):iH:=((Nat.blt (elemOf s.2.1).nat (elemOf s.2.2.1).nat,()),())
def mc (s:bh):Bool:= !eqE (elemOf s.2.1) (elemOf s.2.2.1)
def EQ (_:bh):iI:=((),())
theorem CL {a b:aa} (h:¬a=b) {r:Bool} (hr:r=Nat.blt a.nat b.nat) (hm:∃ m,al gv m (dV a b 3)=some ⟨(.ret,kc),((r,()),())⟩):
 ∃ m e,al gv m (dV a b 3)=some e/\(oS EP mc EQ (dV a b 3)).run=some e:=by
 obtain ⟨m,hm⟩:=hm
 refine ⟨m,_,hm,?_⟩
 have hc:mc (dV a b 3)=true:=by
  show (!eqE a b)=true
  rw [Bool.eq_false_iff.2 λe=>h (zM.1 e)]
  rfl
 subst hr
 exact OT.ao hc
theorem amJ:∀ s:bh,Kt s=true->∃ m e,al gv m s=some e/\(oS EP mc EQ s).run=some e:=by
 rintro ⟨⟨⟨⟩,⟨⟩,i,⟨⟩⟩,⟨l1,l2,⟨⟩⟩⟩ h
 have h':=of_decide_eq_true h
 dsimp only at h'
 obtain ⟨rfl,h1,h2⟩:=h'
 obtain ⟨a,rfl⟩:∃ a,l1=lst a:=⟨elemOf l1,(aS h1).symm⟩
 obtain ⟨b,rfl⟩:∃ a,l2=lst a:=⟨elemOf l2,(aS h2).symm⟩
 have ha0:=a.w0.toNat_lt
 have hb0:=b.w0.toNat_lt
 have ha1:=a.w1.toNat_lt
 have hb1:=b.w1.toNat_lt
 have ha2:=a.w2.toNat_lt
 have hb2:=b.w2.toNat_lt
 by_cases h3:a.w3=b.w3
 ·have s3:=xl a b 3 (by omega) h3
  by_cases h2:a.w2=b.w2
  ·have s2:=xl a b 2 (by omega) h2
   by_cases h1:a.w1=b.w1
   ·have s1:=xl a b 1 (by omega) h1
    by_cases h0:a.w0=b.w0
    ·have s0:=xl a b 0 (by omega) h0
     have e:a=b:=by cases a;cases b;simp_all
     have sx:(gv (dV a b (((0:Nat):Int)-1))).run=some (.inr ⟨(.exit 0,nl),((),())⟩):=OT.aq (decide_eq_false (by dsimp only [dV];omega))
     refine ⟨_,_,aF s3 (aF s2 (aF s1 (aF s0 (aK sx)))),?_⟩
     have hc:mc (((),(),3,()),(lst a,lst b,()))=false:=by
      show (!eqE a b)=false
      rw [e,akU]
      rfl
     exact OT.aq hc
    ·refine CL (λe=>h0 (by rw [e])) (uR ?_) ⟨_,aF s3 (aF s2 (aF s1 (aK (nO a b 0 (by omega) h0))))⟩
     show a.nat<b.nat ↔ a.w0.toNat<b.w0.toNat
     unfold Sx.aa.nat
     rw [h3,h2,h1]
     exact Ro.1
   ·refine CL (λe=>h1 (by rw [e])) (uR ?_) ⟨_,aF s3 (aF s2 (aK (nO a b 1 (by omega) h1)))⟩
    show a.nat<b.nat ↔ a.w1.toNat<b.w1.toNat
    unfold Sx.aa.nat
    rw [h3,h2]
    have k:=Ro (x:=a.w1.toNat) (y:=b.w1.toNat) (N:=b.w2.toNat+18446744073709551616*b.w3.toNat)
    exact (sj ha0 hb0 (k.2 (Fp h1))).1.trans k.1
  ·refine CL (λe=>h2 (by rw [e])) (uR ?_) ⟨_,aF s3 (aK (nO a b 2 (by omega) h2))⟩
   show a.nat<b.nat ↔ a.w2.toNat<b.w2.toNat
   unfold Sx.aa.nat
   rw [h3]
   have k:=Ro (x:=a.w2.toNat) (y:=b.w2.toNat) (N:=b.w3.toNat)
   have k1:=sj ha1 hb1 (k.2 (Fp h2))
   exact (sj ha0 hb0 k1.2).1.trans (k1.1.trans k.1)
 ·refine CL (λe=>h3 (by rw [e])) (uR ?_) ⟨_,aK (nO a b 3 (by omega) h3)⟩
  show a.nat<b.nat ↔ a.w3.toNat<b.w3.toNat
  unfold Sx.aa.nat
  have k2:=sj ha2 hb2 (Fp h3)
  have k1:=sj ha1 hb1 k2.2
  exact (sj ha0 hb0 k1.2).1.trans (k1.1.trans k2.1)
def Ks (_:vS):Bool:=true
def Yh (x:vS):OT eM.Y:=.ok ⟨lg,((Nat.blt x.1.1.nat x.1.2.1.nat,()),())⟩
theorem amI:ac Tryz.prog 99 (eM.aI Ks Yh):=Yg Kt EP mc EQ amJ _ _ λx oy _ ho=>by
 rw [<-ho]
 clear ho
 obtain ⟨⟨a,b,⟨⟩⟩,⟨⟩⟩:=x
 refine (ah ?_).trans ?_
 ·simp only [List.all_cons,List.all_nil,Bool.and_true]
  exact decide_eq_true ⟨rfl,rfl,rfl⟩
 ·rcases (Bool.eq_false_or_eq_true (eqE a b)).symm with h|h
  ·have hc:mc (((),(),3,()),(lst a,lst b,()))=true:=by
    show (!eqE a b)=true
    rw [h]
    rfl
   exact OT.ao hc
  ·have hc:mc (((),(),3,()),(lst a,lst b,()))=false:=by
    show (!eqE a b)=false
    rw [h]
    rfl
   refine (OT.aq hc).trans ?_
   have e:Nat.blt a.nat b.nat=false:=by
    rw [zM.1 h]
    cases hb:Nat.blt b.nat b.nat
    ·rfl
    ·exact absurd (dW hb) (Nat.lt_irrefl _)
   show (OT.ok ⟨lg,((false,()),())⟩:OT eM.Y).run=(OT.ok ⟨lg,((Nat.blt a.nat b.nat,()),())⟩:OT eM.Y).run
   rw [e]
def tg:cj:=(eM.aI Ks Yh)
theorem T1:ac Tryz.prog 99 tg:=amI
theorem T0:aG tg:=aB
def qd:Env:=ay 99 tg Gt
theorem nR:aQ Tryz.prog qd:=ag T1 xI
theorem yw:ax qd:=ae T0 HG
theorem Dl:aW Tryz.prog te qd:=aL follows ar nR yw
def fU:aw:=⟨[.val true .elem,.val true .elem],[],true,0,false⟩
abbrev vO:Type:=((aa)×(aa)×Unit)×(Unit)
def oI:Shape:=⟨39,[(2,.ptr 0 0 0),(3,.ptr 1 0 0),(4,.ptr 2 0 0),(5,.ptr 3 0 0),(6,.val false .u64),(7,.val false .int)],[(0,.row .u64),(1,.row .u64),(2,.row .u64),(3,.row .u64)],0,true⟩
abbrev bW:Type:=((Unit)×(Unit)×(Unit)×(Unit)×(UInt64)×(Int)×Unit)×((List (UInt64))×(List (UInt64))×(List (UInt64))×(List (UInt64))×Unit)
def ni:Shape:=⟨39,[(4,.ptr 0 0 0),(5,.ptr 1 0 0)],[(0,.row .u64),(1,.row .u64)],0,true⟩
abbrev iE:Type:=((Unit)×(Unit)×Unit)×((List (UInt64))×(List (UInt64))×Unit)
def Qn:SE->Option Shape:=fc [(0,ni)] none
def amA (a6:UInt64) (a7:Int) (c0:List (UInt64)) (c1:List (UInt64)) (c2:List (UInt64)) (c3:List (UInt64)):OT (Sum bW aE):=
 let z0:Bool:=inB a7 4
 let z1:Bool:=decide (Int.toNat a7+0<List.length c0)
 let z2:Bool:=decide (Int.toNat a7+0<List.length c1)
 let z3:UInt64:=List.getD c0 (Int.toNat a7+0) (0:UInt64)
 let z4:UInt64:=List.getD c1 (Int.toNat a7+0) (0:UInt64)
 let z5:Bool:=inR (a7+(1:Int))
 let z6:UInt64:=z3-z4
 let z7:List UInt64:=List.set c3 (Int.toNat a7+0) (z6-a6)
 (.br (decide (a7<(4:Int)))
 (gd [z0,z1,z0,z2,z0,decide (Int.toNat a7+0<List.length c3),z0,z1,z0,z2] (.br (decide (z3<z4))
  (gd [z5] (.ok (.inl (((),((),((),((),((1:UInt64),(a7+(1:Int),())))))),(c0,(c1,(c2,(z7,()))))))))
  (.br (decide (z6<a6))
   (gd [z5] (.ok (.inl (((),((),((),((),((1:UInt64),(a7+(1:Int),())))))),(c0,(c1,(c2,(z7,()))))))))
   (gd [z5] (.ok (.inl (((),((),((),((),((0:UInt64),(a7+(1:Int),())))))),(c0,(c1,(c2,(z7,())))))))))))
 (.ok (.inr ⟨(.exit 0,ni),(((),((),())),(c2,(c3,())))⟩)))
def oJ (s:bW):OT (Sum bW aE):=amA (s.1.2.2.2.2.1) (s.1.2.2.2.2.2.1) (s.2.1) (s.2.2.1) (s.2.2.2.1) (s.2.2.2.2.1)
theorem amx (s:bW) (Q:Sum bW aE->Prop):wps te qd av 1000 (aU (aj Tryz.f103) 0) (oI.inj s) (bU oI Qn (Q:Sum oI.T aE->Prop))=(oJ s).wpR Q:=by kernel_rfl
def vN (g0_0:bW->iE) (s:bW):OT aE:=(.ok ⟨(.exit 0,ni),g0_0 s⟩)
def EJ:az:=⟨[.val true .elem],[],false⟩
def Kf:SV->Option az:=λ_=>some EJ
def Ki (ok0:bW->Bool) (g0_0:bW->iE) (a0:aa) (a1:aa):OT fU.Y:=
 let z0:(PUnit×PUnit×PUnit×PUnit×UInt64×Int×PUnit)×List UInt64×List UInt64×List UInt64×List UInt64×PUnit:=(((),(),(),(),(0:UInt64),(0:Int),()),[a0.w0,a0.w1,a0.w2,a0.w3],[a1.w0,a1.w1,a1.w2,a1.w3],[(0:UInt64),(0:UInt64),(0:UInt64),(0:UInt64)],[(0:UInt64),(0:UInt64),(0:UInt64),(0:UInt64)],())
 let z1:=(g0_0 z0).snd
 let z2:=z1.snd.fst
 let z3:=z1.fst
 let z4:List UInt64:=lay z3 z2 4 (0:UInt64)
 (gd [ok0 z0,decide (4<=List.length z2),decide ((4/1:Nat)+0<=List.length z3),decide (4<=List.length z4)] (.ok ⟨EJ,(({w0:=List.getD z4 0 0,w1:=List.getD z4 1 0,w2:=List.getD z4 2 0,w3:=List.getD z4 3 0},()),())⟩))
theorem atr (ok0:bW->Bool) (g0_0:bW->iE) (x:vO) (Q:fU.Y->Prop):wpf te qd (aO 0 (cf oI 0 ok0 (vN g0_0)) av) 1000 Tryz.f103 (fU.inp.inj x).tm (fU.inp.inj x).hp (fnK fU Kf Q) (λ_ _=>False)=(Ki ok0 g0_0 (x.1.1) (x.1.2.1)).wpR Q:=by kernel_rfl
theorem X6 (ok0:bW->Bool) (g0_0:bW->iE) (h0:∀ s:bW,ok0 s=true->∃ m e,al (oJ) m s=some e/\(vN g0_0 s).run=some e) (pre:vO->Bool) (F:vO->OT fU.Y) (hF:∀ (x:vO) oy,pre x=true->(F x).run=some oy->(Ki ok0 g0_0 (x.1.1) (x.1.2.1)).run=some oy):ac Tryz.prog 103 (fU.aI pre F):=
 aD ar nR Dl (f:=103) (fn:=Tryz.f103) (c:=aj Tryz.f103) (by kernel_rfl) (by kernel_rfl) (by kernel_rfl) (S:=fU) (k:=0) (by kernel_rfl) (λR hR=>(aA (c:=(aj Tryz.f103)) (by kernel_rfl) (id:=0) (by kernel_rfl) (aP ar nR Dl (sh:=oI) hR (xs:=Qn) (aC (by kernel_rfl) (by kernel_rfl) hR) aM af (n:=1000) (T:=oJ) (λs Q=>amx s Q) (ok:=ok0) (f:=vN g0_0) h0) af)) (n:=1000) (sel:=Kf) (λv o h=>by cases h;rfl) (pre:=pre) (F:=F) (T:=λx=>Ki ok0 g0_0 (x.1.1) (x.1.2.1)) (λx Q=>atr ok0 g0_0 x Q) hF
theorem Rh {x y c:UInt64} (hc:c.toNat<=1):x-y-c=qw x y c:=by
 have hx:=x.toNat_lt
 have hy:=y.toNat_lt
 unfold qw
 rw [<-UInt64.toNat_inj,UInt64.toNat_sub,UInt64.toNat_sub,UInt64.toNat_ofNat']
 omega
theorem aj1 {x y c:UInt64} (h:x<y):WL x y c=1:=by
 have h:=UInt64.lt_iff_toNat_lt.1 h
 rw [<-UInt64.toNat_inj,AO,if_pos (by omega)]
 rfl
theorem aj0 {x y c:UInt64} (h:¬x<y) (hc:x-y<c):WL x y c=1:=by
 have hx:=x.toNat_lt
 have h:¬x.toNat<y.toNat:=λe=>h (UInt64.lt_iff_toNat_lt.2 e)
 have hc:=UInt64.lt_iff_toNat_lt.1 hc
 rw [UInt64.toNat_sub] at hc
 rw [<-UInt64.toNat_inj,AO,if_pos (by omega)]
 rfl
theorem ajZ {x y c:UInt64} (h:¬x<y) (hc:¬x-y<c):WL x y c=0:=by
 have hx:=x.toNat_lt
 have h:¬x.toNat<y.toNat:=λe=>h (UInt64.lt_iff_toNat_lt.2 e)
 have hc:¬(x-y).toNat<c.toNat:=λe=>hc (UInt64.lt_iff_toNat_lt.2 e)
 rw [UInt64.toNat_sub] at hc
 rw [<-UInt64.toNat_inj,AO,if_neg (by omega)]
 rfl
def Kh (s:bW):Bool:=decide (s.1.2.2.2.2.1=0/\s.1.2.2.2.2.2.1=0/\s.2.1.length=4/\s.2.2.1.length=4/\s.2.2.2.2.1= [0,0,0,0])
def Qo (s:bW):iE:=(((),(),()),(s.2.2.2.1,(upto (xY s.2.1 s.2.2.1) ([0,0,0,0],0) 4).1,()))
theorem amz:∀ s:bW,Kh s=true->∃ m e,al oJ m s=some e/\(vN Qo s).run=some e:=by
 rintro ⟨⟨⟨⟩,⟨⟩,⟨⟩,⟨⟩,c,i,⟨⟩⟩,⟨c0,c1,c2,c3,⟨⟩⟩⟩ h
 have h':=of_decide_eq_true h
 dsimp only at h'
 obtain ⟨rfl,rfl,h0,h1,rfl⟩:=h'
 have:=(aR (T:=oJ) (λk s=>((((),(),(),(),s.2,(k:Int),()),(c0,c1,c2,s.1,())):bW)) (xY c0 c1)
  (λs=>(⟨(.exit 0,ni),(((),(),()),(c2,s.1,()))⟩:aE)) 4 ([0,0,0,0],0) (λ_ s=>s.1.length=4/\s.2.toNat<=1) ⟨rfl,by decide⟩ (λk s hk hs=>⟨?_,?_⟩) (λs hs=> ?_)).1
 ·obtain ⟨m,hm⟩:=this
  exact ⟨m,_,hm,rfl⟩
 ·obtain ⟨o,c⟩:=s
  dsimp only at hs
  refine (OT.ao (decide_eq_true (by dsimp only;omega))).trans ((ah ?_).trans ?_)
  ·simp only [Int.toNat_natCast,Nat.add_zero,h0,h1,hs.1,List.all_cons,List.all_nil,Bool.and_true,Bool.and_eq_true]
   exact ⟨aN (by omega),decide_eq_true (by omega),aN (by omega),decide_eq_true (by omega),aN (by omega),decide_eq_true (by omega),aN (by omega),decide_eq_true (by omega),aN (by omega),decide_eq_true (by omega)⟩
  ·have hi:∀ z,(gd [inR ((k:Int)+1)] z:OT (Sum bW aE)).run=z.run:=λz=>ah (by simp only [List.all_cons,List.all_nil,Bool.and_true];exact aH (by omega))
   have hw:=Rh (x:=c0.getD k 0) (y:=c1.getD k 0) hs.2
   by_cases hx:c0.getD k 0<c1.getD k 0
   ·have hk1:=aj1 (c:=c) hx
    refine (OT.ao (decide_eq_true ?_)).trans ((hi _).trans ?_)
    ·simp only [Int.toNat_natCast,Nat.add_zero];exact hx
    ·simp only [OT.cT,Int.toNat_natCast,Nat.add_zero,xY,hw,hk1]
     rfl
   ·refine (OT.aq (decide_eq_false ?_)).trans ?_
    ·simp only [Int.toNat_natCast,Nat.add_zero];exact hx
    ·by_cases hd:c0.getD k 0-c1.getD k 0<c
     ·have hk2:=aj0 hx hd
      refine (OT.ao (decide_eq_true ?_)).trans ((hi _).trans ?_)
      ·simp only [Int.toNat_natCast,Nat.add_zero];exact hd
      ·simp only [OT.cT,Int.toNat_natCast,Nat.add_zero,xY,hw,hk2]
       rfl
     ·have hk3:=ajZ hx hd
      refine (OT.aq (decide_eq_false ?_)).trans ((hi _).trans ?_)
      ·simp only [Int.toNat_natCast,Nat.add_zero];exact hd
      ·simp only [OT.cT,Int.toNat_natCast,Nat.add_zero,xY,hw,hk3]
       rfl
 ·exact ⟨by simp only [xY,List.length_set];exact hs.1,yR⟩
 ·exact OT.aq (decide_eq_false (by dsimp only;omega))
def Kg (_:vO):Bool:=true
def Kj (x:vO):OT fU.Y:=.ok ⟨EJ,(((eE x.1.1 x.1.2.1).1,()),())⟩
theorem amy:ac Tryz.prog 103 (fU.aI Kg Kj):=X6 Kh Qo amz _ _ λx oy hp ho=>by
 rw [<-ho]
 clear ho
 obtain ⟨⟨a,b,⟨⟩⟩,⟨⟩⟩:=x
 obtain ⟨_,hw⟩:=Ef a b
 refine (ah ?_).trans ?_
 ·simp only [List.all_cons,List.all_nil,Bool.and_true,Bool.and_eq_true]
  exact ⟨rfl,rfl,rfl,rfl⟩
 ·simp only [Kj,hw]
  rfl
def tb:cj:=(fU.aI Kg Kj)
theorem TS:ac Tryz.prog 103 tb:=amy
theorem TR:aG tb:=aB
def qb:Env:=ay 103 tb qd
theorem nQ:aQ Tryz.prog qb:=ag TS nR
theorem yu:ax qb:=ae TR yw
theorem Dj:aW Tryz.prog te qb:=aL follows ar nQ yu
def iC:aw:=⟨[.val true .elem,.val true .elem],[],true,0,false⟩
abbrev EE:Type:=((aa)×(aa)×Unit)×(Unit)
def s8:Shape:=⟨39,[(2,.ptr 0 0 0),(3,.ptr 1 0 0),(4,.ptr 2 0 0),(5,.ptr 3 0 0),(6,.val false .u64),(7,.val false .int)],[(0,.row .u64),(1,.row .u64),(2,.row .u64),(3,.row .u64)],0,true⟩
abbrev cw:Type:=((Unit)×(Unit)×(Unit)×(Unit)×(UInt64)×(Int)×Unit)×((List (UInt64))×(List (UInt64))×(List (UInt64))×(List (UInt64))×Unit)
def qK:Shape:=⟨39,[(4,.ptr 0 0 0),(5,.ptr 1 0 0)],[(0,.row .u64),(1,.row .u64)],0,true⟩
abbrev ka:Type:=((Unit)×(Unit)×Unit)×((List (UInt64))×(List (UInt64))×Unit)
def XT:SE->Option Shape:=fc [(0,qK)] none
def atg (a6:UInt64) (a7:Int) (c0:List (UInt64)) (c1:List (UInt64)) (c2:List (UInt64)) (c3:List (UInt64)):OT (Sum cw aE):=
 let z0:Bool:=inB a7 4
 let z1:Bool:=decide (Int.toNat a7+0<List.length c0)
 let z2:UInt64:=List.getD c0 (Int.toNat a7+0) (0:UInt64)
 let z3:UInt64:=z2+List.getD c1 (Int.toNat a7+0) (0:UInt64)
 let z4:Bool:=inR (a7+(1:Int))
 let z5:List UInt64:=List.set c3 (Int.toNat a7+0) (z3+a6)
 (.br (decide (a7<(4:Int)))
 (gd [z0,z1,z0,decide (Int.toNat a7+0<List.length c1),z0,decide (Int.toNat a7+0<List.length c3),z0,z1] (.br (decide (z3<z2))
  (gd [z4] (.ok (.inl (((),((),((),((),((1:UInt64),(a7+(1:Int),())))))),(c0,(c1,(c2,(z5,()))))))))
  (gd [z0,decide (Int.toNat a7+0<List.length z5)] (.br (decide (List.getD z5 (Int.toNat a7+0) (0:UInt64)<z3))
   (gd [z4] (.ok (.inl (((),((),((),((),((1:UInt64),(a7+(1:Int),())))))),(c0,(c1,(c2,(z5,()))))))))
   (gd [z4] (.ok (.inl (((),((),((),((),((0:UInt64),(a7+(1:Int),())))))),(c0,(c1,(c2,(z5,()))))))))))))
 (.ok (.inr ⟨(.exit 0,qK),(((),((),())),(c2,(c3,())))⟩)))
def s9 (s:cw):OT (Sum cw aE):=atg (s.1.2.2.2.2.1) (s.1.2.2.2.2.2.1) (s.2.1) (s.2.2.1) (s.2.2.2.1) (s.2.2.2.2.1)
theorem atd (s:cw) (Q:Sum cw aE->Prop):wps te qb av 1000 (aU (aj Tryz.f133) 0) (s8.inj s) (bU s8 XT (Q:Sum s8.T aE->Prop))=(s9 s).wpR Q:=by kernel_rfl
def Br (g0_0:cw->ka) (s:cw):OT aE:=(.ok ⟨(.exit 0,qK),g0_0 s⟩)
def J7:az:=⟨[.val true .elem],[],false⟩
def Qg:SV->Option az:=λ_=>some J7
def TJ (ok0:cw->Bool) (g0_0:cw->ka) (a0:aa) (a1:aa):OT iC.Y:=
 let z0:(PUnit×PUnit×PUnit×PUnit×UInt64×Int×PUnit)×List UInt64×List UInt64×List UInt64×List UInt64×PUnit:=(((),(),(),(),(0:UInt64),(0:Int),()),[a0.w0,a0.w1,a0.w2,a0.w3],[a1.w0,a1.w1,a1.w2,a1.w3],[(0:UInt64),(0:UInt64),(0:UInt64),(0:UInt64)],[(0:UInt64),(0:UInt64),(0:UInt64),(0:UInt64)],())
 let z1:=(g0_0 z0).snd
 let z2:=z1.snd.fst
 let z3:=z1.fst
 let z4:List UInt64:=lay z3 z2 4 (0:UInt64)
 (gd [ok0 z0,decide (4<=List.length z2),decide ((4/1:Nat)+0<=List.length z3),decide (4<=List.length z4)] (.ok ⟨J7,(({w0:=List.getD z4 0 0,w1:=List.getD z4 1 0,w2:=List.getD z4 2 0,w3:=List.getD z4 3 0},()),())⟩))
theorem az8 (ok0:cw->Bool) (g0_0:cw->ka) (x:EE) (Q:iC.Y->Prop):wpf te qb (aO 0 (cf s8 0 ok0 (Br g0_0)) av) 1000 Tryz.f133 (iC.inp.inj x).tm (iC.inp.inj x).hp (fnK iC Qg Q) (λ_ _=>False)=(TJ ok0 g0_0 (x.1.1) (x.1.2.1)).wpR Q:=by kernel_rfl
theorem ac6 (ok0:cw->Bool) (g0_0:cw->ka) (h0:∀ s:cw,ok0 s=true->∃ m e,al (s9) m s=some e/\(Br g0_0 s).run=some e) (pre:EE->Bool) (F:EE->OT iC.Y) (hF:∀ (x:EE) oy,pre x=true->(F x).run=some oy->(TJ ok0 g0_0 (x.1.1) (x.1.2.1)).run=some oy):ac Tryz.prog 133 (iC.aI pre F):=
 aD ar nQ Dj (f:=133) (fn:=Tryz.f133) (c:=aj Tryz.f133) (by kernel_rfl) (by kernel_rfl) (by kernel_rfl) (S:=iC) (k:=0) (by kernel_rfl) (λR hR=>(aA (c:=(aj Tryz.f133)) (by kernel_rfl) (id:=0) (by kernel_rfl) (aP ar nQ Dj (sh:=s8) hR (xs:=XT) (aC (by kernel_rfl) (by kernel_rfl) hR) aM af (n:=1000) (T:=s9) (λs Q=>atd s Q) (ok:=ok0) (f:=Br g0_0) h0) af)) (n:=1000) (sel:=Qg) (λv o h=>by cases h;rfl) (pre:=pre) (F:=F) (T:=λx=>TJ ok0 g0_0 (x.1.1) (x.1.2.1)) (λx Q=>az8 ok0 g0_0 x Q) hF
theorem atY {x y c:UInt64}:x+y+c=yb x y c:=by
 have hx:=x.toNat_lt
 have hy:=y.toNat_lt
 unfold yb
 rw [<-UInt64.toNat_inj,UInt64.toNat_add,UInt64.toNat_add,UInt64.toNat_ofNat']
 omega
theorem Wi {x y c:UInt64} (hc:c.toNat<=1):(AB x y c).toNat=(x.toNat+y.toNat+c.toNat)/18446744073709551616:=by
 have hx:=x.toNat_lt
 have hy:=y.toNat_lt
 unfold AB
 rw [UInt64.toNat_ofNat']
 omega
theorem aF1 {x y c:UInt64} (hc:c.toNat<=1) (h:x+y<x):AB x y c=1:=by
 have hx:=x.toNat_lt
 have hy:=y.toNat_lt
 have h:=UInt64.lt_iff_toNat_lt.1 h
 rw [UInt64.toNat_add] at h
 rw [<-UInt64.toNat_inj,Wi hc,show (1:UInt64).toNat=1 from rfl]
 omega
theorem aF0 {x y c:UInt64} (hc:c.toNat<=1) (h:¬x+y<x) (h2:x+y+c<x+y):AB x y c=1:=by
 have hx:=x.toNat_lt
 have hy:=y.toNat_lt
 have h:¬(x+y).toNat<x.toNat:=λe=>h (UInt64.lt_iff_toNat_lt.2 e)
 have h2:=UInt64.lt_iff_toNat_lt.1 h2
 rw [UInt64.toNat_add] at h
 rw [UInt64.toNat_add,UInt64.toNat_add] at h2
 rw [<-UInt64.toNat_inj,Wi hc,show (1:UInt64).toNat=1 from rfl]
 omega
theorem aFZ {x y c:UInt64} (hc:c.toNat<=1) (h:¬x+y<x) (h2:¬x+y+c<x+y):AB x y c=0:=by
 have hx:=x.toNat_lt
 have hy:=y.toNat_lt
 have h:¬(x+y).toNat<x.toNat:=λe=>h (UInt64.lt_iff_toNat_lt.2 e)
 have h2:¬(x+y+c).toNat<(x+y).toNat:=λe=>h2 (UInt64.lt_iff_toNat_lt.2 e)
 rw [UInt64.toNat_add] at h
 rw [UInt64.toNat_add,UInt64.toNat_add] at h2
 rw [<-UInt64.toNat_inj,Wi hc,show (0:UInt64).toNat=0 from rfl]
 omega
def Qi (s:cw):Bool:=decide (s.1.2.2.2.2.1=0/\s.1.2.2.2.2.2.1=0/\s.2.1.length=4/\s.2.2.1.length=4/\s.2.2.2.2.1= [0,0,0,0])
def XW (s:cw):ka:=(((),(),()),(s.2.2.2.1,(upto (PB s.2.1 s.2.2.1) ([0,0,0,0],0) 4).1,()))
theorem atf:∀ s:cw,Qi s=true->∃ m e,al s9 m s=some e/\(Br XW s).run=some e:=by
 rintro ⟨⟨⟨⟩,⟨⟩,⟨⟩,⟨⟩,c,i,⟨⟩⟩,⟨c0,c1,c2,c3,⟨⟩⟩⟩ h
 have h':=of_decide_eq_true h
 dsimp only at h'
 obtain ⟨rfl,rfl,h0,h1,rfl⟩:=h'
 have:=(aR (T:=s9) (λk s=>((((),(),(),(),s.2,(k:Int),()),(c0,c1,c2,s.1,())):cw)) (PB c0 c1)
  (λs=>(⟨(.exit 0,qK),(((),(),()),(c2,s.1,()))⟩:aE)) 4 ([0,0,0,0],0) (λ_ s=>s.1.length=4/\s.2.toNat<=1) ⟨rfl,by decide⟩ (λk s hk hs=>⟨?_,?_⟩) (λs hs=> ?_)).1
 ·obtain ⟨m,hm⟩:=this
  exact ⟨m,_,hm,rfl⟩
 ·obtain ⟨o,c⟩:=s
  dsimp only at hs
  refine (OT.ao (decide_eq_true (by dsimp only;omega))).trans ((ah ?_).trans ?_)
  ·simp only [Int.toNat_natCast,Nat.add_zero,h0,h1,hs.1,List.all_cons,List.all_nil,Bool.and_true,Bool.and_eq_true]
   exact ⟨aN (by omega),decide_eq_true (by omega),aN (by omega),decide_eq_true (by omega),aN (by omega),decide_eq_true (by omega),aN (by omega),decide_eq_true (by omega)⟩
  ·have hi:∀ z,(gd [inR ((k:Int)+1)] z:OT (Sum cw aE)).run=z.run:=λz=>ah (by simp only [List.all_cons,List.all_nil,Bool.and_true];exact aH (by omega))
   have hw:=atY (x:=c0.getD k 0) (y:=c1.getD k 0) (c:=c)
   by_cases hx:c0.getD k 0+c1.getD k 0<c0.getD k 0
   ·have hk1:=aF1 hs.2 hx
    refine (OT.ao (decide_eq_true ?_)).trans ((hi _).trans ?_)
    ·simp only [Int.toNat_natCast,Nat.add_zero];exact hx
    ·simp only [OT.cT,Int.toNat_natCast,Nat.add_zero,PB,hw,hk1]
     rfl
   ·have hs2:∀ v,(o.set k v).getD k 0=v:=λv=>by
     rw [List.getD_eq_getElem?_getD,List.getElem?_set_self (by omega)]
     rfl
    refine (OT.aq (decide_eq_false ?_)).trans ((ah ?_).trans ?_)
    ·simp only [Int.toNat_natCast,Nat.add_zero];exact hx
    ·simp only [Int.toNat_natCast,Nat.add_zero,List.length_set,hs.1,List.all_cons,List.all_nil,Bool.and_true,Bool.and_eq_true]
     exact ⟨aN (by omega),decide_eq_true (by omega)⟩
    ·by_cases hd:c0.getD k 0+c1.getD k 0+c<c0.getD k 0+c1.getD k 0
     ·have hk2:=aF0 hs.2 hx hd
      refine (OT.ao (decide_eq_true ?_)).trans ((hi _).trans ?_)
      ·simp only [Int.toNat_natCast,Nat.add_zero,hs2];exact hd
      ·simp only [OT.cT,Int.toNat_natCast,Nat.add_zero,PB,hw,hk2]
       rfl
     ·have hk3:=aFZ hs.2 hx hd
      refine (OT.aq (decide_eq_false ?_)).trans ((hi _).trans ?_)
      ·simp only [Int.toNat_natCast,Nat.add_zero,hs2];exact hd
      ·simp only [OT.cT,Int.toNat_natCast,Nat.add_zero,PB,hw,hk3]
       rfl
 ·exact ⟨by simp only [PB,List.length_set];exact hs.1,Gh hs.2⟩
 ·exact OT.aq (decide_eq_false (by dsimp only;omega))
def Qh (_:EE):Bool:=true
def TK (x:EE):OT iC.Y:=.ok ⟨J7,(((qq x.1.1 x.1.2.1).1,()),())⟩
theorem ate:ac Tryz.prog 133 (iC.aI Qh TK):=ac6 Qi XW atf _ _ λx oy hp ho=>by
 rw [<-ho]
 clear ho
 obtain ⟨⟨a,b,⟨⟩⟩,⟨⟩⟩:=x
 obtain ⟨_,hw⟩:=PJ a b
 refine (ah ?_).trans ?_
 ·simp only [List.all_cons,List.all_nil,Bool.and_true,Bool.and_eq_true]
  exact ⟨rfl,rfl,rfl,rfl⟩
 ·simp only [TK,hw]
  rfl
def y8:cj:=(iC.aI Qh TK)
theorem XV:ac Tryz.prog 133 y8:=ate
theorem XU:aG y8:=aB
def rR:Env:=ay 133 y8 qb
theorem mW:aQ Tryz.prog rR:=ag XV nQ
theorem Di:ax rR:=ae XU yu
theorem u4:aW Tryz.prog te rR:=aL follows ar mW Di
def lT:aw:=⟨[.val false .int,.val true .elem],[],true,0,false⟩
abbrev XX:Type:=((Int)×(aa)×Unit)×(Unit)
def Ka:Shape:=⟨60,[(3,.ptr 0 0 0),(4,.ptr 1 0 0),(5,.val false .u64),(6,.val false .u64),(7,.val false .int)],[(0,.row .u64),(1,.row .u64)],0,true⟩
abbrev dP:Type:=((Unit)×(Unit)×(UInt64)×(UInt64)×(Int)×Unit)×((List (UInt64))×(List (UInt64))×Unit)
def Bt:Shape:=⟨60,[(4,.ptr 0 0 0),(6,.val false .u64)],[(0,.row .u64)],0,true⟩
abbrev oF:Type:=((Unit)×(UInt64)×Unit)×((List (UInt64))×Unit)
def atk:SE->Option Shape:=fc [(0,Bt)] none
def aFL (a5:UInt64) (a6:UInt64) (a7:Int) (c0:List (UInt64)) (c1:List (UInt64)):OT (Sum dP aE):=
 let z0:Bool:=inB a7 4
 let z1:Bool:=decide (Int.toNat a7+0<List.length c0)
 let z2:Bool:= !a5==(0:UInt64)
 let z3:UInt64:=List.getD c0 (Int.toNat a7+0) (0:UInt64)
 (.br (decide ((0:Int)<=a7))
 (gd [z0,z1,z2,z0,z1,z2,inR (a7-(1:Int))] (.ok (.inl (((),((),(a5,((bR ((bR a6 (32:Int)+bm z3 (32:Int))%a5) (32:Int)+(z3&&&(4294967295:UInt64)))%a5,(a7-(1:Int),()))))),(c0,(c1,()))))))
 (.ok (.inr ⟨(.exit 0,Bt),(((),(a6,())),(c1,()))⟩)))
def Kc (s:dP):OT (Sum dP aE):=aFL (s.1.2.2.1) (s.1.2.2.2.1) (s.1.2.2.2.2.1) (s.2.1) (s.2.2.1)
theorem aFH (s:dP) (Q:Sum dP aE->Prop):wps te rR av 1000 (aU (aj Tryz.f62) 0) (Ka.inj s) (bU Ka atk (Q:Sum Ka.T aE->Prop))=(Kc s).wpR Q:=by kernel_rfl
def TN (g0_0:dP->oF) (s:dP):OT aE:=(.ok ⟨(.exit 0,Bt),g0_0 s⟩)
def J9:Shape:=⟨60,[(3,.ptr 0 0 0),(4,.ptr 1 0 0),(8,.ptr 2 0 0)],[(0,.row .u64),(1,.row .u64),(2,.row .u64)],0,true⟩
abbrev ed:Type:=((Unit)×(Unit)×(Unit)×Unit)×((List (UInt64))×(List (UInt64))×(List (UInt64))×Unit)
def Bs:Shape:=⟨60,[(3,.ptr 0 0 0),(4,.ptr 1 0 0)],[(0,.row .u64),(1,.row .u64)],0,true⟩
abbrev oE:Type:=((Unit)×(Unit)×Unit)×((List (UInt64))×(List (UInt64))×Unit)
def atj:SE->Option Shape:=fc [(2,Bs)] none
def aFK (c0:List (UInt64)) (c1:List (UInt64)) (c2:List (UInt64)):OT (Sum ed aE):=
 let z0:Nat:=List.length c0
 let z1:Bool:=decide (4<=z0)
 let z2:Bool:=decide (4<=List.length c2)
 let z3:aa:= {w0:=List.getD c0 0 0,w1:=List.getD c0 1 0,w2:=List.getD c0 2 0,w3:=List.getD c0 3 0}
 let z4:aa:= {w0:=List.getD c2 0 0,w1:=List.getD c2 1 0,w2:=List.getD c2 2 0,w3:=List.getD c2 3 0}
 let z5:=(eE z3 z4).fst
 (gd [z1,z2] (.br (!Nat.blt (aa.nat z3) (aa.nat z4))
 (gd [z1,z2,decide ((4/1:Nat)+0<=z0)] (.ok (.inl (((),((),((),()))),(List.set (List.set (List.set (List.set c0 0 z5.w0) 1 z5.w1) 2 z5.w2) 3 z5.w3,(c1,(c2,())))))))
 (.ok (.inr ⟨(.exit 2,Bs),(((),((),())),(c0,(c1,())))⟩))))
def Kb (s:ed):OT (Sum ed aE):=aFK (s.2.1) (s.2.2.1) (s.2.2.2.1)
theorem aFG (s:ed) (Q:Sum ed aE->Prop):wps te rR av 1000 (aU (aj Tryz.f62) 2) (J9.inj s) (bU J9 atj (Q:Sum J9.T aE->Prop))=(Kb s).wpR Q:=by kernel_rfl
def TM (g2_2:ed->oE) (s:ed):OT aE:=(.ok ⟨(.exit 2,Bs),g2_2 s⟩)
def n6:az:=⟨[.val true .elem],[],false⟩
def aje:SV->Option az:=λ_=>some n6
def ajg (ok0:dP->Bool) (g0_0:dP->oF) (ok2:ed->Bool) (g2_2:ed->oE) (a0:Int) (a1:aa):OT lT.Y:=
 let z0:(PUnit×PUnit×UInt64×UInt64×Int×PUnit)×List UInt64×List UInt64×PUnit:=(((),(),WN a0,(0:UInt64),(3:Int),()),[a1.w0,a1.w1,a1.w2,a1.w3],[(0:UInt64),(0:UInt64),(0:UInt64),(0:UInt64)],())
 let z1:Bool:=ok0 z0
 let z2:(PUnit×UInt64×PUnit)×List UInt64×PUnit:=g0_0 z0
 let z3:=z2.snd.fst
 let z4:Bool:=decide ((4/1:Nat)+0<=List.length z3)
 let z5:List UInt64:=List.set (List.set (List.set (List.set z3 0 z2.fst.snd.fst) 1 (0:UInt64)) 2 (0:UInt64)) 3 (0:UInt64)
 let z6:Bool:=decide (4<=List.length z5)
 let z7:aa:= {w0:=List.getD z5 0 0,w1:=List.getD z5 1 0,w2:=List.getD z5 2 0,w3:=List.getD z5 3 0}
 let z8:aa:=(aY (Int.toNat a0)).fst
 let z9:(PUnit×PUnit×PUnit×PUnit)×List UInt64×List UInt64×List UInt64×PUnit:=(((),(),(),()),[a1.w0,a1.w1,a1.w2,a1.w3],[(0:UInt64),(0:UInt64),(0:UInt64),(0:UInt64)],[z8.w0,z8.w1,z8.w2,z8.w3],())
 let z10:=(g2_2 z9).snd
 let z11:=z10.fst
 let z12:=z10.snd.fst
 let z13:List UInt64:=lay z12 z11 4 (0:UInt64)
 (.br (a0==(0:Int))
 (gd [z1,z4,z6] (.ok ⟨n6,((z7,()),())⟩))
 (.br (a0==(1:Int))
  (gd [z1,z4,z6] (.ok ⟨n6,((z7,()),())⟩))
  (.br (ap a0)
   (gd [ok2 z9,decide (4<=List.length z11),decide ((4/1:Nat)+0<=List.length z12),decide (4<=List.length z13)] (.ok ⟨n6,(({w0:=List.getD z13 0 0,w1:=List.getD z13 1 0,w2:=List.getD z13 2 0,w3:=List.getD z13 3 0},()),())⟩))
   (.ok ⟨n6,(({w0:=0,w1:=0,w2:=0,w3:=0},()),())⟩))))
theorem aIK (ok0:dP->Bool) (g0_0:dP->oF) (ok2:ed->Bool) (g2_2:ed->oE) (x:XX) (Q:lT.Y->Prop):wpf te rR (aO 2 (cf J9 2 ok2 (TM g2_2)) (aO 0 (cf Ka 0 ok0 (TN g0_0)) av)) 1000 Tryz.f62 (lT.inp.inj x).tm (lT.inp.inj x).hp (fnK lT aje Q) (λ_ _=>False)=(ajg ok0 g0_0 ok2 g2_2 (x.1.1) (x.1.2.1)).wpR Q:=by kernel_rfl
theorem atm (ok0:dP->Bool) (g0_0:dP->oF) (ok2:ed->Bool) (g2_2:ed->oE) (h0:∀ s:dP,ok0 s=true->∃ m e,al (Kc) m s=some e/\(TN g0_0 s).run=some e) (h2:∀ s:ed,ok2 s=true->∃ m e,al (Kb) m s=some e/\(TM g2_2 s).run=some e) (pre:XX->Bool) (F:XX->OT lT.Y) (hF:∀ (x:XX) oy,pre x=true->(F x).run=some oy->(ajg ok0 g0_0 ok2 g2_2 (x.1.1) (x.1.2.1)).run=some oy):ac Tryz.prog 62 (lT.aI pre F):=
 aD ar mW u4 (f:=62) (fn:=Tryz.f62) (c:=aj Tryz.f62) (by kernel_rfl) (by kernel_rfl) (by kernel_rfl) (S:=lT) (k:=0) (by kernel_rfl) (λR hR=>(aA (c:=(aj Tryz.f62)) (by kernel_rfl) (id:=2) (by kernel_rfl) (aP ar mW u4 (sh:=J9) hR (xs:=atj) (aC (by kernel_rfl) (by kernel_rfl) hR) aM af (n:=1000) (T:=Kb) (λs Q=>aFG s Q) (ok:=ok2) (f:=TM g2_2) h2) (aA (c:=(aj Tryz.f62)) (by kernel_rfl) (id:=0) (by kernel_rfl) (aP ar mW u4 (sh:=Ka) hR (xs:=atk) (aC (by kernel_rfl) (by kernel_rfl) hR) aM af (n:=1000) (T:=Kc) (λs Q=>aFH s Q) (ok:=ok0) (f:=TN g0_0) h0) af))) (n:=1000) (sel:=aje) (λv o h=>by cases h;rfl) (pre:=pre) (F:=F) (T:=λx=>ajg ok0 g0_0 ok2 g2_2 (x.1.1) (x.1.2.1)) (λx Q=>aIK ok0 g0_0 ok2 g2_2 x Q) hF
theorem aIR {r w m:Nat}:((r*4294967296+w/4294967296)%m*4294967296+w%4294967296)%m=(r*18446744073709551616+w)%m:=by
 have e:(r*4294967296+w/4294967296)*4294967296+w%4294967296=r*18446744073709551616+w:=by omega
 rw [Nat.add_mod,Nat.mul_mod,Nat.mod_mod,<-Nat.mul_mod,<-Nat.add_mod,e]
theorem aF6 {r w m:UInt64} (hs:gf m=true) (hr:r.toNat<m.toNat):(bR ((bR r 32+bm w 32)%m) 32+(w&&&4294967295))%m=aaq r w m:=by
 have hm:=lH hs
 have hb:m.toNat<=16521217:=by rcases ef hs with rfl|rfl<;>decide
 have hw:=w.toNat_lt
 have e1:(bR r 32).toNat=r.toNat*4294967296:=by
  have:(bR r 32).toNat=r.toNat*2^32%2^64:=lI r 32 (by omega)
  rw [this]
  omega
 have e2:(bm w 32).toNat=w.toNat/4294967296:=ff w 32 (by omega)
 have e3:((bR r 32+bm w 32)%m).toNat=(r.toNat*4294967296+w.toNat/4294967296)%m.toNat:=by
  rw [UInt64.toNat_mod,UInt64.toNat_add,e1,e2,Nat.mod_eq_of_lt (a:=r.toNat*4294967296+w.toNat/4294967296) (by omega)]
 generalize (bR r 32+bm w 32)%m=q at e3
 have hq:q.toNat<m.toNat:=by rw [e3];exact Nat.mod_lt _ hm
 have e4:(bR q 32).toNat=q.toNat*4294967296:=by
  have:(bR q 32).toNat=q.toNat*2^32%2^64:=lI q 32 (by omega)
  rw [this]
  omega
 rw [<-UInt64.toNat_inj,rB hm,UInt64.toNat_mod,UInt64.toNat_add,e4,jW,Nat.mod_eq_of_lt (a:=q.toNat*4294967296+w.toNat%4294967296) (by omega),e3,aIR]
def IG (s:dP):Bool:=decide (s.1.2.2.2.1=0/\s.1.2.2.2.2.1=3/\s.2.1.length=4)&&gf s.1.2.2.1
def ada (s:dP):oF:=(((),aIF s.2.1 s.1.2.2.1,()),(s.2.2.1,()))
theorem aFJ:∀ s:dP,IG s=true->∃ m e,al Kc m s=some e/\(TN ada s).run=some e:=by
 rintro ⟨⟨⟨⟩,⟨⟩,sm,r,i,⟨⟩⟩,⟨c1,c2,⟨⟩⟩⟩ h
 simp only [IG,Bool.and_eq_true,decide_eq_true_eq] at h
 obtain ⟨⟨rfl,rfl,hl⟩,hs⟩:=h
 have hm:=lH hs
 have hz:(!(sm==0))=true:=by rcases ef hs with rfl|rfl<;>rfl
 have:=(aR (T:=Kc) (λk r=>((((),(),sm,r,3-(k:Int),()),(c1,c2,())):dP)) (λk r=>aaq r (c1.getD (3-k) 0) sm)
  (λr=>(⟨(.exit 0,Bt),(((),r,()),(c2,()))⟩:aE)) 4 0 (λ_ r=>r.toNat<sm.toNat) hm (λk r hk hr=>⟨?_,?_⟩) (λr hr=> ?_)).1
 ·obtain ⟨m,hm⟩:=this
  exact ⟨m,_,hm,rfl⟩
 ·have e1:(3-(k:Int)).toNat=3-k:=by omega
  have e2:(3:Int)-(k:Int)-1=3-((k+1:Nat):Int):=by omega
  refine (OT.ao (decide_eq_true (by dsimp only;omega))).trans ((ah ?_).trans ?_)
  ·simp only [e1,Nat.add_zero,hl,hz,List.all_cons,List.all_nil,Bool.and_true,Bool.true_and,Bool.and_eq_true]
   exact ⟨aN (by omega),decide_eq_true (by omega),aN (by omega),decide_eq_true (by omega),aH (by omega)⟩
  ·simp only [OT.cT,e1,e2,Nat.add_zero,aF6 hs hr]
 ·rw [rB hm]
  exact Nat.mod_lt _ hm
 ·exact OT.aq (decide_eq_false (by dsimp only;omega))
def TL (s:ed):Bool:=decide (s.2.1.length=4/\s.2.2.2.1.length=4/\0<(elemOf s.2.2.2.1).nat)
def ac9 (s:ed):oE:=(((),(),()),(lst (ofN ((elemOf s.2.1).nat%(elemOf s.2.2.2.1).nat)),s.2.2.1,()))
theorem amr {M:aa} {c2:List UInt64} (hm:0<M.nat):∀ (n:Nat) (a:aa),a.nat=n->
 ∃ m,al Kb m (((),(),(),()),(lst a,c2,lst M,()))=some ⟨(.exit 2,Bs),(((),(),()),(lst (ofN (a.nat%M.nat)),c2,()))⟩:=by
 intro n
 induction n using Nat.strongRecOn with
 |_ n ih=>
  intro a hn
  rcases (Bool.eq_false_or_eq_true (Nat.blt a.nat M.nat)).symm with hb|hb
  ·have hle:M.nat<=a.nat:=by
    rcases Nat.lt_or_ge a.nat M.nat with h|h
    ·have:Nat.blt a.nat M.nat=true:=Nat.ble_eq_true_of_le h
     rw [this] at hb;cases hb
    ·exact h
   have hd:=m6 hle
   obtain ⟨m,hm2⟩:=ih (a.nat-M.nat) (by omega) (eE a M).1 hd
   rw [hd,<-Nat.mod_eq_sub_mod hle] at hm2
   refine ⟨m+1,aF ?_ hm2⟩
   refine (ah rfl).trans ((OT.ao (b:= !Nat.blt a.nat M.nat) (by rw [hb];rfl)).trans ((ah rfl).trans rfl))
  ·have hlt:=dW hb
   rw [Nat.mod_eq_of_lt hlt,wB]
   refine ⟨1,aK ?_⟩
   exact (ah rfl).trans (OT.aq (b:= !Nat.blt a.nat M.nat) (by rw [hb];rfl))
theorem aFI:∀ s:ed,TL s=true->∃ m e,al Kb m s=some e/\(TM ac9 s).run=some e:=by
 rintro ⟨⟨⟨⟩,⟨⟩,⟨⟩,⟨⟩⟩,⟨l,c2,l2,⟨⟩⟩⟩ h
 have h':=of_decide_eq_true h
 dsimp only at h'
 obtain ⟨h1,h2,h3⟩:=h'
 obtain ⟨a,rfl⟩:∃ a,l=lst a:=⟨elemOf l,(aS h1).symm⟩
 obtain ⟨M,rfl⟩:∃ a,l2=lst a:=⟨elemOf l2,(aS h2).symm⟩
 obtain ⟨m,hm⟩:=amr (c2:=c2) (M:=M) h3 _ a rfl
 exact ⟨m,_,hm,rfl⟩
def ofP (p:Nat) (a:aa):aa:=ofN (a.nat%p)
def ajf (_:XX):Bool:=true
def aCQ (x:XX):OT lT.Y:=.br (ap x.1.1) (.ok ⟨n6,((ofP (pS x.1.1) x.1.2.1,()),())⟩) (.ok ⟨n6,((⟨0,0,0,0⟩,()),())⟩)
theorem Ze {a:aa} {p:Nat} {m:UInt64} (hp:p=m.toNat) (hs:gf m=true):(⟨aIF (lst a) m,0,0,0⟩:aa)=ofP p a:=by
 have hm:=lH hs
 unfold ofP
 rw [ai4 hs,hp,tG (n:=a.nat%m.toNat) (Nat.lt_trans (Nat.mod_lt _ hm) m.toNat_lt)]
theorem ajK {s:Int} {a:aa} (h0:(s==0)=false) (h1:(s==1)=false) (hs:ap s=true):(ajg IG ada TL ac9 s a).run=some ⟨n6,((ofP (pS s) a,()),())⟩:=by
 refine (OT.aq h0).trans ((OT.aq h1).trans ((OT.ao hs).trans ((ah ?_).trans rfl)))
 simp only [List.all_cons,List.all_nil,Bool.and_true,Bool.and_eq_true]
 exact ⟨decide_eq_true ⟨rfl,rfl,(tF hs).1⟩,rfl,rfl,rfl⟩
theorem atl:ac Tryz.prog 62 (lT.aI ajf aCQ):=atm IG ada TL ac9 aFJ aFI _ _ λx oy _ ho=>by
 rw [<-ho]
 clear ho
 obtain ⟨⟨s,a,⟨⟩⟩,⟨⟩⟩:=x
 rcases (Bool.eq_false_or_eq_true (ap s)).symm with hs|hs
 ·obtain ⟨h0,h1,_,_⟩:=vz hs
  exact (OT.aq h0).trans ((OT.aq h1).trans ((OT.aq hs).trans (OT.aq (b:=ap s) hs).symm))
 ·refine Eq.trans ?_ (OT.ao (b:=ap s) hs).symm
  show _=some (⟨n6,((ofP (pS s) a,()),())⟩:lT.Y)
  rcases cy hs with rfl|rfl|rfl|rfl
  ·rw [<-Ze (a:=a) (p:=pS 0) (m:=16513537) (by decide+kernel) rfl]
   refine (OT.ao rfl).trans ((ah ?_).trans rfl)
   exact rfl
  ·rw [<-Ze (a:=a) (p:=pS 1) (m:=16521217) (by decide+kernel) rfl]
   refine (OT.aq rfl).trans ((OT.ao rfl).trans ((ah ?_).trans rfl))
   exact rfl
  ·exact ajK rfl rfl rfl
  ·exact ajK rfl rfl rfl
def J8:cj:=(lT.aI ajf aCQ)
theorem ams:ac Tryz.prog 62 J8:=atl
theorem amq:aG J8:=aB
def abB:Env:=ay 62 J8 rR
theorem NO:aQ Tryz.prog abB:=ag ams mW
theorem NP:ax abB:=ae amq Di
theorem apQ:aW Tryz.prog te abB:=aL follows ar NO NP
def hX:aw:=⟨[.val false .int,.val true .elem,.val true .elem],[],true,0,false⟩
abbrev Qz:Type:=((Int)×(aa)×(aa)×Unit)×(Unit)
def cX:az:=⟨[.val true .elem],[],false⟩
def Ym:SV->Option az:=λ_=>some cX
def adO (a0:Int) (a1:aa) (a2:aa):OT hX.Y:=
 let z0:Bool:=ap a0
 let z1:UInt64:=WN a0
 let z2:Bool:= !z1==(0:UInt64)
 let z3:Nat:=pS a0
 let z4:aa:=ofP z3 a1
 let z5:=z4.w0
 let z6:aa:=ofP z3 a2
 let z7:=z6.w0
 let z8:aa:= {w0:=(z5+z7)%z1,w1:=0,w2:=0,w3:=0}
 let z9:aa:= {w0:=(z5+(0:UInt64))%z1,w1:=0,w2:=0,w3:=0}
 let z10:aa:= {w0:=((0:UInt64)+z7)%z1,w1:=0,w2:=0,w3:=0}
 let z11:aa:= {w0:=0%z1,w1:=0,w2:=0,w3:=0}
 let z12:aa:= {w0:=0,w1:=0,w2:=0,w3:=0}
 (.br (a0==(0:Int))
 (.br (z0)
  (.br (z0)
   (gd [z2] (.ok ⟨cX,((z8,()),())⟩))
   (gd [z2] (.ok ⟨cX,((z9,()),())⟩)))
  (.br (z0)
   (gd [z2] (.ok ⟨cX,((z10,()),())⟩))
   (gd [z2] (.ok ⟨cX,((z11,()),())⟩))))
 (.br (a0==(1:Int))
  (.br (z0)
   (.br (z0)
    (gd [z2] (.ok ⟨cX,((z8,()),())⟩))
    (gd [z2] (.ok ⟨cX,((z9,()),())⟩)))
   (.br (z0)
    (gd [z2] (.ok ⟨cX,((z10,()),())⟩))
    (gd [z2] (.ok ⟨cX,((z11,()),())⟩))))
  (.br (z0)
   (.br (z0)
    (.br (z0)
     (.ok ⟨cX,((ofP z3 (qq z4 z6).fst,()),())⟩)
     (.ok ⟨cX,((z12,()),())⟩))
    (.br (z0)
     (.ok ⟨cX,((ofP z3 (qq z4 z12).fst,()),())⟩)
     (.ok ⟨cX,((z12,()),())⟩)))
   (.br (z0)
    (.br (z0)
     (.ok ⟨cX,((ofP z3 (qq z12 z6).fst,()),())⟩)
     (.ok ⟨cX,((z12,()),())⟩))
    (.br (z0)
     (.ok ⟨cX,((ofP z3 z12,()),())⟩)
     (.ok ⟨cX,((z12,()),())⟩))))))
theorem aFT (x:Qz) (Q:hX.Y->Prop):wpf te abB av 1000 Tryz.f134 (hX.inp.inj x).tm (hX.inp.inj x).hp (fnK hX Ym Q) (λ_ _=>False)=(adO (x.1.1) (x.1.2.1) (x.1.2.2.1)).wpR Q:=by kernel_rfl
theorem amM (pre:Qz->Bool) (F:Qz->OT hX.Y) (hF:∀ (x:Qz) oy,pre x=true->(F x).run=some oy->(adO (x.1.1) (x.1.2.1) (x.1.2.2.1)).run=some oy):ac Tryz.prog 134 (hX.aI pre F):=
 aD ar NO apQ (f:=134) (fn:=Tryz.f134) (c:=aj Tryz.f134) (by kernel_rfl) (by kernel_rfl) (by kernel_rfl) (S:=hX) (k:=0) (by kernel_rfl) (λR hR=>af) (n:=1000) (sel:=Ym) (λv o h=>by cases h;rfl) (pre:=pre) (F:=F) (T:=λx=>adO (x.1.1) (x.1.2.1) (x.1.2.2.1)) (λx Q=>aFT x Q) hF
theorem Ca {s:Int} (h:s=0\/s=1):pS s=(WN s).toNat/\0<(WN s).toNat/\(WN s).toNat<=16521217/\(!(WN s==0))=true:=by
 rcases h with rfl|rfl<;>exact ⟨by decide+kernel,by decide+kernel,by decide+kernel,rfl⟩
theorem apK {s:Int} (h:s=0\/s=1) (a b:aa):(⟨((ofP (pS s) a).w0+(ofP (pS s) b).w0)%WN s,0,0,0⟩:aa)=Gg (pS s) a b:=by
 obtain ⟨hp,h0,h1,_⟩:=Ca h
 rw [hp]
 generalize WN s=m at*
 have ha:=Nat.mod_lt a.nat h0
 have hb:=Nat.mod_lt b.nat h0
 have hc:=Nat.mod_lt (a.nat+b.nat) h0
 unfold Gg
 rw [tG (by omega)]
 have e:((ofP m.toNat a).w0+(ofP m.toNat b).w0)%m=UInt64.ofNat ((a.nat+b.nat)%m.toNat):=by
  show (UInt64.ofNat (a.nat%m.toNat)+UInt64.ofNat (b.nat%m.toNat))%m=_
  rw [<-UInt64.toNat_inj,UInt64.toNat_mod,UInt64.toNat_add,UInt64.toNat_ofNat',UInt64.toNat_ofNat',UInt64.toNat_ofNat',Nat.mod_eq_of_lt (a:=a.nat%m.toNat) (by omega),Nat.mod_eq_of_lt (a:=b.nat%m.toNat) (by omega),
   Nat.mod_eq_of_lt (a:=a.nat%m.toNat+b.nat%m.toNat) (by omega),Nat.mod_eq_of_lt (a:=(a.nat+b.nat)%m.toNat) (by omega),<-Nat.add_mod]
 rw [e]
def Kv (x:Qz):Bool:=ap x.1.1
def atC (x:Qz):OT hX.Y:=.ok ⟨cX,((Gg (pS x.1.1) x.1.2.1 x.1.2.2.1,()),())⟩
theorem aAn:ac Tryz.prog 134 (hX.aI Kv atC):=amM _ _ λx oy hp ho=>by
 rw [<-ho]
 clear ho
 obtain ⟨⟨s,a,b,⟨⟩⟩,⟨⟩⟩:=x
 have hs:ap s=true:=hp
 show _=some (⟨cX,((Gg (pS s) a b,()),())⟩:hX.Y)
 have little:(s=0\/s=1)->(gd [!(WN s==0)] (.ok ⟨cX,((⟨((ofP (pS s) a).w0+(ofP (pS s) b).w0)%WN s,0,0,0⟩,()),())⟩):OT hX.Y).run=some (⟨cX,((Gg (pS s) a b,()),())⟩:hX.Y):=λh=>by
  obtain ⟨_,_,_,hz⟩:=Ca h
  rw [apK h]
  exact ah (by simp only [hz,List.all_cons,List.all_nil,Bool.and_true])
 by_cases h0:s=0
 ·exact (OT.ao (by simpa using h0)).trans ((OT.ao hs).trans ((OT.ao hs).trans (little (.inl h0))))
 ·refine (OT.aq (by simpa using h0)).trans ?_
  by_cases h1:s=1
  ·exact (OT.ao (by simpa using h1)).trans ((OT.ao hs).trans ((OT.ao hs).trans (little (.inr h1))))
  ·refine (OT.aq (by simpa using h1)).trans ((OT.ao hs).trans ((OT.ao hs).trans ((OT.ao hs).trans ?_)))
   have e:ofP (pS s) (qq (ofP (pS s) a) (ofP (pS s) b)).1=Gg (pS s) a b:=axi (tF hs) a b
   show some (⟨cX,((ofP (pS s) (qq (ofP (pS s) a) (ofP (pS s) b)).1,()),())⟩:hX.Y)=_
   rw [e]
def ET:cj:=(hX.aI Kv atC)
theorem adN:ac Tryz.prog 134 ET:=aAn
theorem adM:aG ET:=aB
def NX:Env:=ay 134 ET abB
theorem Gy:aQ Tryz.prog NX:=ag adN NO
theorem HL:ax NX:=ae adM NP
theorem agm:aW Tryz.prog te NX:=aL follows ar Gy HL
def ks:aw:=⟨[.val false .int,.val true .elem],[],true,0,false⟩
abbrev Ql:Type:=((Int)×(aa)×Unit)×(Unit)
def nh:az:=⟨[.val true .elem],[],false⟩
def XY:SV->Option az:=λ_=>some nh
def adj (a0:Int) (a1:aa):OT ks.Y:=
 let z0:Bool:=ap a0
 let z1:Nat:=pS a0
 let z2:aa:=(aY (Int.toNat a0)).fst
 let z3:aa:= {w0:=0,w1:=0,w2:=0,w3:=0}
 (.br (z0)
 (.br (z0)
  (.br (z0)
   (.ok ⟨nh,((ofP z1 (eE z2 (ofP z1 a1)).fst,()),())⟩)
   (.ok ⟨nh,((z3,()),())⟩))
  (.br (z0)
   (.ok ⟨nh,((ofP z1 (eE z2 z3).fst,()),())⟩)
   (.ok ⟨nh,((z3,()),())⟩)))
 (.ok ⟨nh,((z3,()),())⟩))
theorem aFM (x:Ql) (Q:ks.Y->Prop):wpf te NX av 1000 Tryz.f96 (ks.inp.inj x).tm (ks.inp.inj x).hp (fnK ks XY Q) (λ_ _=>False)=(adj (x.1.1) (x.1.2.1)).wpR Q:=by kernel_rfl
theorem amu (pre:Ql->Bool) (F:Ql->OT ks.Y) (hF:∀ (x:Ql) oy,pre x=true->(F x).run=some oy->(adj (x.1.1) (x.1.2.1)).run=some oy):ac Tryz.prog 96 (ks.aI pre F):=
 aD ar Gy agm (f:=96) (fn:=Tryz.f96) (c:=aj Tryz.f96) (by kernel_rfl) (by kernel_rfl) (by kernel_rfl) (S:=ks) (k:=0) (by kernel_rfl) (λR hR=>af) (n:=1000) (sel:=XY) (λv o h=>by cases h;rfl) (pre:=pre) (F:=F) (T:=λx=>adj (x.1.1) (x.1.2.1)) (λx Q=>aFM x Q) hF
theorem neg_eq {s:Int} (hs:ap s=true) (a:aa):ofP (pS s) (eE (aY s.toNat).1 (ofP (pS s) a)).1=IR (pS s) a:=by
 have hp:=tF hs
 have hlt:=Nat.mod_lt a.nat hp.1
 have e:(ofP (pS s) a).nat=a.nat%pS s:=dy hp
 unfold IR
 have e2:(eE (aY s.toNat).1 (ofP (pS s) a)).1.nat=pS s-a.nat%pS s:=by
  rw [m6 (by rw [e];exact Nat.le_of_lt hlt),e]
  rfl
 show ofN (_%_)=_
 rw [e2]
def lW (x:Ql):Bool:=ap x.1.1
def atn (x:Ql):OT ks.Y:=.ok ⟨nh,((IR (pS x.1.1) x.1.2.1,()),())⟩
theorem aAa:ac Tryz.prog 96 (ks.aI lW atn):=amu _ _ λx oy hp ho=>by
 rw [<-ho]
 clear ho
 obtain ⟨⟨s,a,⟨⟩⟩,⟨⟩⟩:=x
 have hs:ap s=true:=hp
 show _=some (⟨nh,((IR (pS s) a,()),())⟩:ks.Y)
 rw [<-neg_eq hs]
 exact (OT.ao hs).trans ((OT.ao hs).trans ((OT.ao hs).trans rfl))
def EG:cj:=(ks.aI lW atn)
theorem adi:ac Tryz.prog 96 EG:=aAa
theorem adh:aG EG:=aB
def Gr:Env:=ay 96 EG NX
theorem xH:aQ Tryz.prog Gr:=ag adi Gy
theorem HD:ax Gr:=ae adh HL
theorem NQ:aW Tryz.prog te Gr:=aL follows ar xH HD
def hJ:aw:=⟨[.val false .int,.val true .elem,.val true .elem],[],true,0,false⟩
abbrev Qm:Type:=((Int)×(aa)×(aa)×Unit)×(Unit)
def Bu:Shape:=⟨80,[(4,.ptr 0 0 0),(5,.ptr 1 0 0),(6,.ptr 2 0 0),(7,.ptr 3 0 0),(9,.ptr 4 0 0),(10,.val false .int)],[(0,.row .u64),(1,.row .u64),(2,.row .u64),(3,.row .u64),(4,.row .u64)],0,true⟩
abbrev cr:Type:=((Unit)×(Unit)×(Unit)×(Unit)×(Unit)×(Int)×Unit)×((List (UInt64))×(List (UInt64))×(List (UInt64))×(List (UInt64))×(List (UInt64))×Unit)
def vL:Shape:=⟨80,[(6,.ptr 0 0 0),(9,.ptr 1 0 0)],[(0,.row .u64),(1,.row .u64)],0,true⟩
abbrev lX:Type:=((Unit)×(Unit)×Unit)×((List (UInt64))×(List (UInt64))×Unit)
def ajh:SE->Option Shape:=fc [(0,vL)] none
def TQ (a10:Int) (c0:List (UInt64)) (c1:List (UInt64)) (c2:List (UInt64)) (c3:List (UInt64)) (c4:List (UInt64)):OT (Sum cr aE):=
 let z0:Nat:=List.length c4
 let z1:Bool:=decide (4<=z0)
 let z2:aa:= {w0:=List.getD c4 0 0,w1:=List.getD c4 1 0,w2:=List.getD c4 2 0,w3:=List.getD c4 3 0}
 let z3:=(qq z2 z2).fst
 let z4:List UInt64:=List.set (List.set (List.set (List.set c4 0 z3.w0) 1 z3.w1) 2 z3.w2) 3 z3.w3
 let z5:Nat:=List.length z4
 let z6:Bool:=decide (4<=z5)
 let z7:Bool:=decide (4<=List.length c3)
 let z8:aa:= {w0:=List.getD z4 0 0,w1:=List.getD z4 1 0,w2:=List.getD z4 2 0,w3:=List.getD z4 3 0}
 let z9:aa:= {w0:=List.getD c3 0 0,w1:=List.getD c3 1 0,w2:=List.getD c3 2 0,w3:=List.getD c3 3 0}
 let z10:Nat:=aa.nat z9
 let z11:Int:=Int.tdiv a10 (64:Int)
 let z12:Bool:=true&&inR z11
 let z13:Bool:=inB z11 4
 let z14:Bool:=decide (Int.toNat z11+0<List.length c1)
 let z15:=(eE z8 z9).fst
 let z16:List UInt64:=List.set (List.set (List.set (List.set z4 0 z15.w0) 1 z15.w1) 2 z15.w2) 3 z15.w3
 let z17:Nat:=List.length z16
 let z18:Bool:=decide (4<=List.length c0)
 let z19:aa:= {w0:=List.getD c0 0 0,w1:=List.getD c0 1 0,w2:=List.getD c0 2 0,w3:=List.getD c0 3 0}
 let z20:aa:=(qq {w0:=List.getD z16 0 0,w1:=List.getD z16 1 0,w2:=List.getD z16 2 0,w3:=List.getD z16 3 0} z19).fst
 let z21:List UInt64:=List.set (List.set (List.set (List.set z16 0 z20.w0) 1 z20.w1) 2 z20.w2) 3 z20.w3
 let z22:Nat:=List.length z21
 let z23:Bool:=decide (4<=z22)
 let z24:aa:= {w0:=List.getD z21 0 0,w1:=List.getD z21 1 0,w2:=List.getD z21 2 0,w3:=List.getD z21 3 0}
 let z25:Bool:=inR (a10-(1:Int))
 let z26:=(eE z24 z9).fst
 let z27:=(qq z8 z19).fst
 let z28:List UInt64:=List.set (List.set (List.set (List.set z4 0 z27.w0) 1 z27.w1) 2 z27.w2) 3 z27.w3
 let z29:Nat:=List.length z28
 let z30:Bool:=decide (4<=z29)
 let z31:aa:= {w0:=List.getD z28 0 0,w1:=List.getD z28 1 0,w2:=List.getD z28 2 0,w3:=List.getD z28 3 0}
 let z32:=(eE z31 z9).fst
 (.br (decide ((0:Int)<=a10))
 (gd [z1,z1,decide ((4/1:Nat)+0<=z0),z6,z7] (.br (!Nat.blt (aa.nat z8) z10)
  (gd [z6,z7,decide ((4/1:Nat)+0<=z5),z12,z13,z14] (.br (bm (List.getD c1 (Int.toNat z11+0) (0:UInt64)) (↑(UInt64.toNat (i2u (Int.tmod a10 (64:Int)))):Int)&&&(1:UInt64)==(1:UInt64))
   (gd [decide (4<=z17),z18,decide ((4/1:Nat)+0<=z17),z23,z7] (.br (!Nat.blt (aa.nat z24) z10)
    (gd [z23,z7,decide ((4/1:Nat)+0<=z22),z25] (.ok (.inl (((),((),((),((),((),(a10-(1:Int),())))))),(c0,(c1,(c2,(c3,(List.set (List.set (List.set (List.set z21 0 z26.w0) 1 z26.w1) 2 z26.w2) 3 z26.w3,())))))))))
    (gd [z25] (.ok (.inl (((),((),((),((),((),(a10-(1:Int),())))))),(c0,(c1,(c2,(c3,(z21,())))))))))))
   (gd [z25] (.ok (.inl (((),((),((),((),((),(a10-(1:Int),())))))),(c0,(c1,(c2,(c3,(z16,())))))))))))
  (gd [z12,z13,z14] (.br (bm (List.getD c1 (Int.toNat z11+0) (0:UInt64)) (↑(UInt64.toNat (i2u (Int.tmod a10 (64:Int)))):Int)&&&(1:UInt64)==(1:UInt64))
   (gd [z6,z18,decide ((4/1:Nat)+0<=z5),z30,z7] (.br (!Nat.blt (aa.nat z31) z10)
    (gd [z30,z7,decide ((4/1:Nat)+0<=z29),z25] (.ok (.inl (((),((),((),((),((),(a10-(1:Int),())))))),(c0,(c1,(c2,(c3,(List.set (List.set (List.set (List.set z28 0 z32.w0) 1 z32.w1) 2 z32.w2) 3 z32.w3,())))))))))
    (gd [z25] (.ok (.inl (((),((),((),((),((),(a10-(1:Int),())))))),(c0,(c1,(c2,(c3,(z28,())))))))))))
   (gd [z25] (.ok (.inl (((),((),((),((),((),(a10-(1:Int),())))))),(c0,(c1,(c2,(c3,(z4,())))))))))))))
 (.ok (.inr ⟨(.exit 0,vL),(((),((),())),(c2,(c4,())))⟩)))
def vM (s:cr):OT (Sum cr aE):=TQ (s.1.2.2.2.2.2.1) (s.2.1) (s.2.2.1) (s.2.2.2.1) (s.2.2.2.2.1) (s.2.2.2.2.2.1)
theorem aAb (s:cr) (Q:Sum cr aE->Prop):wps te Gr av 1000 (aU (aj Tryz.f113) 0) (Bu.inj s) (bU Bu ajh (Q:Sum Bu.T aE->Prop))=(vM s).wpR Q:=by kernel_rfl
def IH (g0_0:cr->lX) (s:cr):OT aE:=(.ok ⟨(.exit 0,vL),g0_0 s⟩)
def dz:az:=⟨[.val true .elem],[],false⟩
def XZ:SV->Option az:=λ_=>some dz
def adm (ok0:cr->Bool) (g0_0:cr->lX) (a0:Int) (a1:aa) (a2:aa):OT hJ.Y:=
 let z0:Bool:=ap a0
 let z1:UInt64:=WN a0
 let z2:Bool:= !z1==(0:UInt64)
 let z3:Nat:=pS a0
 let z4:aa:=ofP z3 a1
 let z5:=z4.w0
 let z6:aa:=ofP z3 a2
 let z7:=z6.w0
 let z8:aa:= {w0:=z5*z7%z1,w1:=0,w2:=0,w3:=0}
 let z9:aa:= {w0:=z5*(0:UInt64)%z1,w1:=0,w2:=0,w3:=0}
 let z10:aa:= {w0:=0*z7%z1,w1:=0,w2:=0,w3:=0}
 let z11:aa:= {w0:=0%z1,w1:=0,w2:=0,w3:=0}
 let z12:PUnit×PUnit×PUnit×PUnit×PUnit×Int×PUnit:=((),(),(),(),(),(255:Int),())
 let z13:aa:=(aY (Int.toNat a0)).fst
 let z14:List UInt64×List UInt64×List UInt64×PUnit:=([(0:UInt64),(0:UInt64),(0:UInt64),(0:UInt64)],[z13.w0,z13.w1,z13.w2,z13.w3],[(0:UInt64),(0:UInt64),(0:UInt64),(0:UInt64)],())
 let z15:List UInt64×List UInt64×List UInt64×List UInt64×PUnit:=([z7,z6.w1,z6.w2,z6.w3],z14)
 let z16:(PUnit×PUnit×PUnit×PUnit×PUnit×Int×PUnit)×List UInt64×List UInt64×List UInt64×List UInt64×List UInt64×PUnit:=(z12,[z5,z4.w1,z4.w2,z4.w3],z15)
 let z17:=(g0_0 z16).snd
 let z18:=z17.snd.fst
 let z19:=z17.fst
 let z20:List UInt64:=lay z19 z18 4 (0:UInt64)
 let z21:List UInt64×List UInt64×List UInt64×List UInt64×PUnit:=([(0:UInt64),(0:UInt64),(0:UInt64),(0:UInt64)],z14)
 let z22:(PUnit×PUnit×PUnit×PUnit×PUnit×Int×PUnit)×List UInt64×List UInt64×List UInt64×List UInt64×List UInt64×PUnit:=(z12,[z5,z4.w1,z4.w2,z4.w3],z21)
 let z23:=(g0_0 z22).snd
 let z24:=z23.snd.fst
 let z25:=z23.fst
 let z26:List UInt64:=lay z25 z24 4 (0:UInt64)
 let z27:(PUnit×PUnit×PUnit×PUnit×PUnit×Int×PUnit)×List UInt64×List UInt64×List UInt64×List UInt64×List UInt64×PUnit:=(z12,[(0:UInt64),(0:UInt64),(0:UInt64),(0:UInt64)],z15)
 let z28:=(g0_0 z27).snd
 let z29:=z28.snd.fst
 let z30:=z28.fst
 let z31:List UInt64:=lay z30 z29 4 (0:UInt64)
 let z32:(PUnit×PUnit×PUnit×PUnit×PUnit×Int×PUnit)×List UInt64×List UInt64×List UInt64×List UInt64×List UInt64×PUnit:=(z12,[(0:UInt64),(0:UInt64),(0:UInt64),(0:UInt64)],z21)
 let z33:=(g0_0 z32).snd
 let z34:=z33.snd.fst
 let z35:=z33.fst
 let z36:List UInt64:=lay z35 z34 4 (0:UInt64)
 (.br (a0==(0:Int))
 (.br (z0)
  (.br (z0)
   (gd [z2] (.ok ⟨dz,((z8,()),())⟩))
   (gd [z2] (.ok ⟨dz,((z9,()),())⟩)))
  (.br (z0)
   (gd [z2] (.ok ⟨dz,((z10,()),())⟩))
   (gd [z2] (.ok ⟨dz,((z11,()),())⟩))))
 (.br (a0==(1:Int))
  (.br (z0)
   (.br (z0)
    (gd [z2] (.ok ⟨dz,((z8,()),())⟩))
    (gd [z2] (.ok ⟨dz,((z9,()),())⟩)))
   (.br (z0)
    (gd [z2] (.ok ⟨dz,((z10,()),())⟩))
    (gd [z2] (.ok ⟨dz,((z11,()),())⟩))))
  (.br (z0)
   (.br (z0)
    (.br (z0)
     (gd [ok0 z16,decide (4<=List.length z18),decide ((4/1:Nat)+0<=List.length z19),decide (4<=List.length z20)] (.ok ⟨dz,(({w0:=List.getD z20 0 0,w1:=List.getD z20 1 0,w2:=List.getD z20 2 0,w3:=List.getD z20 3 0},()),())⟩))
     (gd [ok0 z22,decide (4<=List.length z24),decide ((4/1:Nat)+0<=List.length z25),decide (4<=List.length z26)] (.ok ⟨dz,(({w0:=List.getD z26 0 0,w1:=List.getD z26 1 0,w2:=List.getD z26 2 0,w3:=List.getD z26 3 0},()),())⟩)))
    (.br (z0)
     (gd [ok0 z27,decide (4<=List.length z29),decide ((4/1:Nat)+0<=List.length z30),decide (4<=List.length z31)] (.ok ⟨dz,(({w0:=List.getD z31 0 0,w1:=List.getD z31 1 0,w2:=List.getD z31 2 0,w3:=List.getD z31 3 0},()),())⟩))
     (gd [ok0 z32,decide (4<=List.length z34),decide ((4/1:Nat)+0<=List.length z35),decide (4<=List.length z36)] (.ok ⟨dz,(({w0:=List.getD z36 0 0,w1:=List.getD z36 1 0,w2:=List.getD z36 2 0,w3:=List.getD z36 3 0},()),())⟩))))
   (.ok ⟨dz,(({w0:=0,w1:=0,w2:=0,w3:=0},()),())⟩))))
theorem aFN (ok0:cr->Bool) (g0_0:cr->lX) (x:Qm) (Q:hJ.Y->Prop):wpf te Gr (aO 0 (cf Bu 0 ok0 (IH g0_0)) av) 1000 Tryz.f113 (hJ.inp.inj x).tm (hJ.inp.inj x).hp (fnK hJ XZ Q) (λ_ _=>False)=(adm ok0 g0_0 (x.1.1) (x.1.2.1) (x.1.2.2.1)).wpR Q:=by kernel_rfl
theorem amv (ok0:cr->Bool) (g0_0:cr->lX) (h0:∀ s:cr,ok0 s=true->∃ m e,al (vM) m s=some e/\(IH g0_0 s).run=some e) (pre:Qm->Bool) (F:Qm->OT hJ.Y) (hF:∀ (x:Qm) oy,pre x=true->(F x).run=some oy->(adm ok0 g0_0 (x.1.1) (x.1.2.1) (x.1.2.2.1)).run=some oy):ac Tryz.prog 113 (hJ.aI pre F):=
 aD ar xH NQ (f:=113) (fn:=Tryz.f113) (c:=aj Tryz.f113) (by kernel_rfl) (by kernel_rfl) (by kernel_rfl) (S:=hJ) (k:=0) (by kernel_rfl) (λR hR=>(aA (c:=(aj Tryz.f113)) (by kernel_rfl) (id:=0) (by kernel_rfl) (aP ar xH NQ (sh:=Bu) hR (xs:=ajh) (aC (by kernel_rfl) (by kernel_rfl) hR) aM af (n:=1000) (T:=vM) (λs Q=>aAb s Q) (ok:=ok0) (f:=IH g0_0) h0) af)) (n:=1000) (sel:=XZ) (λv o h=>by cases h;rfl) (pre:=pre) (F:=F) (T:=λx=>adm ok0 g0_0 (x.1.1) (x.1.2.1) (x.1.2.2.1)) (λx Q=>aFN ok0 g0_0 x Q) hF
theorem anB {s:Int} (h:s=0\/s=1) (a b:aa):(⟨(ofP (pS s) a).w0*(ofP (pS s) b).w0%WN s,0,0,0⟩:aa)=bP (pS s) a b:=by
 obtain ⟨hp,h0,h1,_⟩:=Ca h
 rw [hp]
 generalize WN s=m at*
 have ha:=Nat.mod_lt a.nat h0
 have hb:=Nat.mod_lt b.nat h0
 have hc:=Nat.mod_lt (a.nat*b.nat) h0
 have hab:a.nat%m.toNat*(b.nat%m.toNat)<18446744073709551616:=by
  have:a.nat%m.toNat*(b.nat%m.toNat)<=16521217*16521217:=Nat.mul_le_mul (by omega) (by omega)
  omega
 unfold bP
 rw [tG (n:=a.nat*b.nat%m.toNat) (by omega)]
 have e:(ofP m.toNat a).w0*(ofP m.toNat b).w0%m=UInt64.ofNat (a.nat*b.nat%m.toNat):=by
  show UInt64.ofNat (a.nat%m.toNat)*UInt64.ofNat (b.nat%m.toNat)%m=_
  rw [<-UInt64.toNat_inj,UInt64.toNat_mod,UInt64.toNat_mul,UInt64.toNat_ofNat',UInt64.toNat_ofNat',UInt64.toNat_ofNat',Nat.mod_eq_of_lt (a:=a.nat%m.toNat) (by omega),Nat.mod_eq_of_lt (a:=b.nat%m.toNat) (by omega),
   Nat.mod_eq_of_lt (a:=a.nat%m.toNat*(b.nat%m.toNat)) (by omega),Nat.mod_eq_of_lt (a:=a.nat*b.nat%m.toNat) (by omega),<-Nat.mul_mod]
 rw [e]
def Cx (p a b:Nat) (n o:Nat):Nat:=cond (afX b (255-n)) ((2*o%p+a)%p) (2*o%p)
theorem av0 (p a b:Nat) (hb:b<2^256):∀ n,n<=256->upto (Cx p a b) 0 n=a*(b/2^(256-n))%p
 |0,_=>by
  show 0=_
  rw [Nat.div_eq_of_lt (by exact hb),Nat.mul_zero,Nat.zero_mod]
 |n+1,hn=>by
  show Cx p a b n (upto (Cx p a b) 0 n)=_
  rw [av0 p a b hb n (by omega)]
  have e1:256-n=(255-n)+1:=by omega
  have e2:256-(n+1)=255-n:=by omega
  rw [e1,e2,Nat.pow_succ,<-Nat.div_div_eq_div_mul]
  unfold Cx afX
  generalize b/2^(255-n)=q
  have hd:2*(a*(q/2)%p)%p=a*(2*(q/2))%p:=by
   rw [Nat.mul_mod,Nat.mod_mod,<-Nat.mul_mod,Nat.mul_left_comm]
  cases hq:Nat.beq (q%2) 1
  ·simp only [cond_false]
   have:¬q%2=1:=λe=>by rw [e] at hq;cases hq
   rw [hd,show 2*(q/2)=q by omega]
  ·have hq:=Nat.eq_of_beq_eq_true hq
   simp only [cond_true]
   rw [hd,Nat.mod_add_mod]
   have e3:a*(2*(q/2))+a=a*q:=by
    rw [<-Nat.mul_succ,show (2*(q/2)).succ=q by omega]
   rw [e3]
theorem aIH {z M:aa} (h:Nat.blt z.nat M.nat=true):z=ofN (z.nat%M.nat):=by
 rw [Nat.mod_eq_of_lt (dW h),wB]
theorem aGa {n m:Nat} (h:Nat.blt n m=false):m<=n:=by
 rcases Nat.lt_or_ge n m with h'|h'
 ·have:Nat.blt n m=true:=Nat.ble_eq_true_of_le h'
  rw [this] at h;cases h
 ·exact h'
theorem aIG {z M:aa} (h:Nat.blt z.nat M.nat=false) (h2:z.nat<2*M.nat):(eE z M).1=ofN (z.nat%M.nat):=by
 have hle:=aGa h
 have hz:=jz z
 apply rc
 rw [m6 hle,Nat.mod_eq_sub_mod hle,Nat.mod_eq_of_lt (by omega),kx (by omega)]
theorem sum_nat {a b:aa} (h:a.nat+b.nat<115792089237316195423570985008687907853269984665640564039457584007913129639936):(qq a b).1.nat=a.nat+b.nat:=kx h
theorem LY {k:Nat} (hk:k<64):(((i2u (k:Int)).toNat:Nat):Int)=(k:Int):=by
 unfold i2u
 rw [UInt64.toNat_ofNat']
 omega
theorem aDh {b:aa} {n:Nat} (hn:n<256):(bm (List.getD (lst b) (Int.toNat (Int.tdiv (255-(n:Int)) 64)+0) 0) (((i2u (Int.tmod (255-(n:Int)) 64)).toNat:Nat):Int)&&&1==1)=afX b.nat (255-n):=by
 have t0:(255:Int)-(n:Int)=((255-n:Nat):Int):=by omega
 rw [t0]
 generalize hk:255-n=k
 have hk2:k<256:=by omega
 have t1:Int.tdiv (k:Int) 64=((k/64:Nat):Int):=by rw [Int.tdiv_eq_ediv_of_nonneg (by omega)];omega
 have t2:Int.tmod (k:Int) 64=((k%64:Nat):Int):=by rw [Int.tmod_eq_emod_of_nonneg (by omega)];omega
 rw [t1,t2,LY (by omega),V7,ff _ _ (by omega),Int.toNat_natCast,Nat.add_zero]
 have:=rI (a:=b) (q:=k/64) (r:=k%64) (by omega) (by omega)
 rw [show 64*(k/64)+k%64=k by omega] at this
 unfold afX
 rw [<-this]
theorem aHO (e f:aa):List.set (List.set (List.set (List.set (lst e) 0 f.w0) 1 f.w1) 2 f.w2) 3 f.w3=lst f:=rfl
theorem aHX (e:aa):(⟨List.getD (lst e) 0 0,List.getD (lst e) 1 0,List.getD (lst e) 2 0,List.getD (lst e) 3 0⟩:aa)=e:=rfl
def av1 (A B:aa) (c2:List UInt64) (M:aa) (n o:Nat):cr:=(((),(),(),(),(),255-(n:Int),()),(lst A,lst B,c2,lst M,lst (ofN o),()))
theorem aHg {A B M:aa} {c2:List UInt64} {n o:Nat} (hn:n<256) (hA:A.nat<M.nat) (ho:o<M.nat) (hM:2*M.nat<=115792089237316195423570985008687907853269984665640564039457584007913129639936):
 (vM (av1 A B c2 M n o)).run=some (.inl (av1 A B c2 M (n+1) (Cx M.nat A.nat B.nat n o))):=by
 have e2:(255:Int)-(n:Int)-1=255-((n+1:Nat):Int):=by omega
 have hO:(ofN o).nat=o:=kx (by omega)
 have hz:(qq (ofN o) (ofN o)).1.nat=2*o:=by rw [sum_nat (by omega),hO];omega
 have hbit:=aDh (b:=B) hn
 have t0:(255:Int)-(n:Int)=((255-n:Nat):Int):=by omega
 have t1:Int.tdiv (255-(n:Int)) 64=(((255-n)/64:Nat):Int):=by rw [t0,Int.tdiv_eq_ediv_of_nonneg (by omega)];omega
 have gb:∀ z:OT (Sum cr aE),(gd [true&&inR (Int.tdiv (255-(n:Int)) 64),inB (Int.tdiv (255-(n:Int)) 64) 4,decide (Int.toNat (Int.tdiv (255-(n:Int)) 64)+0<(lst B).length)] z).run=z.run:=λz=>ah (by
  simp only [t1,Int.toNat_natCast,Nat.add_zero,cN,List.all_cons,List.all_nil,Bool.and_true,Bool.true_and,Bool.and_eq_true]
  exact ⟨aH (by omega),aN (by omega),decide_eq_true (by omega)⟩)
 have gb2:∀ z:OT (Sum cr aE),(gd [true,true,true,true&&inR (Int.tdiv (255-(n:Int)) 64),inB (Int.tdiv (255-(n:Int)) 64) 4,decide (Int.toNat (Int.tdiv (255-(n:Int)) 64)+0<(lst B).length)] z).run=z.run:=λz=>ah (by
  simp only [t1,Int.toNat_natCast,Nat.add_zero,cN,List.all_cons,List.all_nil,Bool.and_true,Bool.true_and,Bool.and_eq_true]
  exact ⟨aH (by omega),aN (by omega),decide_eq_true (by omega)⟩)
 have hi:inR ((255:Int)-(n:Int)-1)=true:=aH (by omega)
 have gi:∀ z:OT (Sum cr aE),(gd [inR ((255:Int)-(n:Int)-1)] z).run=z.run:=λz=>ah (by simp only [hi,List.all_cons,List.all_nil,Bool.and_true])
 have gi2:∀ z:OT (Sum cr aE),(gd [true,true,true,inR ((255:Int)-(n:Int)-1)] z).run=z.run:=λz=>ah (by simp only [hi,List.all_cons,List.all_nil,Bool.and_true])
 --behind the doubling
 have tail:∀ D:aa,D=ofN (2*o%M.nat)->
  (OT.br (bm (List.getD (lst B) (Int.toNat (Int.tdiv (255-(n:Int)) 64)+0) 0) (((i2u (Int.tmod (255-(n:Int)) 64)).toNat:Nat):Int)&&&1==1)
   (gd [true,true,true,true,true] (OT.br (!Nat.blt (qq D A).1.nat M.nat)
    (gd [true,true,true,inR ((255:Int)-(n:Int)-1)] (.ok (.inl (((),(),(),(),(),(255:Int)-(n:Int)-1,()),(lst A,lst B,c2,lst M,lst (eE (qq D A).1 M).1,())))))
    (gd [inR ((255:Int)-(n:Int)-1)] (.ok (.inl (((),(),(),(),(),(255:Int)-(n:Int)-1,()),(lst A,lst B,c2,lst M,lst (qq D A).1,())))))))
   (gd [inR ((255:Int)-(n:Int)-1)] (.ok (.inl (((),(),(),(),(),(255:Int)-(n:Int)-1,()),(lst A,lst B,c2,lst M,lst D,()))))):OT (Sum cr aE)).run
  =some (.inl (av1 A B c2 M (n+1) (Cx M.nat A.nat B.nat n o))):=λD hD=>by
  rw [hbit,e2]
  rw [e2] at gi gi2
  have hlt:=Nat.mod_lt (2*o) (show 0<M.nat by omega)
  have hDn:D.nat=2*o%M.nat:=by rw [hD];exact kx (by omega)
  have hw:(qq D A).1.nat=2*o%M.nat+A.nat:=by rw [sum_nat (by omega),hDn]
  unfold Cx
  rcases (Bool.eq_false_or_eq_true (afX B.nat (255-n))).symm with hb|hb
  ·rw [hb,hD]
   exact (OT.aq rfl).trans (gi _)
  ·rw [hb]
   refine (OT.ao rfl).trans ((ah rfl).trans ?_)
   rcases (Bool.eq_false_or_eq_true (Nat.blt (qq D A).1.nat M.nat)).symm with hc|hc
   ·have er:=aIG hc (by omega)
    rw [hw] at er
    refine (OT.ao (by rw [hc];rfl)).trans ((gi2 _).trans ?_)
    rw [er]
    rfl
   ·have er:=aIH hc
    rw [hw] at er
    refine (OT.aq (by rw [hc];rfl)).trans ((gi _).trans ?_)
    rw [er]
    rfl
 show (TQ (255-(n:Int)) (lst A) (lst B) c2 (lst M) (lst (ofN o))).run=_
 unfold TQ
 simp only [aHO,aHX,cN]
 refine (OT.ao (decide_eq_true (by omega))).trans ((ah rfl).trans ?_)
 rcases (Bool.eq_false_or_eq_true (Nat.blt (qq (ofN o) (ofN o)).1.nat M.nat)).symm with hc|hc
 ·have er:=aIG hc (by omega)
  rw [hz] at er
  exact (OT.ao (b:= !Nat.blt (qq (ofN o) (ofN o)).1.nat M.nat) (by rw [hc];rfl)).trans ((gb2 _).trans (tail _ er))
 ·have er:=aIH hc
  rw [hz] at er
  exact (OT.aq (b:= !Nat.blt (qq (ofN o) (ofN o)).1.nat M.nat) (by rw [hc];rfl)).trans ((gb _).trans (tail _ er))
def X0 (s:cr):Bool:=decide (s.1.2.2.2.2.2.1=255/\s.2.1.length=4/\s.2.2.1.length=4/\s.2.2.2.2.1.length=4/\s.2.2.2.2.2.1= [0,0,0,0]/\(elemOf s.2.1).nat<(elemOf s.2.2.2.2.1).nat/\2*(elemOf s.2.2.2.2.1).nat<=115792089237316195423570985008687907853269984665640564039457584007913129639936)
def aji (s:cr):lX:=(((),(),()),(s.2.2.2.1,lst (ofN ((elemOf s.2.1).nat*(elemOf s.2.2.1).nat%(elemOf s.2.2.2.2.1).nat)),()))
theorem aAd:∀ s:cr,X0 s=true->∃ m e,al vM m s=some e/\(IH aji s).run=some e:=by
 rintro ⟨⟨⟨⟩,⟨⟩,⟨⟩,⟨⟩,⟨⟩,i,⟨⟩⟩,⟨l0,l1,c2,l3,l4,⟨⟩⟩⟩ h
 have h':=of_decide_eq_true h
 dsimp only at h'
 obtain ⟨rfl,h0,h1,h3,rfl,hA,hM⟩:=h'
 obtain ⟨A,rfl⟩:∃ a,l0=lst a:=⟨elemOf l0,(aS h0).symm⟩
 obtain ⟨B,rfl⟩:∃ a,l1=lst a:=⟨elemOf l1,(aS h1).symm⟩
 obtain ⟨M,rfl⟩:∃ a,l3=lst a:=⟨elemOf l3,(aS h3).symm⟩
 have hA:A.nat<M.nat:=hA
 have:=(aR (T:=vM) (av1 A B c2 M) (Cx M.nat A.nat B.nat)
  (λo=>(⟨(.exit 0,vL),(((),(),()),(c2,lst (ofN o),()))⟩:aE)) 256 0 (λ_ o=>o<M.nat) (by omega) (λn o hn ho=>⟨aHg hn hA ho hM,?_⟩) (λo ho=> ?_)).1
 ·rw [av0 M.nat A.nat B.nat (jz B) 256 (by omega),Nat.sub_self,Nat.pow_zero,Nat.div_one] at this
  obtain ⟨m,hm⟩:=this
  exact ⟨m,_,hm,rfl⟩
 ·unfold Cx
  cases afX B.nat (255-n)
  ·exact Nat.mod_lt _ (by omega)
  ·exact Nat.mod_lt _ (by omega)
 ·exact OT.aq (decide_eq_false (by dsimp only [av1];omega))
def fh (x:Qm):Bool:=ap x.1.1
def ato (x:Qm):OT hJ.Y:=.ok ⟨dz,((bP (pS x.1.1) x.1.2.1 x.1.2.2.1,()),())⟩
theorem aum {s:Int} (hs:ap s=true) (a b:aa):ofN ((ofP (pS s) a).nat*(ofP (pS s) b).nat%pS s)=bP (pS s) a b:=by
 have hp:=tF hs
 unfold ofP bP
 rw [dy hp,dy hp,<-Nat.mul_mod]
theorem aAc:ac Tryz.prog 113 (hJ.aI fh ato):=amv X0 aji aAd _ _ λx oy hp ho=>by
 rw [<-ho]
 clear ho
 obtain ⟨⟨s,a,b,⟨⟩⟩,⟨⟩⟩:=x
 have hs:ap s=true:=hp
 show _=some (⟨dz,((bP (pS s) a b,()),())⟩:hJ.Y)
 have little:(s=0\/s=1)->(gd [!(WN s==0)] (.ok ⟨dz,((⟨(ofP (pS s) a).w0*(ofP (pS s) b).w0%WN s,0,0,0⟩,()),())⟩):OT hJ.Y).run=some (⟨dz,((bP (pS s) a b,()),())⟩:hJ.Y):=λh=>by
  obtain ⟨_,_,_,hz⟩:=Ca h
  rw [anB h]
  exact ah (by simp only [hz,List.all_cons,List.all_nil,Bool.and_true])
 by_cases h0:s=0
 ·exact (OT.ao (by simpa using h0)).trans ((OT.ao hs).trans ((OT.ao hs).trans (little (.inl h0))))
 ·refine (OT.aq (by simpa using h0)).trans ?_
  by_cases h1:s=1
  ·exact (OT.ao (by simpa using h1)).trans ((OT.ao hs).trans ((OT.ao hs).trans (little (.inr h1))))
  ·refine (OT.aq (by simpa using h1)).trans ((OT.ao hs).trans ((OT.ao hs).trans ((OT.ao hs).trans ?_)))
   have hpp:=tF hs
   have hA:(ofP (pS s) a).nat<pS s:=by
    show (ofN _).nat<_
    rw [dy hpp]
    exact Nat.mod_lt _ hpp.1
   refine (ah ?_).trans ?_
   ·simp only [List.all_cons,List.all_nil,Bool.and_true,Bool.and_eq_true]
    exact ⟨decide_eq_true ⟨rfl,rfl,rfl,rfl,rfl,hA,(by show 2*pS s<=_;omega)⟩,rfl,rfl,rfl⟩
   ·rw [<-aum hs]
    show some (⟨dz,((elemOf (lay [0,0,0,0] (lst (ofN ((ofP (pS s) a).nat*(ofP (pS s) b).nat%pS s))) 4 0),()),())⟩:hJ.Y)=_
    rw [aHT _ _ rfl rfl]
    rfl
def EH:cj:=(hJ.aI fh ato)
theorem adl:ac Tryz.prog 113 EH:=aAc
theorem adk:aG EH:=aB
def Ah:Env:=ay 113 EH Gr
theorem qa:aQ Tryz.prog Ah:=ag adl xH
theorem HE:ax Ah:=ae adk HD
theorem Ag:aW Tryz.prog te Ah:=aL follows ar qa HE
def jG:aw:=⟨[.val false .int,.val true .elem,.val true .elem],[],true,0,false⟩
abbrev Qv:Type:=((Int)×(aa)×(aa)×Unit)×(Unit)
def BA:Shape:=⟨53,[(0,.val false .int),(4,.ptr 0 0 0),(5,.ptr 1 0 0),(6,.ptr 2 0 0),(7,.ptr 3 0 0),(8,.val false .int)],[(0,.row .u64),(1,.row .u64),(2,.row .u64),(3,.row .u64)],0,true⟩
abbrev cZ:Type:=((Int)×(Unit)×(Unit)×(Unit)×(Unit)×(Int)×Unit)×((List (UInt64))×(List (UInt64))×(List (UInt64))×(List (UInt64))×Unit)
def oM:Shape:=⟨53,[(0,.val false .int),(4,.ptr 0 0 0),(5,.ptr 1 0 0),(6,.ptr 2 0 0),(7,.ptr 3 0 0),(8,.val false .int)],[(0,.row .u64),(1,.row .u64),(2,.row .u64),(3,.row .u64)],0,true⟩
abbrev l8:Type:=((Int)×(Unit)×(Unit)×(Unit)×(Unit)×(Int)×Unit)×((List (UInt64))×(List (UInt64))×(List (UInt64))×(List (UInt64))×Unit)
def ajo:SE->Option Shape:=fc [(0,oM)] none
def aAm (a0:Int) (a8:Int) (c0:List (UInt64)) (c1:List (UInt64)) (c2:List (UInt64)) (c3:List (UInt64)):OT (Sum cZ aE):=
 let z0:Int:=Int.tdiv a8 (64:Int)
 (.br (decide ((0:Int)<=a8))
 (gd [true&&inR z0,inB z0 4,decide (Int.toNat z0+0<List.length c1)] (.br (bm (List.getD c1 (Int.toNat z0+0) (0:UInt64)) (↑(UInt64.toNat (i2u (Int.tmod a8 (64:Int)))):Int)&&&(1:UInt64)==(0:UInt64))
  (gd [inR (a8-(1:Int))] (.ok (.inl ((a0,((),((),((),((),(a8-(1:Int),())))))),(c0,(c1,(c2,(c3,()))))))))
  (.ok (.inr ⟨(.exit 0,oM),((a0,((),((),((),((),(a8,())))))),(c0,(c1,(c2,(c3,())))))⟩))))
 (.ok (.inr ⟨(.exit 0,oM),((a0,((),((),((),((),(a8,())))))),(c0,(c1,(c2,(c3,())))))⟩)))
def BB (s:cZ):OT (Sum cZ aE):=aAm (s.1.1) (s.1.2.2.2.2.2.1) (s.2.1) (s.2.2.1) (s.2.2.2.1) (s.2.2.2.2.1)
theorem aAi (s:cZ) (Q:Sum cZ aE->Prop):wps te Ah av 1000 (aU (aj Tryz.f129) 0) (BA.inj s) (bU BA ajo (Q:Sum BA.T aE->Prop))=(BB s).wpR Q:=by kernel_rfl
def IJ (g0_0:cZ->l8) (s:cZ):OT aE:=(.ok ⟨(.exit 0,oM),g0_0 s⟩)
def Bz:Shape:=⟨53,[(0,.val false .int),(4,.ptr 0 0 0),(5,.ptr 1 0 0),(6,.ptr 2 0 0),(7,.ptr 3 0 0),(9,.val false .int)],[(0,.row .u64),(1,.row .u64),(2,.row .u64),(3,.row .u64)],0,true⟩
abbrev dh:Type:=((Int)×(Unit)×(Unit)×(Unit)×(Unit)×(Int)×Unit)×((List (UInt64))×(List (UInt64))×(List (UInt64))×(List (UInt64))×Unit)
def vQ:Shape:=⟨53,[(6,.ptr 0 0 0),(7,.ptr 1 0 0)],[(0,.row .u64),(1,.row .u64)],0,true⟩
abbrev l7:Type:=((Unit)×(Unit)×Unit)×((List (UInt64))×(List (UInt64))×Unit)
def ajn:SE->Option Shape:=fc [(2,vQ)] none
def TV (a0:Int) (a9:Int) (c0:List (UInt64)) (c1:List (UInt64)) (c2:List (UInt64)) (c3:List (UInt64)):OT (Sum dh aE):=
 let z0:Nat:=List.length c3
 let z1:Bool:=decide (4<=z0)
 let z2:aa:= {w0:=List.getD c3 0 0,w1:=List.getD c3 1 0,w2:=List.getD c3 2 0,w3:=List.getD c3 3 0}
 let z3:Int:=Int.tdiv a9 (64:Int)
 let z4:Nat:=pS a0
 let z5:aa:=bP z4 z2 z2
 let z6:List UInt64:=List.set (List.set (List.set (List.set c3 0 z5.w0) 1 z5.w1) 2 z5.w2) 3 z5.w3
 let z7:Nat:=List.length z6
 let z8:aa:= {w0:=List.getD z6 0 0,w1:=List.getD z6 1 0,w2:=List.getD z6 2 0,w3:=List.getD z6 3 0}
 let z9:aa:= {w0:=List.getD c0 0 0,w1:=List.getD c0 1 0,w2:=List.getD c0 2 0,w3:=List.getD c0 3 0}
 let z10:Bool:=inR (a9-(1:Int))
 let z11:aa:=bP z4 z8 z9
 (.br (decide ((0:Int)<=a9))
 (gd [z1,z1,fh ((a0,z2,z2,()),()),decide ((4/1:Nat)+0<=z0),true&&inR z3,inB z3 4,decide (Int.toNat z3+0<List.length c1)] (.br (bm (List.getD c1 (Int.toNat z3+0) (0:UInt64)) (↑(UInt64.toNat (i2u (Int.tmod a9 (64:Int)))):Int)&&&(1:UInt64)==(1:UInt64))
  (gd [decide (4<=z7),decide (4<=List.length c0),fh ((a0,z8,z9,()),()),decide ((4/1:Nat)+0<=z7),z10] (.ok (.inl ((a0,((),((),((),((),(a9-(1:Int),())))))),(c0,(c1,(c2,(List.set (List.set (List.set (List.set z6 0 z11.w0) 1 z11.w1) 2 z11.w2) 3 z11.w3,()))))))))
  (gd [z10] (.ok (.inl ((a0,((),((),((),((),(a9-(1:Int),())))))),(c0,(c1,(c2,(z6,()))))))))))
 (.ok (.inr ⟨(.exit 2,vQ),(((),((),())),(c2,(c3,())))⟩)))
def vR (s:dh):OT (Sum dh aE):=TV (s.1.1) (s.1.2.2.2.2.2.1) (s.2.1) (s.2.2.1) (s.2.2.2.1) (s.2.2.2.2.1)
theorem aAh (s:dh) (Q:Sum dh aE->Prop):wps te Ah av 1000 (aU (aj Tryz.f129) 2) (Bz.inj s) (bU Bz ajn (Q:Sum Bz.T aE->Prop))=(vR s).wpR Q:=by kernel_rfl
def II (g2_2:dh->l7) (s:dh):OT aE:=(.ok ⟨(.exit 2,vQ),g2_2 s⟩)
def vP:az:=⟨[.val true .elem],[],false⟩
def Ye:SV->Option az:=λ_=>some vP
def adD (ok0:cZ->Bool) (g0_0:cZ->l8) (ok2:dh->Bool) (g2_2:dh->l7) (a0:Int) (a1:aa) (a2:aa):OT jG.Y:=
 let z0:Int×PUnit×PUnit×PUnit×PUnit×Int×PUnit:=(a0,(),(),(),(),(255:Int),())
 let z1:aa:=ofP (pS a0) {w0:=1,w1:=0,w2:=0,w3:=0}
 let z2:(Int×PUnit×PUnit×PUnit×PUnit×Int×PUnit)×List UInt64×List UInt64×List UInt64×List UInt64×PUnit:=(z0,[a1.w0,a1.w1,a1.w2,a1.w3],[a2.w0,a2.w1,a2.w2,a2.w3],[(0:UInt64),(0:UInt64),(0:UInt64),(0:UInt64)],[z1.w0,z1.w1,z1.w2,z1.w3],())
 let z3:(Int×PUnit×PUnit×PUnit×PUnit×Int×PUnit)×List UInt64×List UInt64×List UInt64×List UInt64×PUnit:=g0_0 z2
 let z4:=z3.fst
 let z5:=z3.snd
 let z6:=z5.snd
 let z7:=z6.snd
 let z8:(Int×PUnit×PUnit×PUnit×PUnit×Int×PUnit)×List UInt64×List UInt64×List UInt64×List UInt64×PUnit:=((z4.fst,(),(),(),(),z4.snd.snd.snd.snd.snd.fst,()),z5.fst,z6.fst,z7.fst,z7.snd.fst,())
 let z9:=(g2_2 z8).snd
 let z10:=z9.snd.fst
 let z11:=z9.fst
 let z12:List UInt64:=lay z11 z10 4 (0:UInt64)
 let z13:(Int×PUnit×PUnit×PUnit×PUnit×Int×PUnit)×List UInt64×List UInt64×List UInt64×List UInt64×PUnit:=(z0,[a1.w0,a1.w1,a1.w2,a1.w3],[a2.w0,a2.w1,a2.w2,a2.w3],[(0:UInt64),(0:UInt64),(0:UInt64),(0:UInt64)],[(0:UInt64),(0:UInt64),(0:UInt64),(0:UInt64)],())
 let z14:(Int×PUnit×PUnit×PUnit×PUnit×Int×PUnit)×List UInt64×List UInt64×List UInt64×List UInt64×PUnit:=g0_0 z13
 let z15:=z14.fst
 let z16:=z14.snd
 let z17:=z16.snd
 let z18:=z17.snd
 let z19:(Int×PUnit×PUnit×PUnit×PUnit×Int×PUnit)×List UInt64×List UInt64×List UInt64×List UInt64×PUnit:=((z15.fst,(),(),(),(),z15.snd.snd.snd.snd.snd.fst,()),z16.fst,z17.fst,z18.fst,z18.snd.fst,())
 let z20:=(g2_2 z19).snd
 let z21:=z20.snd.fst
 let z22:=z20.fst
 let z23:List UInt64:=lay z22 z21 4 (0:UInt64)
 (.br (ap a0)
 (gd [ok0 z2,ok2 z8,decide (4<=List.length z10),decide ((4/1:Nat)+0<=List.length z11),decide (4<=List.length z12)] (.ok ⟨vP,(({w0:=List.getD z12 0 0,w1:=List.getD z12 1 0,w2:=List.getD z12 2 0,w3:=List.getD z12 3 0},()),())⟩))
 (gd [ok0 z13,ok2 z19,decide (4<=List.length z21),decide ((4/1:Nat)+0<=List.length z22),decide (4<=List.length z23)] (.ok ⟨vP,(({w0:=List.getD z23 0 0,w1:=List.getD z23 1 0,w2:=List.getD z23 2 0,w3:=List.getD z23 3 0},()),())⟩)))
theorem aFR (ok0:cZ->Bool) (g0_0:cZ->l8) (ok2:dh->Bool) (g2_2:dh->l7) (x:Qv) (Q:jG.Y->Prop):wpf te Ah (aO 2 (cf Bz 2 ok2 (II g2_2)) (aO 0 (cf BA 0 ok0 (IJ g0_0)) av)) 1000 Tryz.f129 (jG.inp.inj x).tm (jG.inp.inj x).hp (fnK jG Ye Q) (λ_ _=>False)=(adD ok0 g0_0 ok2 g2_2 (x.1.1) (x.1.2.1) (x.1.2.2.1)).wpR Q:=by kernel_rfl
theorem amE (ok0:cZ->Bool) (g0_0:cZ->l8) (ok2:dh->Bool) (g2_2:dh->l7) (h0:∀ s:cZ,ok0 s=true->∃ m e,al (BB) m s=some e/\(IJ g0_0 s).run=some e) (h2:∀ s:dh,ok2 s=true->∃ m e,al (vR) m s=some e/\(II g2_2 s).run=some e) (pre:Qv->Bool) (F:Qv->OT jG.Y) (hF:∀ (x:Qv) oy,pre x=true->(F x).run=some oy->(adD ok0 g0_0 ok2 g2_2 (x.1.1) (x.1.2.1) (x.1.2.2.1)).run=some oy):ac Tryz.prog 129 (jG.aI pre F):=
 aD ar qa Ag (f:=129) (fn:=Tryz.f129) (c:=aj Tryz.f129) (by kernel_rfl) (by kernel_rfl) (by kernel_rfl) (S:=jG) (k:=0) (by kernel_rfl) (λR hR=>(aA (c:=(aj Tryz.f129)) (by kernel_rfl) (id:=2) (by kernel_rfl) (aP ar qa Ag (sh:=Bz) hR (xs:=ajn) (aC (by kernel_rfl) (by kernel_rfl) hR) aM af (n:=1000) (T:=vR) (λs Q=>aAh s Q) (ok:=ok2) (f:=II g2_2) h2) (aA (c:=(aj Tryz.f129)) (by kernel_rfl) (id:=0) (by kernel_rfl) (aP ar qa Ag (sh:=BA) hR (xs:=ajo) (aC (by kernel_rfl) (by kernel_rfl) hR) aM af (n:=1000) (T:=BB) (λs Q=>aAi s Q) (ok:=ok0) (f:=IJ g0_0) h0) af))) (n:=1000) (sel:=Ye) (λv o h=>by cases h;rfl) (pre:=pre) (F:=F) (T:=λx=>adD ok0 g0_0 ok2 g2_2 (x.1.1) (x.1.2.1) (x.1.2.2.1)) (λx Q=>aFR ok0 g0_0 ok2 g2_2 x Q) hF
theorem ad3 {p:Nat}:∀ (n o x k:Nat),k<2^n->o<p->aCS p n o x k=o*x^k%p
 |0,o,x,k,hk,ho=>by
  have:k=0:=by omega
  subst this
  show o=_
  rw [Nat.pow_zero,Nat.mul_one,Nat.mod_eq_of_lt ho]
 |n+1,o,x,k,hk,ho=>by
  unfold aCS
  rw [Nat.pow_succ] at hk
  cases h0:Nat.beq k 0
  ·simp only [cond_false]
   have hsq:(x*x%p)^(k/2)%p=x^(2*(k/2))%p:=by
    rw [<-Nat.pow_mod,Nat.pow_mul,Nat.pow_two]
   cases h1:Nat.beq (k%2) 1
   ·have h1':¬k%2=1:=λe=>by rw [e] at h1;cases h1
    simp only [cond_false]
    rw [ad3 n _ _ _ (by omega) ho,Nat.mul_mod,hsq,<-Nat.mul_mod,show 2*(k/2)=k by omega]
   ·have h1:=Nat.eq_of_beq_eq_true h1
    simp only [cond_true]
    rw [ad3 n _ _ _ (by omega) (Nat.mod_lt _ (by omega)),Nat.mul_mod,hsq,Nat.mod_mod,<-Nat.mul_mod,Nat.mul_assoc,<-Nat.pow_succ',show (2*(k/2)).succ=k by omega]
  ·have h0:=Nat.eq_of_beq_eq_true h0
   subst h0
   simp only [cond_true]
   rw [Nat.pow_zero,Nat.mul_one,Nat.mod_eq_of_lt ho]
theorem avO {p:Nat} (hp:1<p) (a k:aa):gX p a k=ofN (a.nat^k.nat%p):=by
 rw [Vy (by omega),ad3 256 1 _ _ (jz k) hp,Nat.one_mul,<-Nat.pow_mod]
theorem aKP {b:aa} {k:Nat} (hk:k<256):(bm (List.getD (lst b) (Int.toNat (Int.tdiv (k:Int) 64)+0) 0) (((i2u (Int.tmod (k:Int) 64)).toNat:Nat):Int)&&&1==1)=afX b.nat k:=by
 have h:=aDh (b:=b) (n:=255-k) (by omega)
 rw [show (255:Int)-((255-k:Nat):Int)=(k:Int) by omega,show 255-(255-k)=k by omega] at h
 exact h
theorem aDr (x:UInt64):(x&&&1==0)= !(x&&&1==1):=by
 have h:=V7 x
 have e:(x&&&1).toNat=x.toNat%2:=by
  rw [UInt64.toNat_and]
  exact Nat.and_two_pow_sub_one_eq_mod x.toNat 1
 have h2:x.toNat%2=0\/x.toNat%2=1:=by omega
 rcases h2 with h2|h2
 ·have:x&&&1=0:=UInt64.toNat_inj.1 (by rw [e,h2];rfl)
  rw [this];rfl
 ·have:x&&&1=1:=UInt64.toNat_inj.1 (by rw [e,h2];rfl)
  rw [this];rfl
def aDR (e:Nat):Nat->Int
 |0=> -1
 |n+1=>cond (afX e n) (n:Int) (aDR e n)
theorem alx {e n:Nat} (h:afX e n=false):e/2^n%2=0:=by
 unfold afX at h
 have:¬e/2^n%2=1:=λe=>by rw [e] at h;cases h
 omega
theorem W2 (e:Nat):∀ n,e/2^n=0->∃ t:Nat,aDR e n=(t:Int)-1/\t<=n/\e/2^t=0
 |0,h=>⟨0,rfl,Nat.le_refl _,h⟩
 |n+1,h=>by
  unfold aDR
  cases hb:afX e n
  ·simp only [cond_false]
   have h0:=alx hb
   have h1:e/2^n/2=0:=by rw [Nat.div_div_eq_div_mul,<-Nat.pow_succ];exact h
   obtain ⟨t,e1,e2,e3⟩:=W2 e n (by omega)
   exact ⟨t,e1,by omega,e3⟩
  ·exact ⟨n+1,by simp only [cond_true];omega,Nat.le_refl _,h⟩
def Pq (s:Int) (A B:aa) (c2:List UInt64) (O:aa) (i:Int):cZ:=((s,(),(),(),(),i,()),(lst A,lst B,c2,lst O,()))
theorem aJr {B:aa} {k:Nat} (hk:k<256) {α:Type} (z:OT α):(gd [true&&inR (Int.tdiv (k:Int) 64),inB (Int.tdiv (k:Int) 64) 4,decide (Int.toNat (Int.tdiv (k:Int) 64)+0<(lst B).length)] z).run=z.run:=by
 have t1:Int.tdiv (k:Int) 64=((k/64:Nat):Int):=by rw [Int.tdiv_eq_ediv_of_nonneg (by omega)];omega
 refine ah ?_
 simp only [t1,Int.toNat_natCast,Nat.add_zero,cN,List.all_cons,List.all_nil,Bool.and_true,Bool.true_and,Bool.and_eq_true]
 exact ⟨aH (by omega),aN (by omega),decide_eq_true (by omega)⟩
theorem akR (s:Int) (A B:aa) (c2:List UInt64) (O:aa):∀ n:Nat,n<=256->∃ m,al BB m (Pq s A B c2 O ((n:Int)-1))=some ⟨(.exit 0,oM),Pq s A B c2 O (aDR B.nat n)⟩
 |0,_=>⟨1,aK (OT.aq (decide_eq_false (by dsimp only [Pq];omega)))⟩
 |n+1,hn=>by
  have e1:((n+1:Nat):Int)-1=(n:Int):=by omega
  rw [e1]
  have hb:=aKP (b:=B) (k:=n) (by omega)
  unfold aDR
  rcases (Bool.eq_false_or_eq_true (afX B.nat n)).symm with h|h
  ·obtain ⟨m,hm⟩:=akR s A B c2 O n (by omega)
   rw [h] at hb⊢
   refine ⟨m+1,aF ?_ hm⟩
   refine (OT.ao (decide_eq_true (by dsimp only [Pq];omega))).trans ((aJr (B:=B) (k:=n) (by omega) _).trans ((OT.ao ?_).trans ((ah ?_).trans rfl)))
   ·exact (aDr _).trans (congrArg Bool.not hb)
   ·simp only [List.all_cons,List.all_nil,Bool.and_true]
    exact aH (by dsimp only [Pq];omega)
  ·rw [h] at hb⊢
   refine ⟨1,aK ?_⟩
   refine (OT.ao (decide_eq_true (by dsimp only [Pq];omega))).trans ((aJr (B:=B) (k:=n) (by omega) _).trans ((OT.aq ?_).trans rfl))
   exact (aDr _).trans (congrArg Bool.not hb)
def Yf (s:cZ):Bool:=decide (s.1.2.2.2.2.2.1=255/\s.2.1.length=4/\s.2.2.1.length=4/\s.2.2.2.2.1.length=4)
def ajq (s:cZ):l8:=((s.1.1,(),(),(),(),aDR (elemOf s.2.2.1).nat 256,()),s.2)
theorem aAl:∀ s:cZ,Yf s=true->∃ m e,al BB m s=some e/\(IJ ajq s).run=some e:=by
 rintro ⟨⟨s,⟨⟩,⟨⟩,⟨⟩,⟨⟩,i,⟨⟩⟩,⟨l0,l1,c2,l3,⟨⟩⟩⟩ h
 have h':=of_decide_eq_true h
 dsimp only at h'
 obtain ⟨rfl,h0,h1,h3⟩:=h'
 obtain ⟨A,rfl⟩:∃ a,l0=lst a:=⟨elemOf l0,(aS h0).symm⟩
 obtain ⟨B,rfl⟩:∃ a,l1=lst a:=⟨elemOf l1,(aS h1).symm⟩
 obtain ⟨O,rfl⟩:∃ a,l3=lst a:=⟨elemOf l3,(aS h3).symm⟩
 obtain ⟨m,hm⟩:=akR s A B c2 O 256 (by omega)
 exact ⟨m,_,hm,rfl⟩
theorem aG6 {s:Int} (hs:ap s=true) (A B:aa) (c2:List UInt64) (O:aa) {k:Nat} (hk:k<256) (hO:O=ofN (A.nat^(B.nat/2^(k+1))%pS s)):
 (vR (Pq s A B c2 O (k:Int))).run=some (.inl (Pq s A B c2 (ofN (A.nat^(B.nat/2^k)%pS s)) ((k:Int)-1))):=by
 have hp:=tF hs
 have hb:=aKP (b:=B) (k:=k) hk
 have t1:Int.tdiv (k:Int) 64=((k/64:Nat):Int):=by rw [Int.tdiv_eq_ediv_of_nonneg (by omega)];omega
 have hOn:O.nat=A.nat^(B.nat/2^(k+1))%pS s:=by rw [hO];exact dy hp
 have hi:inR ((k:Int)-1)=true:=aH (by omega)
 have hpre:∀ x y,fh ((s,x,y,()),())=true:=λ_ _=>hs
 have hD:bP (pS s) O O=ofN (A.nat^(2*(B.nat/2^(k+1)))%pS s):=by
  unfold bP
  rw [hOn,<-Nat.mul_mod,<-Nat.pow_add,<-Nat.two_mul]
 have hq:B.nat/2^k/2=B.nat/2^(k+1):=by rw [Nat.div_div_eq_div_mul,<-Nat.pow_succ]
 show (TV s (k:Int) (lst A) (lst B) c2 (lst O)).run=_
 unfold TV
 simp only [aHO,aHX,cN,hpre,hi]
 refine (OT.ao (decide_eq_true (by omega))).trans ((ah ?_).trans ?_)
 ·simp only [t1,Int.toNat_natCast,Nat.add_zero,cN,List.all_cons,List.all_nil,Bool.and_true,Bool.true_and,Bool.and_eq_true]
  exact ⟨rfl,rfl,rfl,aH (by omega),aN (by omega),decide_eq_true (by omega)⟩
 ·rcases (Bool.eq_false_or_eq_true (afX B.nat k)).symm with h|h
  ·have h0:=alx h
   rw [h] at hb
   refine (OT.aq hb).trans ((ah rfl).trans ?_)
   rw [hD,<-hq,show 2*(B.nat/2^k/2)=B.nat/2^k by omega]
   rfl
  ·have h0:B.nat/2^k%2=1:=Nat.eq_of_beq_eq_true h
   rw [h] at hb
   refine (OT.ao hb).trans ((ah rfl).trans ?_)
   have e:bP (pS s) (bP (pS s) O O) A=ofN (A.nat^(B.nat/2^k)%pS s):=by
    have e2:(bP (pS s) O O).nat=A.nat^(2*(B.nat/2^(k+1)))%pS s:=by rw [hD];exact dy hp
    show ofN (_*_%_)=_
    rw [e2,Nat.mod_mul_mod,<-Nat.pow_succ,<-hq,show (2*(B.nat/2^k/2)).succ=B.nat/2^k by omega]
   rw [e]
   rfl
theorem akQ {s:Int} (hs:ap s=true) (A B:aa) (c2:List UInt64):∀ (n:Nat) (O:aa),n<=256->O=ofN (A.nat^(B.nat/2^n)%pS s)->
 ∃ m,al vR m (Pq s A B c2 O ((n:Int)-1))=some ⟨(.exit 2,vQ),(((),(),()),(c2,lst (ofN (A.nat^B.nat%pS s)),()))⟩
 |0,O,_,hO=>by
  rw [Nat.pow_zero,Nat.div_one] at hO
  rw [<-hO]
  exact ⟨1,aK (OT.aq (decide_eq_false (by dsimp only [Pq];omega)))⟩
 |n+1,O,hn,hO=>by
  obtain ⟨m,hm⟩:=akQ hs A B c2 n (ofN (A.nat^(B.nat/2^n)%pS s)) (by omega) rfl
  rw [show ((n+1:Nat):Int)-1=(n:Int) by omega]
  exact ⟨m+1,aF (aG6 hs A B c2 O (by omega) hO) hm⟩
def Kn (s:dh):Bool:=ap s.1.1&&decide (s.1.2.2.2.2.2.1=aDR (elemOf s.2.2.1).nat 256/\s.2.1.length=4/\s.2.2.1.length=4/\s.2.2.2.2.1=lst (ofP (pS s.1.1) ⟨1,0,0,0⟩))
def ajp (s:dh):l7:=(((),(),()),(s.2.2.2.1,lst (ofN ((elemOf s.2.1).nat^(elemOf s.2.2.1).nat%pS s.1.1)),()))
theorem aAk:∀ s:dh,Kn s=true->∃ m e,al vR m s=some e/\(II ajp s).run=some e:=by
 rintro ⟨⟨s,⟨⟩,⟨⟩,⟨⟩,⟨⟩,i,⟨⟩⟩,⟨l0,l1,c2,l3,⟨⟩⟩⟩ h
 simp only [Kn,Bool.and_eq_true,decide_eq_true_eq] at h
 obtain ⟨hs,rfl,h0,h1,rfl⟩:=h
 obtain ⟨A,rfl⟩:∃ a,l0=lst a:=⟨elemOf l0,(aS h0).symm⟩
 obtain ⟨B,rfl⟩:∃ a,l1=lst a:=⟨elemOf l1,(aS h1).symm⟩
 obtain ⟨t,e1,e2,e3⟩:=W2 B.nat 256 (Nat.div_eq_of_lt (jz B))
 obtain ⟨m,hm⟩:=akQ hs A B c2 t (ofP (pS s) ⟨1,0,0,0⟩) e2 (by rw [e3,Nat.pow_zero];rfl)
 rw [<-e1] at hm
 exact ⟨m,_,hm,rfl⟩
theorem aIP {s:Int} (h:ap s=true):1<pS s:=aCU h
def oL (x:Qv):Bool:=ap x.1.1
def aty (x:Qv):OT jG.Y:=.ok ⟨vP,((gX (pS x.1.1) x.1.2.1 x.1.2.2.1,()),())⟩
theorem aAj:ac Tryz.prog 129 (jG.aI oL aty):=amE Yf ajq Kn ajp aAl aAk _ _ λx oy hp ho=>by
 rw [<-ho]
 clear ho
 obtain ⟨⟨s,a,b,⟨⟩⟩,⟨⟩⟩:=x
 have hs:ap s=true:=hp
 show _=some (⟨vP,((gX (pS s) a b,()),())⟩:jG.Y)
 rw [avO (aIP hs)]
 refine (OT.ao hs).trans ((ah ?_).trans ?_)
 ·simp only [List.all_cons,List.all_nil,Bool.and_true,Bool.and_eq_true]
  refine ⟨decide_eq_true ⟨rfl,rfl,rfl,rfl⟩,?_,rfl,rfl,rfl⟩
  refine (Bool.and_eq_true _ _).mpr ⟨hs,?_⟩
  exact decide_eq_true ⟨rfl,rfl,rfl,rfl⟩
 ·show some (⟨vP,((elemOf (lay [0,0,0,0] (lst (ofN (a.nat^b.nat%pS s))) 4 0),()),())⟩:jG.Y)=_
  rw [aHT _ _ rfl rfl]
  rfl
def EO:cj:=(jG.aI oL aty)
theorem adC:ac Tryz.prog 129 EO:=aAj
theorem adB:aG EO:=aB
def Gw:Env:=ay 129 EO Ah
theorem xL:aQ Tryz.prog Gw:=ag adC qa
theorem HJ:ax Gw:=ae adB HE
theorem NV:aW Tryz.prog te Gw:=aL follows ar xL HJ
def gU:aw:=⟨[.val true .elem],[],true,0,false⟩
abbrev EN:Type:=((aa)×Unit)×(Unit)
def td:Shape:=⟨29,[(1,.ptr 0 0 0),(2,.ptr 1 0 0),(3,.ptr 2 0 0),(4,.val false .int)],[(0,.row .u64),(1,.row .u64),(2,.row .u64)],0,true⟩
abbrev cF:Type:=((Unit)×(Unit)×(Unit)×(Int)×Unit)×((List (UInt64))×(List (UInt64))×(List (UInt64))×Unit)
def qQ:Shape:=⟨29,[(2,.ptr 0 0 0),(3,.ptr 1 0 0)],[(0,.row .u64),(1,.row .u64)],0,true⟩
abbrev kb:Type:=((Unit)×(Unit)×Unit)×((List (UInt64))×(List (UInt64))×Unit)
def Ya:SE->Option Shape:=fc [(0,qQ)] none
def atx (a4:Int) (c0:List (UInt64)) (c1:List (UInt64)) (c2:List (UInt64)):OT (Sum cF aE):=
 let z0:Bool:=inB a4 4
 let z1:Nat:=List.length c0
 let z2:List UInt64:=List.set c2 (Int.toNat a4+0) (bm (List.getD c0 (Int.toNat a4+0) (0:UInt64)) (1:Int))
 let z3:Bool:=decide (Int.toNat a4+0<List.length z2)
 let z4:Bool:=inR (a4+(1:Int))
 (.br (decide (a4<(4:Int)))
 (gd [z0,decide (Int.toNat a4+0<z1),z0,decide (Int.toNat a4+0<List.length c2)] (.br (decide (a4<(3:Int)))
  (gd [z0,z3,z4,inB (a4+(1:Int)) 4,decide (Int.toNat (a4+(1:Int))+0<z1),z0,z3,z4] (.ok (.inl (((),((),((),(a4+(1:Int),())))),(c0,(c1,(List.set z2 (Int.toNat a4+0) (List.getD z2 (Int.toNat a4+0) (0:UInt64)|||bR (List.getD c0 (Int.toNat (a4+(1:Int))+0) (0:UInt64)) (63:Int)),())))))))
  (gd [z4] (.ok (.inl (((),((),((),(a4+(1:Int),())))),(c0,(c1,(z2,())))))))))
 (.ok (.inr ⟨(.exit 0,qQ),(((),((),())),(c1,(c2,())))⟩)))
def iF (s:cF):OT (Sum cF aE):=atx (s.1.2.2.2.1) (s.2.1) (s.2.2.1) (s.2.2.2.1)
theorem atu (s:cF) (Q:Sum cF aE->Prop):wps te Gw av 1000 (aU (aj Tryz.f130) 0) (td.inj s) (bU td Ya (Q:Sum td.T aE->Prop))=(iF s).wpR Q:=by kernel_rfl
def Bx (g0_0:cF->kb) (s:cF):OT aE:=(.ok ⟨(.exit 0,qQ),g0_0 s⟩)
def tf:az:=⟨[.val true .elem],[],false⟩
def Qs:SV->Option az:=λ_=>some tf
def TU (ok0:cF->Bool) (g0_0:cF->kb) (a0:aa):OT gU.Y:=
 let z0:(PUnit×PUnit×PUnit×Int×PUnit)×List UInt64×List UInt64×List UInt64×PUnit:=(((),(),(),(0:Int),()),[a0.w0,a0.w1,a0.w2,a0.w3],[(0:UInt64),(0:UInt64),(0:UInt64),(0:UInt64)],[(0:UInt64),(0:UInt64),(0:UInt64),(0:UInt64)],())
 let z1:=(g0_0 z0).snd
 let z2:=z1.snd.fst
 let z3:=z1.fst
 let z4:List UInt64:=lay z3 z2 4 (0:UInt64)
 (gd [ok0 z0,decide (4<=List.length z2),decide ((4/1:Nat)+0<=List.length z3),decide (4<=List.length z4)] (.ok ⟨tf,(({w0:=List.getD z4 0 0,w1:=List.getD z4 1 0,w2:=List.getD z4 2 0,w3:=List.getD z4 3 0},()),())⟩))
theorem aAg (ok0:cF->Bool) (g0_0:cF->kb) (x:EN) (Q:gU.Y->Prop):wpf te Gw (aO 0 (cf td 0 ok0 (Bx g0_0)) av) 1000 Tryz.f130 (gU.inp.inj x).tm (gU.inp.inj x).hp (fnK gU Qs Q) (λ_ _=>False)=(TU ok0 g0_0 (x.1.1)).wpR Q:=by kernel_rfl
theorem adA (ok0:cF->Bool) (g0_0:cF->kb) (h0:∀ s:cF,ok0 s=true->∃ m e,al (iF) m s=some e/\(Bx g0_0 s).run=some e) (pre:EN->Bool) (F:EN->OT gU.Y) (hF:∀ (x:EN) oy,pre x=true->(F x).run=some oy->(TU ok0 g0_0 (x.1.1)).run=some oy):ac Tryz.prog 130 (gU.aI pre F):=
 aD ar xL NV (f:=130) (fn:=Tryz.f130) (c:=aj Tryz.f130) (by kernel_rfl) (by kernel_rfl) (by kernel_rfl) (S:=gU) (k:=0) (by kernel_rfl) (λR hR=>(aA (c:=(aj Tryz.f130)) (by kernel_rfl) (id:=0) (by kernel_rfl) (aP ar xL NV (sh:=td) hR (xs:=Ya) (aC (by kernel_rfl) (by kernel_rfl) hR) aM af (n:=1000) (T:=iF) (λs Q=>atu s Q) (ok:=ok0) (f:=Bx g0_0) h0) af)) (n:=1000) (sel:=Qs) (λv o h=>by cases h;rfl) (pre:=pre) (F:=F) (T:=λx=>TU ok0 g0_0 (x.1.1)) (λx Q=>aAg ok0 g0_0 x Q) hF
def rp (a:aa) (c1 l:List UInt64) (i:Int):cF:=(((),(),(),i,()),(lst a,c1,l,()))
theorem aJa (a:aa) (c1:List UInt64):(iF (rp a c1 [0,0,0,0] 0)).run=some (.inl (rp a c1 [bm a.w0 1|||bR a.w1 63,0,0,0] 1)):=rfl
theorem aI9 (a:aa) (c1:List UInt64) (x:UInt64):(iF (rp a c1 [x,0,0,0] 1)).run=some (.inl (rp a c1 [x,bm a.w1 1|||bR a.w2 63,0,0] 2)):=rfl
theorem aI8 (a:aa) (c1:List UInt64) (x y:UInt64):(iF (rp a c1 [x,y,0,0] 2)).run=some (.inl (rp a c1 [x,y,bm a.w2 1|||bR a.w3 63,0] 3)):=rfl
theorem aI7 (a:aa) (c1:List UInt64) (x y z:UInt64):(iF (rp a c1 [x,y,z,0] 3)).run=some (.inl (rp a c1 [x,y,z,bm a.w3 1] 4)):=rfl
theorem aI6 (a:aa) (c1 l:List UInt64):(iF (rp a c1 l 4)).run=some (.inr ⟨(.exit 0,qQ),(((),(),()),(c1,l,()))⟩):=rfl
def Qu (s:cF):Bool:=decide (s.1.2.2.2.1=0/\s.2.1.length=4/\s.2.2.2.1= [0,0,0,0])
def Yd (s:cF):kb:=(((),(),()),(s.2.2.1,lst (dr (elemOf s.2.1)),()))
theorem atw:∀ s:cF,Qu s=true->∃ m e,al iF m s=some e/\(Bx Yd s).run=some e:=by
 rintro ⟨⟨⟨⟩,⟨⟩,⟨⟩,i,⟨⟩⟩,⟨l,c1,c2,⟨⟩⟩⟩ h
 have h':=of_decide_eq_true h
 dsimp only at h'
 obtain ⟨rfl,hl,rfl⟩:=h'
 obtain ⟨a,rfl⟩:∃ a,l=lst a:=⟨elemOf l,(aS hl).symm⟩
 refine ⟨_,_,aF (aJa a c1) (aF (aI9 a c1 _) (aF (aI8 a c1 _ _) (aF (aI7 a c1 _ _ _) (aK (aI6 a c1 _))))),?_⟩
 have e: [bm a.w0 1|||bR a.w1 63,bm a.w1 1|||bR a.w2 63,bm a.w2 1|||bR a.w3 63,bm a.w3 1]=lst (dr a):=by rw [akg];rfl
 rw [e]
 rfl
def Qt (_:EN):Bool:=true
def ajm (x:EN):OT gU.Y:=.ok ⟨tf,((dr x.1.1,()),())⟩
theorem atv:ac Tryz.prog 130 (gU.aI Qt ajm):=adA Qu Yd atw _ _ λx oy hp ho=>by
 rw [<-ho]
 clear ho
 obtain ⟨⟨a,⟨⟩⟩,⟨⟩⟩:=x
 refine (ah ?_).trans ?_
 ·simp only [List.all_cons,List.all_nil,Bool.and_true,Bool.and_eq_true]
  exact ⟨decide_eq_true ⟨rfl,rfl,rfl⟩,rfl,rfl,rfl⟩
 ·show some (⟨tf,((elemOf (lay [0,0,0,0] (lst (dr a)) 4 0),()),())⟩:gU.Y)=some ⟨tf,((dr a,()),())⟩
  rw [aHT _ _ rfl rfl]
  rfl
def za:cj:=(gU.aI Qt ajm)
theorem Yc:ac Tryz.prog 130 za:=atv
theorem Yb:aG za:=aB
def xK:Env:=ay 130 za Gw
theorem rT:aQ Tryz.prog xK:=ag Yc xL
theorem Dk:ax xK:=ae Yb HJ
theorem HI:aW Tryz.prog te xK:=aL follows ar rT Dk
def dY:aw:=⟨[.val true .elem,.val false .int],[],true,0,false⟩
abbrev oK:Type:=((aa)×(Int)×Unit)×(Unit)
def lY:Shape:=⟨14,[(1,.val false .int),(2,.ptr 0 0 0),(4,.ptr 1 0 0),(5,.val false .int)],[(0,.row .u64),(1,.row .u64)],0,true⟩
abbrev bO:Type:=((Int)×(Unit)×(Unit)×(Int)×Unit)×((List (UInt64))×(List (UInt64))×Unit)
def kU:Shape:=⟨14,[(2,.ptr 0 0 0),(4,.ptr 1 0 0)],[(0,.row .u64),(1,.row .u64)],0,true⟩
abbrev gO:Type:=((Unit)×(Unit)×Unit)×((List (UInt64))×(List (UInt64))×Unit)
def Kl:SE->Option Shape:=fc [(0,kU)] none
def adz (a1:Int) (a5:Int) (c0:List (UInt64)) (c1:List (UInt64)):OT (Sum bO aE):=
 let z0:Nat:=List.length c0
 let z1:aa:=dr {w0:=List.getD c0 0 0,w1:=List.getD c0 1 0,w2:=List.getD c0 2 0,w3:=List.getD c0 3 0}
 (.br (decide (a5<a1))
 (gd [decide (4<=z0),decide ((4/1:Nat)+0<=z0),inR (a5+(1:Int))] (.ok (.inl ((a1,((),((),(a5+(1:Int),())))),(List.set (List.set (List.set (List.set c0 0 z1.w0) 1 z1.w1) 2 z1.w2) 3 z1.w3,(c1,()))))))
 (.ok (.inr ⟨(.exit 0,kU),(((),((),())),(c0,(c1,())))⟩)))
def l5 (s:bO):OT (Sum bO aE):=adz (s.1.1) (s.1.2.2.2.1) (s.2.1) (s.2.2.1)
theorem adw (s:bO) (Q:Sum bO aE->Prop):wps te xK av 1000 (aU (aj Tryz.f132) 0) (lY.inj s) (bU lY Kl (Q:Sum lY.T aE->Prop))=(l5 s).wpR Q:=by kernel_rfl
def qP (g0_0:bO->gO) (s:bO):OT aE:=(.ok ⟨(.exit 0,kU),g0_0 s⟩)
def lZ:az:=⟨[.val true .elem],[],false⟩
def G2:SV->Option az:=λ_=>some lZ
def EM (ok0:bO->Bool) (g0_0:bO->gO) (a0:aa) (a1:Int):OT dY.Y:=
 let z0:(Int×PUnit×PUnit×Int×PUnit)×List UInt64×List UInt64×PUnit:=((a1,(),(),(0:Int),()),[a0.w0,a0.w1,a0.w2,a0.w3],[(0:UInt64),(0:UInt64),(0:UInt64),(0:UInt64)],())
 let z1:=(g0_0 z0).snd
 let z2:=z1.fst
 let z3:=z1.snd.fst
 let z4:List UInt64:=lay z3 z2 4 (0:UInt64)
 (gd [ok0 z0,decide (4<=List.length z2),decide ((4/1:Nat)+0<=List.length z3),decide (4<=List.length z4)] (.ok ⟨lZ,(({w0:=List.getD z4 0 0,w1:=List.getD z4 1 0,w2:=List.getD z4 2 0,w3:=List.getD z4 3 0},()),())⟩))
theorem amD (ok0:bO->Bool) (g0_0:bO->gO) (x:oK) (Q:dY.Y->Prop):wpf te xK (aO 0 (cf lY 0 ok0 (qP g0_0)) av) 1000 Tryz.f132 (dY.inp.inj x).tm (dY.inp.inj x).hp (fnK dY G2 Q) (λ_ _=>False)=(EM ok0 g0_0 (x.1.1) (x.1.2.1)).wpR Q:=by kernel_rfl
theorem TT (ok0:bO->Bool) (g0_0:bO->gO) (h0:∀ s:bO,ok0 s=true->∃ m e,al (l5) m s=some e/\(qP g0_0 s).run=some e) (pre:oK->Bool) (F:oK->OT dY.Y) (hF:∀ (x:oK) oy,pre x=true->(F x).run=some oy->(EM ok0 g0_0 (x.1.1) (x.1.2.1)).run=some oy):ac Tryz.prog 132 (dY.aI pre F):=
 aD ar rT HI (f:=132) (fn:=Tryz.f132) (c:=aj Tryz.f132) (by kernel_rfl) (by kernel_rfl) (by kernel_rfl) (S:=dY) (k:=0) (by kernel_rfl) (λR hR=>(aA (c:=(aj Tryz.f132)) (by kernel_rfl) (id:=0) (by kernel_rfl) (aP ar rT HI (sh:=lY) hR (xs:=Kl) (aC (by kernel_rfl) (by kernel_rfl) hR) aM af (n:=1000) (T:=l5) (λs Q=>adw s Q) (ok:=ok0) (f:=qP g0_0) h0) af)) (n:=1000) (sel:=G2) (λv o h=>by cases h;rfl) (pre:=pre) (F:=F) (T:=λx=>EM ok0 g0_0 (x.1.1) (x.1.2.1)) (λx Q=>amD ok0 g0_0 x Q) hF
def G3 (s:bO):Bool:=decide (s.1.2.2.2.1=0/\0<=s.1.1/\s.1.1<=1000000/\s.2.1.length=4)
def Km (s:bO):gO:=(((),(),()),(lst (dX (elemOf s.2.1) s.1.1.toNat),s.2.2.1,()))
theorem ady:∀ s:bO,G3 s=true->∃ m e,al l5 m s=some e/\(qP Km s).run=some e:=by
 rintro ⟨⟨k,⟨⟩,⟨⟩,i,⟨⟩⟩,⟨l,o,⟨⟩⟩⟩ h
 have h':=of_decide_eq_true h
 dsimp only at h'
 obtain ⟨rfl,h0,h1,hl⟩:=h'
 obtain ⟨a,rfl⟩:∃ a,l=lst a:=⟨elemOf l,(aS hl).symm⟩
 have:=(aR (T:=l5) (λi a=>(((k,(),(),(i:Int),()),(lst a,o,())):bO)) (λ_ e=>dr e)
  (λa=>(⟨(.exit 0,kU),(((),(),()),(lst a,o,()))⟩:aE)) k.toNat a (λ_ _=>True) trivial (λi a hi _=>⟨?_,trivial⟩) (λa _=> ?_)).1
 ·rw [zF] at this
  obtain ⟨m,hm⟩:=this
  exact ⟨m,_,hm,rfl⟩
 ·refine (OT.ao (decide_eq_true (by dsimp only;omega))).trans ((ah ?_).trans rfl)
  simp only [List.all_cons,List.all_nil,Bool.and_true,Bool.and_eq_true]
  exact ⟨rfl,rfl,aH (by omega)⟩
 ·exact OT.aq (decide_eq_false (by dsimp only;omega))
def tc (x:oK):Bool:=decide (0<=x.1.2.1/\x.1.2.1<=1000000)
def Qr (x:oK):OT dY.Y:=.ok ⟨lZ,((dX x.1.1 x.1.2.1.toNat,()),())⟩
theorem adx:ac Tryz.prog 132 (dY.aI tc Qr):=TT G3 Km ady _ _ λx oy hp ho=>by
 rw [<-ho]
 clear ho
 obtain ⟨⟨a,k,⟨⟩⟩,⟨⟩⟩:=x
 have hp':0<=k/\k<=1000000:=of_decide_eq_true hp
 refine (ah ?_).trans ?_
 ·simp only [List.all_cons,List.all_nil,Bool.and_true,Bool.and_eq_true]
  exact ⟨decide_eq_true ⟨rfl,hp'.1,hp'.2,rfl⟩,rfl,rfl,rfl⟩
 ·show some (⟨lZ,((elemOf (lay [0,0,0,0] (lst (dX a k.toNat)) 4 0),()),())⟩:dY.Y)=some ⟨lZ,((dX a k.toNat,()),())⟩
  rw [aHT _ _ rfl rfl]
  rfl
def qO:cj:=(dY.aI tc Qr)
theorem Pa:ac Tryz.prog 132 qO:=adx
theorem O9:aG qO:=aB
def Gv:Env:=ay 132 qO xK
theorem Wt:aQ Tryz.prog Gv:=ag Pa rT
theorem NU:ax Gv:=ae O9 Dk
end Go.Proofs.YtohjofabochgfaaGreat

namespace Go.Proofs.YtohjofabochgfaaGreat
namespace Sx
open Go
theorem OT.V8 {α β:Type} {f:α->OT β}:∀ {t:OT α} {a:α} {b:β},t.run=some a->(f a).run=some b->(t.bind f).run=some b
 |.ok x,a,b,h,h2=>by
  cases h
  exact h2
 |.br c x y,a,b,h,h2=>by
  cases c
  ·exact OT.V8 (t:=y) h h2
  ·exact OT.V8 (t:=x) h h2
 |.fail,a,b,h,_=>by cases h
theorem jB {P:Program} {n:FuncId} {S:aw} {pre pre':S.T->Bool} {F F':S.T->OT S.Y} (h:ac P n (S.aI pre F))
 (hw:∀ x oy,pre' x=true->(F' x).run=some oy->pre x=true/\(F x).run=some oy):ac P n (S.aI pre' F'):=by
 refine ⟨λR w d args vs out hm hr hrun=>h.calls R w d args vs out hm hr ?_⟩
 simp only [aw.aI] at hrun⊢
 split at hrun
 ·cases hrun
 ·rename_i x hx
  obtain ⟨hp,hrun⟩:=OT.aJ hrun
  obtain ⟨oy,h1,h2⟩:=OT.run_bind hrun
  obtain ⟨h3,h4⟩:=hw x oy hp h1
  rw [h3]
  exact OT.V8 h4 h2
end Sx
end Go.Proofs.YtohjofabochgfaaGreat

namespace Go.Proofs.YtohjofabochgfaaGreat
open Sx Go
set_option maxRecDepth 100000
abbrev ajj:aw:=iD
def lf (x:G1):Bool:=ap x.1.1
def ajk (x:G1):OT iD.Y:=.ok ⟨kT,(((aY x.1.1.toNat).1,((0:Int),())),())⟩
theorem atp:ac Tryz.prog 92 (ajj.aI lf ajk):=jB (S:=iD) ajl λx oy hp ho=>⟨rfl,(OT.ao (b:=ap x.1.1) hp).trans ho⟩
def y9:cj:=(ajj.aI lf ajk)
theorem X3:ac Tryz.prog 92 y9:=atp
theorem X1:aG y9:=aB
def Ws:Env:=ay 92 y9 Gv
theorem agi:aQ Tryz.prog Ws:=ag X3 Wt
theorem Wr:ax Ws:=ae X1 NU
abbrev ajr:aw:=iJ
def ER (x:G7):Bool:=ap x.1.1
def ajs (x:G7):OT iJ.Y:=.ok ⟨qV,(((aY x.1.1.toNat).2.1,((0:Int),())),())⟩
theorem atA:ac Tryz.prog 131 (ajr.aI ER ajs):=jB (S:=iJ) ajt λx oy hp ho=>⟨rfl,(OT.ao (b:=ap x.1.1) hp).trans ho⟩
def zb:cj:=(ajr.aI ER ajs)
theorem Yj:ac Tryz.prog 131 zb:=atA
theorem Yi:aG zb:=aB
def Wv:Env:=ay 131 zb Ws
theorem agk:aQ Tryz.prog Wv:=ag Yj agi
theorem Wu:ax Wv:=ae Yi Wr
abbrev ath:aw:=lT
def ta (x:XX):Bool:=ap x.1.1
def ati (x:XX):OT lT.Y:=.ok ⟨n6,((ofP (pS x.1.1) x.1.2.1,()),())⟩
theorem az9:ac Tryz.prog 62 (ath.aI ta ati):=jB (S:=lT) atl λx oy hp ho=>⟨rfl,(OT.ao (b:=ap x.1.1) hp).trans ho⟩
def EF:cj:=(ath.aI ta ati)
theorem ac8:ac Tryz.prog 62 EF:=az9
theorem ac7:aG EF:=aB
def NN:Env:=ay 62 EF Wv
theorem Gq:aQ Tryz.prog NN:=ag ac8 agk
theorem HC:ax NN:=ae ac7 Wu
theorem agh:aW Tryz.prog te NN:=aL follows ar Gq HC
def lR:aw:=⟨[],[],true,0,false⟩
abbrev Qb:Type:=(Unit)×(Unit)
def TA:az:=⟨[.val true (.prod .elem (.prod .elem .bool))],[],false⟩
def XI:SV->Option az:=λ_=>some TA
def ac0:OT lR.Y:=
 let z0:aa:= {w0:=0,w1:=0,w2:=0,w3:=0}
 (.ok ⟨TA,(((z0,z0,true),()),())⟩)
theorem aFE (x:Qb) (Q:lR.Y->Prop):wpf te NN av 1000 Tryz.f93 (lR.inp.inj x).tm (lR.inp.inj x).hp (fnK lR XI Q) (λ_ _=>False)=(ac0).wpR Q:=by kernel_rfl
theorem amo (pre:Qb->Bool) (F:Qb->OT lR.Y) (hF:∀ (x:Qb) oy,pre x=true->(F x).run=some oy->(ac0).run=some oy):ac Tryz.prog 93 (lR.aI pre F):=
 aD ar Gq agh (f:=93) (fn:=Tryz.f93) (c:=aj Tryz.f93) (by kernel_rfl) (by kernel_rfl) (by kernel_rfl) (S:=lR) (k:=0) (by kernel_rfl) (λR hR=>af) (n:=1000) (sel:=XI) (λv o h=>by cases h;rfl) (pre:=pre) (F:=F) (T:=λx=>ac0) (λx Q=>aFE x Q) hF
def XJ (_:Qb):Bool:=true
def as0 (_:Qb):OT lR.Y:=.ok ⟨TA,((cO,()),())⟩
theorem az3:ac Tryz.prog 93 (lR.aI XJ as0):=amo _ _ λx oy _ ho=>ho
def Ez:cj:=(lR.aI XJ as0)
theorem acZ:ac Tryz.prog 93 Ez:=az3
theorem acY:aG Ez:=aB
def NK:Env:=ay 93 Ez NN
theorem Gn:aQ Tryz.prog NK:=ag acZ Gq
theorem HB:ax NK:=ae acY HC
theorem agf:aW Tryz.prog te NK:=aL follows ar Gn HB
def J4:aw:=⟨[.val false .int],[],true,0,false⟩
abbrev aHQ:Type:=((Int)×Unit)×(Unit)
def as4:az:=⟨[.val true .elem],[],false⟩
def as3:SV->Option az:=λ_=>some as4
def aFF (a0:Int):OT J4.Y:=
 (gd [inB a0 4,decide (Int.toNat a0+0<4)] (.ok ⟨as4,(({w0:=List.getD [(23:UInt64),(21:UInt64),(5:UInt64),(5:UInt64)] (Int.toNat a0+0) (0:UInt64),w1:=0,w2:=0,w3:=0},()),())⟩))
theorem aKi (x:aHQ) (Q:J4.Y->Prop):wpf te NK av 1000 Tryz.f135 (J4.inp.inj x).tm (J4.inp.inj x).hp (fnK J4 as3 Q) (λ_ _=>False)=(aFF (x.1.1)).wpR Q:=by kernel_rfl
theorem az5 (pre:aHQ->Bool) (F:aHQ->OT J4.Y) (hF:∀ (x:aHQ) oy,pre x=true->(F x).run=some oy->(aFF (x.1.1)).run=some oy):ac Tryz.prog 135 (J4.aI pre F):=
 aD ar Gn agf (f:=135) (fn:=Tryz.f135) (c:=aj Tryz.f135) (by kernel_rfl) (by kernel_rfl) (by kernel_rfl) (S:=J4) (k:=0) (by kernel_rfl) (λR hR=>af) (n:=1000) (sel:=as3) (λv o h=>by cases h;rfl) (pre:=pre) (F:=F) (T:=λx=>aFF (x.1.1)) (λx Q=>aKi x Q) hF
def ac2 (x:aHQ):Bool:=ap x.1.1
def aIJ (x:aHQ):OT J4.Y:=.ok ⟨as4,((bS x.1.1,()),())⟩
theorem aII:ac Tryz.prog 135 (J4.aI ac2 aIJ):=az5 _ _ λx oy hp ho=>by
 rw [<-ho]
 clear ho
 obtain ⟨⟨s,⟨⟩⟩,⟨⟩⟩:=x
 rcases cy hp with h|h|h|h
 all_goals
  have h:s=_:=h
  subst h
  rfl
def TG:cj:=(J4.aI ac2 aIJ)
theorem as5:ac Tryz.prog 135 TG:=aII
theorem as2:aG TG:=aB
def axn:Env:=ay 135 TG NK
theorem Wq:aQ Tryz.prog axn:=ag as5 Gn
theorem SC:ax axn:=ae as2 HB
theorem axm:aW Tryz.prog te axn:=aL follows ar Wq SC
def gS:aw:=⟨[.val false .int,.val true .elem],[],true,0,false⟩
abbrev EA:Type:=((Int)×(aa)×Unit)×(Unit)
def Bn:az:=⟨[.val true .elem],[],false⟩
def Qd:SV->Option az:=λ_=>some Bn
def TF (a0:Int) (a1:aa):OT gS.Y:=
 let z0:Nat:=pS a0
 let z1:aa:=bP z0 a1 a1
 let z2:aa:=bP z0 a1 z1
 let z3:aa:=bS a0
 (gd [fh ((a0,a1,a1,()),()),fh ((a0,a1,z1,()),()),ac2 ((a0,()),()),Kv ((a0,z2,z3,()),())] (.ok ⟨Bn,((Gg z0 z2 z3,()),())⟩))
theorem az4 (x:EA) (Q:gS.Y->Prop):wpf te axn av 1000 Tryz.f95 (gS.inp.inj x).tm (gS.inp.inj x).hp (fnK gS Qd Q) (λ_ _=>False)=(TF (x.1.1) (x.1.2.1)).wpR Q:=by kernel_rfl
theorem ac1 (pre:EA->Bool) (F:EA->OT gS.Y) (hF:∀ (x:EA) oy,pre x=true->(F x).run=some oy->(TF (x.1.1) (x.1.2.1)).run=some oy):ac Tryz.prog 95 (gS.aI pre F):=
 aD ar Wq axm (f:=95) (fn:=Tryz.f95) (c:=aj Tryz.f95) (by kernel_rfl) (by kernel_rfl) (by kernel_rfl) (S:=gS) (k:=0) (by kernel_rfl) (λR hR=>af) (n:=1000) (sel:=Qd) (λv o h=>by cases h;rfl) (pre:=pre) (F:=F) (T:=λx=>TF (x.1.1) (x.1.2.1)) (λx Q=>az4 x Q) hF
theorem aun (p:Nat) (a b:aa):bP p a b=bP p b a:=by unfold bP;rw [Nat.mul_comm]
def oA (x:EA):Bool:=ap x.1.1
def ajb (x:EA):OT gS.Y:=.ok ⟨Bn,((Cz (pS x.1.1) x.1.2.1 (bS x.1.1),()),())⟩
theorem as1:ac Tryz.prog 95 (gS.aI oA ajb):=ac1 _ _ λx oy hp ho=>by
 rw [<-ho]
 clear ho
 obtain ⟨⟨s,a,⟨⟩⟩,⟨⟩⟩:=x
 have hs:ap s=true:=hp
 show _=some (⟨Bn,((Cz (pS s) a (bS s),()),())⟩:gS.Y)
 unfold Cz
 rw [aun _ (bP (pS s) a a) a]
 refine (ah ?_).trans rfl
 simp only [List.all_cons,List.all_nil,Bool.and_true,Bool.and_eq_true]
 exact ⟨hs,hs,hs,hs⟩
def y5:cj:=(gS.aI oA ajb)
theorem XM:ac Tryz.prog 95 y5:=as1
theorem XL:aG y5:=aB
def rQ:Env:=ay 95 y5 axn
theorem mV:aQ Tryz.prog rQ:=ag XM Wq
theorem Dd:ax rQ:=ae XL SC
theorem uZ:aW Tryz.prog te rQ:=aL follows ar mV Dd
def gT:aw:=⟨[.val false .int,.val true .elem],[],true,0,false⟩
abbrev ED:Type:=((Int)×(aa)×Unit)×(Unit)
def s6:Shape:=⟨114,[(0,.val false .int),(4,.ptr 0 0 0),(10,.ptr 1 0 0),(14,.ptr 2 0 0),(15,.ptr 3 0 0),(16,.ptr 4 0 0),(17,.val false .int)],[(0,.row .u64),(1,.row .u64),(2,.row .u64),(3,.row .u64),(4,.row .u64)],0,true⟩
abbrev cE:Type:=((Int)×(Unit)×(Unit)×(Unit)×(Unit)×(Unit)×(Int)×Unit)×((List (UInt64))×(List (UInt64))×(List (UInt64))×(List (UInt64))×(List (UInt64))×Unit)
def s5:Shape:=⟨114,[(0,.val false .int),(4,.ptr 0 0 0),(10,.ptr 1 0 0),(14,.ptr 2 0 0),(15,.ptr 3 0 0),(16,.ptr 4 0 0),(17,.val false .int),(18,.ptr 5 0 0),(19,.val false .int)],[(0,.row .u64),(1,.row .u64),(2,.row .u64),(3,.row .u64),(4,.row .u64),(5,.row .u64)],0,true⟩
abbrev bI:Type:=((Int)×(Unit)×(Unit)×(Unit)×(Unit)×(Unit)×(Int)×(Unit)×(Int)×Unit)×((List (UInt64))×(List (UInt64))×(List (UInt64))×(List (UInt64))×(List (UInt64))×(List (UInt64))×Unit)
def qI:Shape:=⟨114,[(0,.val false .int),(4,.ptr 0 0 0),(10,.ptr 1 0 0),(14,.ptr 2 0 0),(15,.ptr 3 0 0),(16,.ptr 4 0 0),(17,.val false .int),(18,.ptr 5 0 0)],[(0,.row .u64),(1,.row .u64),(2,.row .u64),(3,.row .u64),(4,.row .u64),(5,.row .u64)],0,true⟩
abbrev eW:Type:=((Int)×(Unit)×(Unit)×(Unit)×(Unit)×(Unit)×(Int)×(Unit)×Unit)×((List (UInt64))×(List (UInt64))×(List (UInt64))×(List (UInt64))×(List (UInt64))×(List (UInt64))×Unit)
def XP:SE->Option Shape:=fc [(2,qI)] none
def atc (a0:Int) (a17:Int) (a19:Int) (c0:List (UInt64)) (c1:List (UInt64)) (c2:List (UInt64)) (c3:List (UInt64)) (c4:List (UInt64)) (c5:List (UInt64)):OT (Sum bI aE):=
 let z0:Nat:=List.length c5
 let z1:Bool:=decide (4<=z0)
 let z2:aa:= {w0:=List.getD c5 0 0,w1:=List.getD c5 1 0,w2:=List.getD c5 2 0,w3:=List.getD c5 3 0}
 let z3:aa:=bP (pS a0) z2 z2
 (.br (decide (a19<a17))
 (gd [z1,z1,fh ((a0,z2,z2,()),()),decide ((4/1:Nat)+0<=z0),inR (a19+(1:Int))] (.ok (.inl ((a0,((),((),((),((),((),(a17,((),(a19+(1:Int),()))))))))),(c0,(c1,(c2,(c3,(c4,(List.set (List.set (List.set (List.set c5 0 z3.w0) 1 z3.w1) 2 z3.w2) 3 z3.w3,()))))))))))
 (.ok (.inr ⟨(.exit 2,qI),((a0,((),((),((),((),((),(a17,((),())))))))),(c0,(c1,(c2,(c3,(c4,(c5,())))))))⟩)))
def s7 (s:bI):OT (Sum bI aE):=atc (s.1.1) (s.1.2.2.2.2.2.2.1) (s.1.2.2.2.2.2.2.2.2.1) (s.2.1) (s.2.2.1) (s.2.2.2.1) (s.2.2.2.2.1) (s.2.2.2.2.2.1) (s.2.2.2.2.2.2.1)
theorem as7 (s:bI) (Q:Sum bI aE->Prop):wps te rQ av 1000 (aU (aU (aj Tryz.f94) 0) 2) (s5.inj s) (bU s5 XP (Q:Sum s5.T aE->Prop))=(s7 s).wpR Q:=by kernel_rfl
def Bp (g2_2:bI->eW) (s:bI):OT aE:=(.ok ⟨(.exit 2,qI),g2_2 s⟩)
def qJ:Shape:=⟨114,[(0,.val false .int),(4,.ptr 0 0 0),(14,.ptr 1 0 0)],[(0,.row .u64),(1,.row .u64)],0,true⟩
abbrev j9:Type:=((Int)×(Unit)×(Unit)×Unit)×((List (UInt64))×(List (UInt64))×Unit)
def XQ:SE->Option Shape:=fc [(0,qJ)] none
def J6 (ok2:bI->Bool) (g2_2:bI->eW) (a0:Int) (a17:Int) (c0:List (UInt64)) (c1:List (UInt64)) (c2:List (UInt64)) (c3:List (UInt64)) (c4:List (UInt64)):OT (Sum cE aE):=
 let z0:(Int×PUnit×PUnit×PUnit×PUnit×PUnit×Int×PUnit×Int×PUnit)×List UInt64×List UInt64×List UInt64×List UInt64×List UInt64×List UInt64×PUnit:=((a0,(),(),(),(),(),a17,(),(1:Int),()),c0,c1,c2,c3,c4,[List.getD c3 0 0,List.getD c3 1 0,List.getD c3 2 0,List.getD c3 3 0],())
 let z1:(Int×PUnit×PUnit×PUnit×PUnit×PUnit×Int×PUnit×PUnit)×List UInt64×List UInt64×List UInt64×List UInt64×List UInt64×List UInt64×PUnit:=g2_2 z0
 let z2:=z1.snd
 let z3:=z2.snd
 let z4:=z3.snd
 let z5:=z4.snd
 let z6:=z5.snd
 let z7:=z6.snd.fst
 let z8:=z3.fst
 let z9:=z4.fst
 let z10:Nat:=List.length z9
 let z11:=z6.fst
 let z12:Nat:=List.length z11
 let z13:Bool:=decide (4<=z12)
 let z14:=z1.fst
 let z15:=z14.fst
 let z16:aa:= {w0:=List.getD z9 0 0,w1:=List.getD z9 1 0,w2:=List.getD z9 2 0,w3:=List.getD z9 3 0}
 let z17:aa:= {w0:=List.getD z11 0 0,w1:=List.getD z11 1 0,w2:=List.getD z11 2 0,w3:=List.getD z11 3 0}
 let z18:aa×PUnit:=(z17,())
 let z19:=z5.fst
 let z20:Nat:=List.length z19
 let z21:Bool:=fh ((z15,z17,z18),())
 let z22:aa:= {w0:=List.getD z19 0 0,w1:=List.getD z19 1 0,w2:=List.getD z19 2 0,w3:=List.getD z19 3 0}
 let z23:Nat:=pS z15
 let z24:aa:=bP z23 z17 z17
 let z25:Bool:=decide ((4/1:Nat)+0<=z12)
 let z26:Bool:=inR (z14.snd.snd.snd.snd.snd.snd.fst-(1:Int))
 let z27:=z2.fst
 let z28:aa:=bP z23 z16 z17
 let z29:aa:=bP z23 z22 z24
 let z30:List UInt64:=List.set (List.set (List.set (List.set z11 0 z24.w0) 1 z24.w1) 2 z24.w2) 3 z24.w3
 (.br (decide ((1:Int)<=a17))
 (gd [decide (4<=List.length c3),ok2 z0,decide (4<=List.length z7),decide (4<=List.length z8)] (.br (!(List.getD z7 0 0==List.getD z8 0 0&&(List.getD z7 1 0==List.getD z8 1 0&&(List.getD z7 2 0==List.getD z8 2 0&&(List.getD z7 3 0==List.getD z8 3 0&&true)))))
  (gd [decide (4<=z10),z13,fh ((z15,z16,z18),()),decide ((4/1:Nat)+0<=z10),decide (4<=z20),z13,z13,z21,fh ((z15,z22,z24,()),()),decide ((4/1:Nat)+0<=z20),z13,z13,z21,z25,z26] (.ok (.inl ((z15,((),((),((),((),((),(z14.snd.snd.snd.snd.snd.snd.fst-(1:Int),()))))))),(z27,(z8,(List.set (List.set (List.set (List.set z9 0 z28.w0) 1 z28.w1) 2 z28.w2) 3 z28.w3,(List.set (List.set (List.set (List.set z19 0 z29.w0) 1 z29.w1) 2 z29.w2) 3 z29.w3,(z30,())))))))))
  (gd [z13,z13,z21,z25,z26] (.ok (.inl ((z15,((),((),((),((),((),(z14.snd.snd.snd.snd.snd.snd.fst-(1:Int),()))))))),(z27,(z8,(z9,(z19,(z30,())))))))))))
 (.ok (.inr ⟨(.exit 0,qJ),((a0,((),((),()))),(c0,(c2,())))⟩)))
def oD (ok2:bI->Bool) (g2_2:bI->eW) (s:cE):OT (Sum cE aE):=J6 ok2 g2_2 (s.1.1) (s.1.2.2.2.2.2.2.1) (s.2.1) (s.2.2.1) (s.2.2.2.1) (s.2.2.2.2.1) (s.2.2.2.2.2.1)
theorem as8 (ok2:bI->Bool) (g2_2:bI->eW) (s:cE) (Q:Sum cE aE->Prop):wps te rQ (aO 2 (cf s5 2 ok2 (Bp g2_2)) av) 1000 (aU (aj Tryz.f94) 0) (s6.inj s) (bU s6 XQ (Q:Sum s6.T aE->Prop))=(oD ok2 g2_2 s).wpR Q:=by kernel_rfl
def Bq (g0_0:cE->j9) (s:cE):OT aE:=(.ok ⟨(.exit 0,qJ),g0_0 s⟩)
def fT:az:=⟨[.val true .elem,.val false .int],[],false⟩
def Qf:SV->Option az:=λ_=>some fT
def TH (ok2:bI->Bool) (g2_2:bI->eW) (ok0:cE->Bool) (g0_0:cE->j9) (a0:Int) (a1:aa):OT gT.Y:=
 let z0:Int×PUnit:=(a0,())
 let z1:Nat:=pS a0
 let z2:aa:=ofP z1 a1
 let z3:aa:= {w0:=0,w1:=0,w2:=0,w3:=0}
 let z4:aa×Int×UInt64×UInt64×aa:=aY (Int.toNat a0)
 let z5:aa:= {w0:=1,w1:=0,w2:=0,w3:=0}
 let z6:aa:=(eE z4.fst z5).fst
 let z7:aa:=dr z6
 let z8:aa:=gX z1 z2 z7
 let z9:=z4.snd.fst
 let z10:aa:=dX z6 (Int.toNat z9)
 let z11:aa:=dr (qq z10 z5).fst
 let z12:aa×PUnit:=(z10,())
 let z13:aa:= {w0:=5,w1:=0,w2:=0,w3:=0}
 let z14:aa:=gX z1 z2 z11
 let z15:aa:=gX z1 z2 z10
 let z16:aa:=gX z1 z13 z10
 let z17:(Int×PUnit×PUnit×PUnit×PUnit×PUnit×Int×PUnit)×List UInt64×List UInt64×List UInt64×List UInt64×List UInt64×PUnit:=((a0,(),(),(),(),(),z9-(1:Int),()),[(0:UInt64),(0:UInt64),(0:UInt64),(0:UInt64)],[(1:UInt64),(0:UInt64),(0:UInt64),(0:UInt64)],[z14.w0,z14.w1,z14.w2,z14.w3],[z15.w0,z15.w1,z15.w2,z15.w3],[z16.w0,z16.w1,z16.w2,z16.w3],())
 let z18:(Int×PUnit×PUnit×PUnit)×List UInt64×List UInt64×PUnit:=g0_0 z17
 let z19:=z18.snd
 let z20:=z19.snd.fst
 let z21:Nat:=List.length z20
 let z22:UInt64:=List.getD z20 0 0
 let z23:Bool:=decide (4<=z21)
 let z24:=z18.fst.fst
 let z25:aa:= {w0:=z22,w1:=List.getD z20 1 0,w2:=List.getD z20 2 0,w3:=List.getD z20 3 0}
 let z26:aa:=IR (pS z24) z25
 let z27:List UInt64:=List.set (List.set (List.set (List.set z20 0 z26.w0) 1 z26.w1) 2 z26.w2) 3 z26.w3
 let z28:=z19.fst
 let z29:Nat:=List.length z28
 let z30:List UInt64:=lay z28 z27 4 (0:UInt64)
 let z31:List UInt64:=lay z28 z20 4 (0:UInt64)
 (gd [lf (z0,()),ta ((a0,a1,()),())] (.br (z2.w0==(0:UInt64)&&(z2.w1==(0:UInt64)&&(z2.w2==(0:UInt64)&&(z2.w3==(0:UInt64)&&true))))
 (.ok ⟨fT,((z3,((0:Int),())),())⟩)
 (gd [oL ((a0,z2,z7,()),())] (.br (!(z8.w0==(1:UInt64)&&(z8.w1==(0:UInt64)&&(z8.w2==(0:UInt64)&&(z8.w3==(0:UInt64)&&true)))))
  (.ok ⟨fT,((z3,((22:Int),())),())⟩)
  (gd [ER (z0,()),tc ((z6,z9,()),()),oL ((a0,z2,z11,()),()),oL ((a0,z2,z12),()),oL ((a0,z13,z12),()),inR (z9-(1:Int)),ok0 z17,decide (0<z21)] (.br (z22%(2:UInt64)==(1:UInt64))
   (gd [z23,lW ((z24,z25,()),()),decide ((4/1:Nat)+0<=z21),decide (4<=List.length z27),decide ((4/1:Nat)+0<=z29),decide (4<=List.length z30)] (.ok ⟨fT,(({w0:=List.getD z30 0 0,w1:=List.getD z30 1 0,w2:=List.getD z30 2 0,w3:=List.getD z30 3 0},((0:Int),())),())⟩))
   (gd [z23,decide ((4/1:Nat)+0<=z29),decide (4<=List.length z31)] (.ok ⟨fT,(({w0:=List.getD z31 0 0,w1:=List.getD z31 1 0,w2:=List.getD z31 2 0,w3:=List.getD z31 3 0},((0:Int),())),())⟩))))))))
theorem az7 (ok2:bI->Bool) (g2_2:bI->eW) (ok0:cE->Bool) (g0_0:cE->j9) (x:ED) (Q:gT.Y->Prop):wpf te rQ (aO 0 (cf s6 0 ok0 (Bq g0_0)) av) 1000 Tryz.f94 (gT.inp.inj x).tm (gT.inp.inj x).hp (fnK gT Qf Q) (λ_ _=>False)=(TH ok2 g2_2 ok0 g0_0 (x.1.1) (x.1.2.1)).wpR Q:=by kernel_rfl
theorem ac5 (ok2:bI->Bool) (g2_2:bI->eW) (ok0:cE->Bool) (g0_0:cE->j9) (h2:∀ s:bI,ok2 s=true->∃ m e,al (s7) m s=some e/\(Bp g2_2 s).run=some e) (h0:∀ s:cE,ok0 s=true->∃ m e,al (oD ok2 g2_2) m s=some e/\(Bq g0_0 s).run=some e) (pre:ED->Bool) (F:ED->OT gT.Y) (hF:∀ (x:ED) oy,pre x=true->(F x).run=some oy->(TH ok2 g2_2 ok0 g0_0 (x.1.1) (x.1.2.1)).run=some oy):ac Tryz.prog 94 (gT.aI pre F):=
 aD ar mV uZ (f:=94) (fn:=Tryz.f94) (c:=aj Tryz.f94) (by kernel_rfl) (by kernel_rfl) (by kernel_rfl) (S:=gT) (k:=0) (by kernel_rfl) (λR hR=>(aA (c:=(aj Tryz.f94)) (by kernel_rfl) (id:=0) (by kernel_rfl) (aP ar mV uZ (sh:=s6) hR (xs:=XQ) (aC (by kernel_rfl) (by kernel_rfl) hR) aM (aA (c:=(aU (aj Tryz.f94) 0)) (by kernel_rfl) (id:=2) (by kernel_rfl) (aP ar mV uZ (sh:=s5) hR (xs:=XP) (aC (by kernel_rfl) (by kernel_rfl) hR) aM af (n:=1000) (T:=s7) (λs Q=>as7 s Q) (ok:=ok2) (f:=Bp g2_2) h2) af) (n:=1000) (T:=oD ok2 g2_2) (λs Q=>as8 ok2 g2_2 s Q) (ok:=ok0) (f:=Bq g0_0) h0) af)) (n:=1000) (sel:=Qf) (λv o h=>by cases h;rfl) (pre:=pre) (F:=F) (T:=λx=>TH ok2 g2_2 ok0 g0_0 (x.1.1) (x.1.2.1)) (λx Q=>az7 ok2 g2_2 ok0 g0_0 x Q) hF
def eU:aa:=⟨1,0,0,0⟩
def sqN (p:Nat) (b:aa) (n:Nat):aa:=upto (λ_ e=>bP p e e) b n
def ic (s:bI):Bool:=ap s.1.1&&decide (s.1.2.2.2.2.2.2.2.2.1=1/\s.1.2.2.2.2.2.2.1<=1000/\s.2.2.2.2.2.2.1.length=4)
def lS (s:bI):eW:=((s.1.1,(),(),(),(),(),s.1.2.2.2.2.2.2.1,(),()),(s.2.1,s.2.2.1,s.2.2.2.1,s.2.2.2.2.1,s.2.2.2.2.2.1,lst (sqN (pS s.1.1) (elemOf s.2.2.2.2.2.2.1) (s.1.2.2.2.2.2.2.1-1).toNat),()))
theorem ata:∀ s:bI,ic s=true->∃ m e,al s7 m s=some e/\(Bp lS s).run=some e:=by
 rintro ⟨⟨s,⟨⟩,⟨⟩,⟨⟩,⟨⟩,⟨⟩,i,⟨⟩,j,⟨⟩⟩,⟨c0,c1,c2,c3,c4,c5,⟨⟩⟩⟩ h
 simp only [ic,Bool.and_eq_true,decide_eq_true_eq] at h
 obtain ⟨hs,rfl,hi,hl⟩:=h
 obtain ⟨t,rfl⟩:∃ a,c5=lst a:=⟨elemOf c5,(aS hl).symm⟩
 have:=(aR (T:=s7) (λk t=>(((s,(),(),(),(),(),i,(),1+(k:Int),()),(c0,c1,c2,c3,c4,lst t,())):bI)) (λ_ e=>bP (pS s) e e)
  (λt=>(⟨(.exit 2,qI),((s,(),(),(),(),(),i,(),()),(c0,c1,c2,c3,c4,lst t,()))⟩:aE)) (i-1).toNat t (λ_ _=>True) trivial (λk t hk _=>⟨?_,trivial⟩) (λt _=> ?_)).1
 ·obtain ⟨m,hm⟩:=this
  exact ⟨m,_,hm,rfl⟩
 ·have e2:(1:Int)+(k:Int)+1=1+((k+1:Nat):Int):=by omega
  rw [<-e2]
  refine (OT.ao (decide_eq_true (by dsimp only;omega))).trans ((ah ?_).trans rfl)
  simp only [List.all_cons,List.all_nil,Bool.and_true,Bool.and_eq_true]
  exact ⟨rfl,rfl,hs,rfl,aH (by omega)⟩
 ·exact OT.aq (decide_eq_false (by dsimp only;omega))
abbrev Ton:Type:=aa×aa×aa
def yP (p m:Nat) (k:Nat) (w:Ton):Ton:=cond (eqE (sqN p w.2.1 (m-k-1)) eU) (w.1,w.2.1,bP p w.2.2 w.2.2) (bP p w.1 w.2.2,bP p w.2.1 (bP p w.2.2 w.2.2),bP p w.2.2 w.2.2)
def W3 (s:Int) (c0:List UInt64) (i:Int) (w:Ton):cE:=((s,(),(),(),(),(),i,()),(c0,lst eU,lst w.1,lst w.2.1,lst w.2.2,()))
theorem axG {s:Int} (hs:ap s=true) (c0:List UInt64) {m k:Nat} (hm:m<=1000) (hk:k<m) (w:Ton):
 (oD ic lS (W3 s c0 ((m:Int)-(k:Int)) w)).run=some (.inl (W3 s c0 ((m:Int)-((k+1:Nat):Int)) (yP (pS s) m k w))):=by
 obtain ⟨x,b,z⟩:=w
 have e2:(m:Int)-((k+1:Nat):Int)=(m:Int)-(k:Int)-1:=by omega
 have hi:inR ((m:Int)-(k:Int)-1)=true:=aH (by omega)
 have hk2:((m:Int)-(k:Int)-1).toNat=m-k-1:=by omega
 have hg:lS ((s,(),(),(),(),(),(m:Int)-(k:Int),(),1,()),(c0,lst eU,lst x,lst b,lst z,lst b,()))=((s,(),(),(),(),(),(m:Int)-(k:Int),(),()),(c0,lst eU,lst x,lst b,lst z,lst (sqN (pS s) b (m-k-1)),())):=by
  show ((s,(),(),(),(),(),(m:Int)-(k:Int),(),()),(c0,lst eU,lst x,lst b,lst z,lst (sqN (pS s) b ((m:Int)-(k:Int)-1).toNat),()))=_
  rw [hk2]
 have hok:ic ((s,(),(),(),(),(),(m:Int)-(k:Int),(),1,()),(c0,lst eU,lst x,lst b,lst z,lst b,()))=true:=
  (Bool.and_eq_true _ _).mpr ⟨hs,decide_eq_true (p:=(1:Int)=1/\(m:Int)-(k:Int)<=1000/\(lst b).length=4) ⟨rfl,by omega,rfl⟩⟩
 have hb: [List.getD (lst b) 0 0,List.getD (lst b) 1 0,List.getD (lst b) 2 0,List.getD (lst b) 3 0]=lst b:=rfl
 have hpre:∀ x y,fh ((s,x,y,()),())=true:=λ_ _=>hs
 show (J6 ic lS s ((m:Int)-(k:Int)) c0 (lst eU) (lst x) (lst b) (lst z)).run=_
 unfold J6
 simp only [hb,hg,hok]
 refine (OT.ao (decide_eq_true (by omega))).trans ((ah rfl).trans ?_)
 unfold yP
 dsimp only
 rw [e2]
 generalize sqN (pS s) b (m-k-1)=t
 rcases (Bool.eq_false_or_eq_true (eqE t eU)).symm with h|h
 ·refine (OT.ao (b:= !eqE t eU) (by rw [h];rfl)).trans ((ah ?_).trans ?_)
  ·simp only [aHO,aHX,cN,hpre,hi,List.all_cons,List.all_nil,Bool.and_true,Bool.and_eq_true]
   exact ⟨rfl,rfl,trivial,rfl,rfl,rfl,rfl,trivial,trivial,rfl,rfl,rfl,trivial,rfl⟩
  ·rw [h]
   simp only [aHO,aHX]
   rfl
 ·refine (OT.aq (b:= !eqE t eU) (by rw [h];rfl)).trans ((ah ?_).trans ?_)
  ·simp only [aHO,aHX,cN,hpre,hi,List.all_cons,List.all_nil,Bool.and_true,Bool.and_eq_true]
   exact ⟨rfl,rfl,trivial,rfl⟩
  ·rw [h]
   simp only [aHO,aHX]
   rfl
def axH (p m:Nat) (w:Ton):Ton:=upto (yP p m) w m
def EC (s:cE):Bool:=ap s.1.1&&decide (0<=s.1.2.2.2.2.2.2.1/\s.1.2.2.2.2.2.2.1<=1000/\s.2.2.1= [1,0,0,0]/\s.2.2.2.1.length=4/\s.2.2.2.2.1.length=4/\s.2.2.2.2.2.1.length=4)
def J5 (s:cE):j9:=((s.1.1,(),(),()),(s.2.1,lst (axH (pS s.1.1) s.1.2.2.2.2.2.2.1.toNat (elemOf s.2.2.2.1,elemOf s.2.2.2.2.1,elemOf s.2.2.2.2.2.1)).1,()))
theorem atb:∀ s:cE,EC s=true->∃ m e,al (oD ic lS) m s=some e/\(Bq J5 s).run=some e:=by
 rintro ⟨⟨s,⟨⟩,⟨⟩,⟨⟩,⟨⟩,⟨⟩,i,⟨⟩⟩,⟨c0,c1,c2,c3,c4,⟨⟩⟩⟩ h
 simp only [EC,Bool.and_eq_true,decide_eq_true_eq] at h
 obtain ⟨hs,h0,h1,rfl,h2,h3,h4⟩:=h
 obtain ⟨x,rfl⟩:∃ a,c2=lst a:=⟨elemOf c2,(aS h2).symm⟩
 obtain ⟨b,rfl⟩:∃ a,c3=lst a:=⟨elemOf c3,(aS h3).symm⟩
 obtain ⟨z,rfl⟩:∃ a,c4=lst a:=⟨elemOf c4,(aS h4).symm⟩
 obtain ⟨m,rfl⟩:∃ m:Nat,i=(m:Int):=⟨i.toNat,by omega⟩
 have:=(aR (T:=oD ic lS) (λk w=>W3 s c0 ((m:Int)-(k:Int)) w) (yP (pS s) m)
  (λw=>(⟨(.exit 0,qJ),((s,(),(),()),(c0,lst w.1,()))⟩:aE)) m (x,b,z) (λ_ _=>True) trivial (λk w hk _=>⟨axG hs c0 (by omega) hk w,trivial⟩) (λw _=> ?_)).1
 ·obtain ⟨n,hn⟩:=this
  refine ⟨n,_,?_,rfl⟩
  have e:W3 s c0 ((m:Int)-((0:Nat):Int)) (x,b,z)=((s,(),(),(),(),(),(m:Int),()),(c0,[1,0,0,0],lst x,lst b,lst z,())):=by
   rw [show (m:Int)-((0:Nat):Int)=(m:Int) by omega]
   rfl
  rw [e] at hn
  exact hn
 ·exact OT.aq (decide_eq_false (by dsimp only [W3];omega))
def sN (s:Int) (a:aa):aa:=(axH (pS s) ((aY s.toNat).2.1-1).toNat
 (gX (pS s) a (dr (qq (dX (eE (aY s.toNat).1 eU).1 (aY s.toNat).2.1.toNat) eU).1),gX (pS s) a (dX (eE (aY s.toNat).1 eU).1 (aY s.toNat).2.1.toNat),gX (pS s) ⟨5,0,0,0⟩ (dX (eE (aY s.toNat).1 eU).1 (aY s.toNat).2.1.toNat))).1
def la (p:Nat) (x:aa):aa:=cond (x.w0%2==1) (IR p x) x
def oC (x:ED):Bool:=ap x.1.1
def ajd (x:ED):OT gT.Y:=.br (bZ (ofP (pS x.1.1) x.1.2.1)) (.ok ⟨fT,((⟨0,0,0,0⟩,((0:Int),())),())⟩)
 (.br (eqE (gX (pS x.1.1) (ofP (pS x.1.1) x.1.2.1) (dr (eE (aY x.1.1.toNat).1 eU).1)) eU) (.ok ⟨fT,((la (pS x.1.1) (sN x.1.1 (ofP (pS x.1.1) x.1.2.1)),((0:Int),())),())⟩) (.ok ⟨fT,((⟨0,0,0,0⟩,((22:Int),())),())⟩))
theorem axh {s:Int} (hs:ap s=true):1<=(aY s.toNat).2.1/\(aY s.toNat).2.1<=32:=by
 rcases cy hs with rfl|rfl|rfl|rfl<;>decide
theorem as9:ac Tryz.prog 94 (gT.aI oC ajd):=ac5 ic lS EC J5 ata atb _ _ λx oy hp ho=>by
 rw [<-ho]
 clear ho
 obtain ⟨⟨s,a,⟨⟩⟩,⟨⟩⟩:=x
 have hs:ap s=true:=hp
 have had:=axh hs
 show _=(OT.br (bZ (ofP (pS s) a)) (.ok ⟨fT,((⟨0,0,0,0⟩,((0:Int),())),())⟩) (.br (eqE (gX (pS s) (ofP (pS s) a) (dr (eE (aY s.toNat).1 eU).1)) eU) (.ok ⟨fT,((la (pS s) (sN s (ofP (pS s) a)),((0:Int),())),())⟩) (.ok ⟨fT,((⟨0,0,0,0⟩,((22:Int),())),())⟩)):OT gT.Y).run
 refine (ah ?_).trans ?_
 ·simp only [List.all_cons,List.all_nil,Bool.and_true,Bool.and_eq_true]
  exact ⟨hs,hs⟩
 generalize hA:ofP (pS s) a=A
 rcases (Bool.eq_false_or_eq_true (bZ A)).symm with hz|hz
 ·refine Eq.trans ?_ (OT.aq (b:=bZ A) hz).symm
  refine (OT.aq hz).trans ((ah ?_).trans ?_)
  ·simp only [List.all_cons,List.all_nil,Bool.and_true]
   exact hs
  ·rcases (Bool.eq_false_or_eq_true (eqE (gX (pS s) A (dr (eE (aY s.toNat).1 eU).1)) eU)).symm with h1|h1
   ·refine Eq.trans ?_ (OT.aq h1).symm
    exact OT.ao (b:= !eqE (gX (pS s) A (dr (eE (aY s.toNat).1 eU).1)) eU) (by rw [h1];rfl)
   ·refine Eq.trans ?_ (OT.ao h1).symm
    refine (OT.aq (b:= !eqE (gX (pS s) A (dr (eE (aY s.toNat).1 eU).1)) eU) (by rw [h1];rfl)).trans ((ah ?_).trans ?_)
    ·simp only [List.all_cons,List.all_nil,Bool.and_true,Bool.and_eq_true]
     refine ⟨hs,decide_eq_true ⟨(by show 0<=(aY s.toNat).2.1;omega),(by show (aY s.toNat).2.1<=1000000;omega)⟩,hs,hs,hs,aH (by omega),(Bool.and_eq_true _ _).mpr ⟨hs,?_⟩,rfl⟩
     exact decide_eq_true ⟨(by show 0<=(aY s.toNat).2.1-1;omega),(by show (aY s.toNat).2.1-1<=1000;omega),rfl,rfl,rfl,rfl⟩
    ·have hg:∀ w x b z:aa,(J5 ((s,(),(),(),(),(),(aY s.toNat).2.1-1,()),([0,0,0,0],[1,0,0,0],[x.w0,x.w1,x.w2,x.w3],[b.w0,b.w1,b.w2,b.w3],[z.w0,z.w1,z.w2,z.w3],())))=((s,(),(),()),([0,0,0,0],lst (axH (pS s) ((aY s.toNat).2.1-1).toNat (x,b,z)).1,())):=λ_ _ _ _=>rfl
     simp only [hg eU]
     have hR:(axH (pS s) ((aY s.toNat).2.1-1).toNat (gX (pS s) A (dr (qq (dX (eE (aY s.toNat).1 ⟨1,0,0,0⟩).1 (aY s.toNat).2.1.toNat) ⟨1,0,0,0⟩).1),gX (pS s) A (dX (eE (aY s.toNat).1 ⟨1,0,0,0⟩).1 (aY s.toNat).2.1.toNat),gX (pS s) ⟨5,0,0,0⟩ (dX (eE (aY s.toNat).1 ⟨1,0,0,0⟩).1 (aY s.toNat).2.1.toNat))).1=sN s A:=rfl
     simp only [hR]
     generalize sN s A=R
     rcases (Bool.eq_false_or_eq_true (R.w0%2==1)).symm with h2|h2
     ·have e:la (pS s) R=R:=by unfold la;rw [h2];rfl
      rw [e]
      exact (OT.aq h2).trans ((ah rfl).trans rfl)
     ·have e:la (pS s) R=IR (pS s) R:=by unfold la;rw [h2];rfl
      rw [e]
      refine (OT.ao h2).trans ((ah ?_).trans rfl)
      simp only [List.all_cons,List.all_nil,Bool.and_true,Bool.and_eq_true]
      exact ⟨rfl,hs,rfl,rfl,rfl,rfl⟩
 ·exact (OT.ao hz).trans (OT.ao (b:=bZ A) hz).symm
def y7:cj:=(gT.aI oC ajd)
theorem XS:ac Tryz.prog 94 y7:=as9
theorem XR:aG y7:=aB
def Dh:Env:=ay 94 y7 rQ
theorem Af:aQ Tryz.prog Dh:=ag XS mV
theorem Dg:ax Dh:=ae XR Dd
theorem abA:aW Tryz.prog te Dh:=aL follows ar Af Dg
def ku:aw:=⟨[.val false .int,.val false .int],[],true,0,false⟩
abbrev Qq:Type:=((Int)×(Int)×Unit)×(Unit)
def Bw:az:=⟨[.val true .elem],[],false⟩
def X9:SV->Option az:=λ_=>some Bw
def adv (a0:Int) (a1:Int):OT ku.Y:=
 let z0:UInt64:=i2u a1
 let z1:aa:= {w0:=z0,w1:=0,w2:=0,w3:=0}
 let z2:Nat:=pS a0
 let z3:aa:= {w0:=0-z0,w1:=0,w2:=0,w3:=0}
 (.br (decide ((0:Int)<=a1))
 (gd [ta ((a0,z1,()),())] (.ok ⟨Bw,((ofP z2 z1,()),())⟩))
 (gd [lW ((a0,z3,()),())] (.ok ⟨Bw,((IR z2 z3,()),())⟩)))
theorem aFQ (x:Qq) (Q:ku.Y->Prop):wpf te Dh av 1000 Tryz.f108 (ku.inp.inj x).tm (ku.inp.inj x).hp (fnK ku X9 Q) (λ_ _=>False)=(adv (x.1.1) (x.1.2.1)).wpR Q:=by kernel_rfl
theorem amC (pre:Qq->Bool) (F:Qq->OT ku.Y) (hF:∀ (x:Qq) oy,pre x=true->(F x).run=some oy->(adv (x.1.1) (x.1.2.1)).run=some oy):ac Tryz.prog 108 (ku.aI pre F):=
 aD ar Af abA (f:=108) (fn:=Tryz.f108) (c:=aj Tryz.f108) (by kernel_rfl) (by kernel_rfl) (by kernel_rfl) (S:=ku) (k:=0) (by kernel_rfl) (λR hR=>af) (n:=1000) (sel:=X9) (λv o h=>by cases h;rfl) (pre:=pre) (F:=F) (T:=λx=>adv (x.1.1) (x.1.2.1)) (λx Q=>aFQ x Q) hF
def aI4 (p:Nat) (n:Int):aa:=cond (decide (0<=n)) (ofP p ⟨i2u n,0,0,0⟩) (IR p ⟨0-i2u n,0,0,0⟩)
def Kk (x:Qq):Bool:=ap x.1.1
def att (x:Qq):OT ku.Y:=.ok ⟨Bw,((aI4 (pS x.1.1) x.1.2.1,()),())⟩
theorem aAf:ac Tryz.prog 108 (ku.aI Kk att):=amC _ _ λx oy hp ho=>by
 rw [<-ho]
 clear ho
 obtain ⟨⟨s,n,⟨⟩⟩,⟨⟩⟩:=x
 have hs:ap s=true:=hp
 show _=some (⟨Bw,((aI4 (pS s) n,()),())⟩:ku.Y)
 unfold aI4
 rcases (Bool.eq_false_or_eq_true (decide ((0:Int)<=n))).symm with h|h
 ·rw [h]
  refine (OT.aq h).trans ((ah ?_).trans rfl)
  simp only [List.all_cons,List.all_nil,Bool.and_true]
  exact hs
 ·rw [h]
  refine (OT.ao h).trans ((ah ?_).trans rfl)
  simp only [List.all_cons,List.all_nil,Bool.and_true]
  exact hs
def EL:cj:=(ku.aI Kk att)
theorem adu:ac Tryz.prog 108 EL:=aAf
theorem adt:aG EL:=aB
def Gu:Env:=ay 108 EL Dh
theorem xJ:aQ Tryz.prog Gu:=ag adu Af
theorem HH:ax Gu:=ae adt Dg
theorem NT:aW Tryz.prog te Gu:=aL follows ar xJ HH
def iA:aw:=⟨[.val false .int,.val false .int],[],true,0,false⟩
abbrev Ey:Type:=((Int)×(Int)×Unit)×(Unit)
def s4:Shape:=⟨38,[(0,.val false .int),(1,.val false .int),(4,.ptr 0 0 0)],[(0,.cells [.val false .u64,.val false .u64,.val false .u64,.val false .u64,.val false .u64,.val false .u64,.val false .u64,.val false .u64,.val false .bool])],0,true⟩
abbrev cv:Type:=((Int)×(Int)×(Unit)×Unit)×(((UInt64)×(UInt64)×(UInt64)×(UInt64)×(UInt64)×(UInt64)×(UInt64)×(UInt64)×(Bool)×Unit)×Unit)
def jF:Shape:=⟨38,[(4,.ptr 0 0 0)],[(0,.cells [.val false .u64,.val false .u64,.val false .u64,.val false .u64,.val false .u64,.val false .u64,.val false .u64,.val false .u64,.val false .bool])],0,true⟩
abbrev j7:Type:=((Unit)×Unit)×(((UInt64)×(UInt64)×(UInt64)×(UInt64)×(UInt64)×(UInt64)×(UInt64)×(UInt64)×(Bool)×Unit)×Unit)
def XE:SE->Option Shape:=fc [] (some jF)
def asZ (a0:Int) (a1:Int) (c0_0:UInt64) (c0_1:UInt64) (c0_2:UInt64) (c0_3:UInt64) (c0_4:UInt64) (c0_5:UInt64) (c0_6:UInt64) (c0_7:UInt64) (c0_8:Bool):OT (Sum cv aE):=
 let z0:Nat:=pS a0
 let z1:aa:=aI4 z0 a1
 let z2:aa:=Cz z0 z1 (bS a0)
 let z3:aa:=ofP z0 z2
 let z4:Bool:=inR (a1+(1:Int))
 let z5:aa:=la z0 (sN a0 z3)
 let z6:=z5.w0
 let z7:=z5.w1
 let z8:=z5.w2
 let z9:=z5.w3
 let z10:=z1.w0
 let z11:=z1.w1
 let z12:=z1.w2
 let z13:=z1.w3
 (gd [Kk ((a0,a1,()),()),oA ((a0,z1,()),()),oC ((a0,z2,()),())] (.br (bZ z3)
 (gd [z4] (.ok (.inl ((a0,(a1+(1:Int),((),()))),((c0_0,(c0_1,(c0_2,(c0_3,(c0_4,(c0_5,(c0_6,(c0_7,(c0_8,()))))))))),())))))
 (.br (eqE (gX z0 z3 (dr (eE (aY (Int.toNat a0)).fst eU).fst)) eU)
  (.br (!(z6==(0:UInt64)&&(z7==(0:UInt64)&&(z8==(0:UInt64)&&(z9==(0:UInt64)&&true)))))
   (.br (!(z10==(0:UInt64)&&(z11==(0:UInt64)&&(z12==(0:UInt64)&&(z13==(0:UInt64)&&true)))))
    (.ok (.inr ⟨(.ret,jF),(((),()),((z10,(z11,(z12,(z13,(z6,(z7,(z8,(z9,(false,()))))))))),()))⟩))
    (gd [z4] (.ok (.inl ((a0,(a1+(1:Int),((),()))),((c0_0,(c0_1,(c0_2,(c0_3,(c0_4,(c0_5,(c0_6,(c0_7,(c0_8,()))))))))),()))))))
   (gd [z4] (.ok (.inl ((a0,(a1+(1:Int),((),()))),((c0_0,(c0_1,(c0_2,(c0_3,(c0_4,(c0_5,(c0_6,(c0_7,(c0_8,()))))))))),()))))))
  (gd [z4] (.ok (.inl ((a0,(a1+(1:Int),((),()))),((c0_0,(c0_1,(c0_2,(c0_3,(c0_4,(c0_5,(c0_6,(c0_7,(c0_8,()))))))))),()))))))))
def ox (s:cv):OT (Sum cv aE):=asZ (s.1.1) (s.1.2.1) (s.2.1.1) (s.2.1.2.1) (s.2.1.2.2.1) (s.2.1.2.2.2.1) (s.2.1.2.2.2.2.1) (s.2.1.2.2.2.2.2.1) (s.2.1.2.2.2.2.2.2.1) (s.2.1.2.2.2.2.2.2.2.1) (s.2.1.2.2.2.2.2.2.2.2.1)
theorem asW (s:cv) (Q:Sum cv aE->Prop):wps te Gu av 1000 (aU (aj Tryz.f65) 0) (s4.inj s) (bU s4 XE (Q:Sum s4.T aE->Prop))=(ox s).wpR Q:=by kernel_rfl
def Bl (g0_r:cv->j7) (s:cv):OT aE:=(.ok ⟨(.ret,jF),g0_r s⟩)
def JY:az:=⟨[.val true (.prod .elem (.prod .elem .bool))],[],false⟩
def P9:SV->Option az:=λ_=>some JY
def Tz (ok0:cv->Bool) (g0_r:cv->j7) (a0:Int) (a1:Int):OT iA.Y:=
 let z0:(Int×Int×PUnit×PUnit)×(UInt64×UInt64×UInt64×UInt64×UInt64×UInt64×UInt64×UInt64×Bool×PUnit)×PUnit:=((a0,a1,(),()),((0:UInt64),(0:UInt64),(0:UInt64),(0:UInt64),(0:UInt64),(0:UInt64),(0:UInt64),(0:UInt64),false,()),())
 let z1:=(g0_r z0).snd.fst
 let z2:=z1.snd
 let z3:=z2.snd
 let z4:=z3.snd
 let z5:=z4.snd
 let z6:=z5.snd
 let z7:=z6.snd
 let z8:=z7.snd
 (gd [ok0 z0] (.ok ⟨JY,((({w0:=z1.fst,w1:=z2.fst,w2:=z3.fst,w3:=z4.fst},{w0:=z5.fst,w1:=z6.fst,w2:=z7.fst,w3:=z8.fst},z8.snd.fst),()),())⟩))
theorem az2 (ok0:cv->Bool) (g0_r:cv->j7) (x:Ey) (Q:iA.Y->Prop):wpf te Gu (aO 0 (cf s4 0 ok0 (Bl g0_r)) av) 1000 Tryz.f65 (iA.inp.inj x).tm (iA.inp.inj x).hp (fnK iA P9 Q) (λ_ _=>False)=(Tz ok0 g0_r (x.1.1) (x.1.2.1)).wpR Q:=by kernel_rfl
theorem acX (ok0:cv->Bool) (g0_r:cv->j7) (h0:∀ s:cv,ok0 s=true->∃ m e,al (ox) m s=some e/\(Bl g0_r s).run=some e) (pre:Ey->Bool) (F:Ey->OT iA.Y) (hF:∀ (x:Ey) oy,pre x=true->(F x).run=some oy->(Tz ok0 g0_r (x.1.1) (x.1.2.1)).run=some oy):ac Tryz.prog 65 (iA.aI pre F):=
 aD ar xJ NT (f:=65) (fn:=Tryz.f65) (c:=aj Tryz.f65) (by kernel_rfl) (by kernel_rfl) (by kernel_rfl) (S:=iA) (k:=0) (by kernel_rfl) (λR hR=>(aA (c:=(aj Tryz.f65)) (by kernel_rfl) (id:=0) (by kernel_rfl) (aP ar xJ NT (sh:=s4) hR (xs:=XE) (aC (by kernel_rfl) (by kernel_rfl) hR) aM af (n:=1000) (T:=ox) (λs Q=>asW s Q) (ok:=ok0) (f:=Bl g0_r) h0) af)) (n:=1000) (sel:=P9) (λv o h=>by cases h;rfl) (pre:=pre) (F:=F) (T:=λx=>Tz ok0 g0_r (x.1.1) (x.1.2.1)) (λx Q=>az2 ok0 g0_r x Q) hF
def al3 (s n:Int):aa:=aI4 (pS s) n
def acv (s n:Int):aa:=ofP (pS s) (Cz (pS s) (al3 s n) (bS s))
def ar4 (s n:Int):aa:=la (pS s) (sN s (acv s n))
def S5 (s n:Int):Option Pt:=cond (bZ (acv s n)) none (cond (eqE (gX (pS s) (acv s n) (dr (eE (aY s.toNat).1 eU).1)) eU)
 (cond (bZ (ar4 s n)) none (cond (bZ (al3 s n)) none (some (al3 s n,ar4 s n,false)))) none)
def qy (s:Int):Nat->Int->Option Pt
 |0,_=>none
 |k+1,n=>match S5 s n with
  |some P=>some P
  |none=>qy s k (n+1)
def acu (s n:Int) (c:C9):cv:=((s,n,(),()),(c,()))
theorem ar3 {s n:Int} (hs:ap s=true) (h0:0<=n) (h1:n<=1000000) (c:C9):
 (ox (acu s n c)).run=match S5 s n with
  |some P=>some (.inr ⟨(.ret,jF),(((),()),(bQ P,()))⟩)
  |none=>some (.inl (acu s (n+1) c)):=by
 have hi:inR (n+1)=true:=aH (by omega)
 have hgd:∀ z:OT (Sum cv aE),(gd [inR (n+1)] z).run=z.run:=λz=>ah (by simp only [hi,List.all_cons,List.all_nil,Bool.and_true])
 refine (ah (by simp only [List.all_cons,List.all_nil,Bool.and_true,Bool.and_eq_true];exact ⟨hs,hs,hs⟩)).trans ?_
 unfold S5
 rcases (Bool.eq_false_or_eq_true (bZ (acv s n))).symm with h1|h1
 ·refine (OT.aq (b:=bZ (acv s n)) h1).trans ?_
  rcases (Bool.eq_false_or_eq_true (eqE (gX (pS s) (acv s n) (dr (eE (aY s.toNat).1 eU).1)) eU)).symm with h2|h2
  ·rw [h1,h2]
   exact (OT.aq h2).trans (hgd _)
  ·refine (OT.ao h2).trans ?_
   rcases (Bool.eq_false_or_eq_true (bZ (ar4 s n))).symm with h3|h3
   ·refine (OT.ao (b:= !bZ (ar4 s n)) (by rw [h3];rfl)).trans ?_
    rcases (Bool.eq_false_or_eq_true (bZ (al3 s n))).symm with h4|h4
    ·rw [h1,h2,h3,h4]
     exact OT.ao (b:= !bZ (al3 s n)) (by rw [h4];rfl)
    ·rw [h1,h2,h3,h4]
     exact (OT.aq (b:= !bZ (al3 s n)) (by rw [h4];rfl)).trans (hgd _)
   ·rw [h1,h2,h3]
    exact (OT.aq (b:= !bZ (ar4 s n)) (by rw [h3];rfl)).trans (hgd _)
 ·rw [h1]
  exact (OT.ao (b:=bZ (acv s n)) h1).trans (hgd _)
theorem W9 {s:Int} (hs:ap s=true) (c:C9) {P:Pt}:∀ (k:Nat) (n:Int),0<=n->n+k<=1000000->qy s k n=some P->
 ∃ m,al ox m (acu s n c)=some ⟨(.ret,jF),(((),()),(bQ P,()))⟩
 |0,_,_,_,h=>by cases h
 |k+1,n,h0,h1,h=>by
  have hst:=ar3 hs h0 (by omega) c
  unfold qy at h
  cases ho:S5 s n with
  |some Q=>
   rw [ho] at h hst
   obtain rfl:=Option.some.inj h
   exact ⟨1,aK hst⟩
  |none=>
   rw [ho] at h hst
   obtain ⟨m,hm⟩:=W9 hs c k (n+1) (by omega) (by omega) h
   exact ⟨m+1,aF hst hm⟩
def AQ:Nat:=2000
def Ex (s:cv):Bool:=ap s.1.1&&decide (0<=s.1.2.1/\s.1.2.1<=2000)&&(qy s.1.1 AQ s.1.2.1).isSome
def aCM (s n:Int):Pt:=(qy s AQ n).getD cO
def XH (s:cv):j7:=(((),()),(bQ (aCM s.1.1 s.1.2.1),()))
theorem asY:∀ s:cv,Ex s=true->∃ m e,al ox m s=some e/\(Bl XH s).run=some e:=by
 rintro ⟨⟨s,n,⟨⟩,⟨⟩⟩,⟨c,⟨⟩⟩⟩ h
 simp only [Ex,Bool.and_eq_true,decide_eq_true_eq] at h
 obtain ⟨⟨hs,h0,h1⟩,h2⟩:=h
 obtain ⟨P,hP⟩:=Option.isSome_iff_exists.1 h2
 obtain ⟨m,hm⟩:=W9 hs c AQ n h0 (by show n+((2000:Nat):Int)<=_;omega) hP
 refine ⟨m,_,hm,?_⟩
 show some (⟨(.ret,jF),(((),()),(bQ ((qy s AQ n).getD cO),()))⟩:aE)=_
 rw [hP]
 rfl
def Qa (x:Ey):Bool:=ap x.1.1&&decide (0<=x.1.2.1/\x.1.2.1<=2000)&&(qy x.1.1 AQ x.1.2.1).isSome
def aja (x:Ey):OT iA.Y:=.ok ⟨JY,((aCM x.1.1 x.1.2.1,()),())⟩
theorem asX:ac Tryz.prog 65 (iA.aI Qa aja):=acX Ex XH asY _ _ λx oy hp ho=>by
 rw [<-ho]
 clear ho
 obtain ⟨⟨s,n,⟨⟩⟩,⟨⟩⟩:=x
 refine (ah ?_).trans rfl
 simp only [List.all_cons,List.all_nil,Bool.and_true]
 exact hp
def y4:cj:=(iA.aI Qa aja)
theorem XG:ac Tryz.prog 65 y4:=asX
theorem XF:aG y4:=aB
def Dc:Env:=ay 65 y4 Gu
theorem Ad:aQ Tryz.prog Dc:=ag XG xJ
theorem Db:ax Dc:=ae XF HH
theorem aby:aW Tryz.prog te Dc:=aL follows ar Ad Db
def lG:aw:=⟨[.val false (.list .u8)],[],true,0,false⟩
abbrev PR:Type:=((List (UInt8))×Unit)×(Unit)
def S2:az:=⟨[.own 0],[(0,.row .u8)],false⟩
def W1:SV->Option az:=λ_=>some S2
def acm (a0:List (UInt8)):OT lG.Y:=
 (gd [decide ((0+List.length a0)*1<=140737488355328)] (.ok ⟨S2,(((),()),([]++a0,()))⟩))
theorem aDL (x:PR) (Q:lG.Y->Prop):wpf te Dc av 1000 Tryz.f32 (lG.inp.inj x).tm (lG.inp.inj x).hp (fnK lG W1 Q) (λ_ _=>False)=(acm (x.1.1)).wpR Q:=by kernel_rfl
theorem al0 (pre:PR->Bool) (F:PR->OT lG.Y) (hF:∀ (x:PR) oy,pre x=true->(F x).run=some oy->(acm (x.1.1)).run=some oy):ac Tryz.prog 32 (lG.aI pre F):=
 aD ar Ad aby (f:=32) (fn:=Tryz.f32) (c:=aj Tryz.f32) (by kernel_rfl) (by kernel_rfl) (by kernel_rfl) (S:=lG) (k:=0) (by kernel_rfl) (λR hR=>af) (n:=1000) (sel:=W1) (λv o h=>by cases h;rfl) (pre:=pre) (F:=F) (T:=λx=>acm (x.1.1)) (λx Q=>aDL x Q) hF
def sD (x:PR):Bool:=decide (x.1.1.length<=140737488355328)
def aqA (x:PR):OT lG.Y:=.ok ⟨S2,(((),()),(x.1.1,()))⟩
theorem axF:ac Tryz.prog 32 (lG.aI sD aqA):=al0 _ _ λx oy hp ho=>by
 rw [<-ho]
 have hp':x.1.1.length<=140737488355328:=of_decide_eq_true hp
 refine (ah ?_).trans rfl
 simp only [List.all_cons,List.all_nil,Bool.and_true]
 exact decide_eq_true (by omega)
def Eh:cj:=(lG.aI sD aqA)
theorem ack:ac Tryz.prog 32 Eh:=axF
theorem acj:aG Eh:=aB
def Gj:Env:=ay 32 Eh Dc
theorem xF:aQ Tryz.prog Gj:=ag ack Ad
theorem Hw:ax Gj:=ae acj Db
theorem NC:aW Tryz.prog te Gj:=aL follows ar xF Hw
def gh:aw:=⟨[.val false (.list .u8)],[],true,0,false⟩
abbrev wU:Type:=((List (UInt8))×Unit)×(Unit)
def pF:Shape:=⟨27,[(2,.ptr 0 0 0),(3,.ptr 1 0 0),(6,.val false (.list .u8)),(7,.val false .int),(8,.val false .int)],[(0,.row .u64),(1,.row .u64)],0,true⟩
abbrev bH:Type:=((Unit)×(Unit)×(List (UInt8))×(Int)×(Int)×Unit)×((List (UInt64))×(List (UInt64))×Unit)
def nI:Shape:=⟨27,[(2,.ptr 0 0 0),(3,.ptr 1 0 0)],[(0,.row .u64),(1,.row .u64)],0,true⟩
abbrev gI:Type:=((Unit)×(Unit)×Unit)×((List (UInt64))×(List (UInt64))×Unit)
def RA:SE->Option Shape:=fc [(0,nI)] none
def aom (a6:List (UInt8)) (a7:Int) (a8:Int) (c0:List (UInt64)) (c1:List (UInt64)):OT (Sum bH aE):=
 let z0:Int:=Int.tdiv a8 (8:Int)
 let z1:Bool:=inB z0 4
 let z2:Bool:=decide (Int.toNat z0+0<List.length c1)
 let z3:Int:=(8:Int)*Int.tmod a8 (8:Int)
 (.br (decide (a8<a7))
 (gd [inB a8 (List.length a6),true&&inR z0,z1,z2,inR z3,decide ((0:Int)<=z3),z1,z2,inR (a8+(1:Int))] (.ok (.inl (((),((),(a6,(a7,(a8+(1:Int),()))))),(c0,(List.set c1 (Int.toNat z0+0) (List.getD c1 (Int.toNat z0+0) (0:UInt64)|||bR (UInt8.toUInt64 (List.getD a6 (Int.toNat a8) (0:UInt8))) z3),()))))))
 (.ok (.inr ⟨(.exit 0,nI),(((),((),())),(c0,(c1,())))⟩)))
def pG (s:bH):OT (Sum bH aE):=aom (s.1.2.2.1) (s.1.2.2.2.1) (s.1.2.2.2.2.1) (s.2.1) (s.2.2.1)
theorem aoj (s:bH) (Q:Sum bH aE->Prop):wps te Gj av 1000 (aU (aj Tryz.f101) 0) (pF.inj s) (bU pF RA (Q:Sum pF.T aE->Prop))=(pG s).wpR Q:=by kernel_rfl
def wT (g0_0:bH->gI) (s:bH):OT aE:=(.ok ⟨(.exit 0,nI),g0_0 s⟩)
def wS:az:=⟨[.val true .elem],[],false⟩
def Mi:SV->Option az:=λ_=>some wS
def ue (ok0:bH->Bool) (g0_0:bH->gI) (a0:List (UInt8)):OT gh.Y:=
 let z0:(PUnit×PUnit×List UInt8×Int×Int×PUnit)×List UInt64×List UInt64×PUnit:=(((),(),a0,(↑(List.length a0):Int),(0:Int),()),[(0:UInt64),(0:UInt64),(0:UInt64),(0:UInt64)],[(0:UInt64),(0:UInt64),(0:UInt64),(0:UInt64)],())
 let z1:=(g0_0 z0).snd
 let z2:=z1.snd.fst
 let z3:=z1.fst
 let z4:List UInt64:=lay z3 z2 4 (0:UInt64)
 (gd [ok0 z0,decide (4<=List.length z2),decide ((4/1:Nat)+0<=List.length z3),decide (4<=List.length z4)] (.ok ⟨wS,(({w0:=List.getD z4 0 0,w1:=List.getD z4 1 0,w2:=List.getD z4 2 0,w3:=List.getD z4 3 0},()),())⟩))
theorem avk (ok0:bH->Bool) (g0_0:bH->gI) (x:wU) (Q:gh.Y->Prop):wpf te Gj (aO 0 (cf pF 0 ok0 (wT g0_0)) av) 1000 Tryz.f101 (gh.inp.inj x).tm (gh.inp.inj x).hp (fnK gh Mi Q) (λ_ _=>False)=(ue ok0 g0_0 (x.1.1)).wpR Q:=by kernel_rfl
theorem ZX (ok0:bH->Bool) (g0_0:bH->gI) (h0:∀ s:bH,ok0 s=true->∃ m e,al (pG) m s=some e/\(wT g0_0 s).run=some e) (pre:wU->Bool) (F:wU->OT gh.Y) (hF:∀ (x:wU) oy,pre x=true->(F x).run=some oy->(ue ok0 g0_0 (x.1.1)).run=some oy):ac Tryz.prog 101 (gh.aI pre F):=
 aD ar xF NC (f:=101) (fn:=Tryz.f101) (c:=aj Tryz.f101) (by kernel_rfl) (by kernel_rfl) (by kernel_rfl) (S:=gh) (k:=0) (by kernel_rfl) (λR hR=>(aA (c:=(aj Tryz.f101)) (by kernel_rfl) (id:=0) (by kernel_rfl) (aP ar xF NC (sh:=pF) hR (xs:=RA) (aC (by kernel_rfl) (by kernel_rfl) hR) aM af (n:=1000) (T:=pG) (λs Q=>aoj s Q) (ok:=ok0) (f:=wT g0_0) h0) af)) (n:=1000) (sel:=Mi) (λv o h=>by cases h;rfl) (pre:=pre) (F:=F) (T:=λx=>ue ok0 g0_0 (x.1.1)) (λx Q=>avk ok0 g0_0 x Q) hF
def Uz (b:List UInt8) (k:Nat) (l:List UInt64):List UInt64:=l.set (k/8) (l.getD (k/8) 0|||bR (UInt8.toUInt64 (b.getD k 0)) (8*((k%8:Nat):Int)))
def aHS (b:List UInt8) (n:Nat):List UInt64:=upto (Uz b) [0,0,0,0] n
def Im (b:List UInt8):aa:=elemOf (aHS b 32)
theorem zr (b:List UInt8):∀ n,(aHS b n).length=4
 |0=>rfl
 |n+1=>(List.length_set ..).trans (zr b n)
def Mj (s:bH):Bool:=decide (s.1.2.2.1.length=32/\s.1.2.2.2.1=32/\s.1.2.2.2.2.1=0/\s.2.2.1= [0,0,0,0])
def RB (s:bH):gI:=(((),(),()),(s.2.1,aHS s.1.2.2.1 32,()))
theorem aF8 (i:Nat):Int.tdiv (i:Int) 8=((i/8:Nat):Int):=by rw [Int.tdiv_eq_ediv_of_nonneg (by omega)];omega
theorem aF9 (i:Nat):Int.tmod (i:Int) 8=((i%8:Nat):Int):=by rw [Int.tmod_eq_emod_of_nonneg (by omega)];omega
theorem aol:∀ s:bH,Mj s=true->∃ m e,al pG m s=some e/\(wT RB s).run=some e:=by
 rintro ⟨⟨⟨⟩,⟨⟩,b,n,i,⟨⟩⟩,⟨c0,c1,⟨⟩⟩⟩ h
 have h':=of_decide_eq_true h
 dsimp only at h'
 obtain ⟨hb,rfl,rfl,rfl⟩:=h'
 have:=(aR (T:=pG) (λi o=>((((),(),b,(32:Int),(i:Int),()),(c0,o,())):bH)) (Uz b)
  (λo=>(⟨(.exit 0,nI),(((),(),()),(c0,o,()))⟩:aE)) 32 [0,0,0,0] (λ_ o=>o.length=4) rfl (λi o hi ho=>⟨?_,(List.length_set ..).trans ho⟩) (λo ho=> ?_)).1
 ·obtain ⟨m,hm⟩:=this
  exact ⟨m,_,hm,rfl⟩
 ·have t1:=aF8 i
  have t2:=aF9 i
  refine (OT.ao (decide_eq_true (by dsimp only;omega))).trans ((ah ?_).trans ?_)
  ·simp only [t1,t2,ho,hb,Int.toNat_natCast,List.all_cons,List.all_nil,Bool.and_true,Bool.true_and,Bool.and_eq_true]
   exact ⟨aN (by omega),aH (by omega),aN (by omega),decide_eq_true (by omega),aH (by omega),decide_eq_true (by omega),aN (by omega),decide_eq_true (by omega),aH (by omega)⟩
  ·simp only [OT.cT,t1,t2,Int.toNat_natCast,Nat.add_zero]
   rfl
 ·exact OT.aq (decide_eq_false (by dsimp only;omega))
def jR (x:wU):Bool:=decide (x.1.1.length=32)
def ZZ (x:wU):OT gh.Y:=.ok ⟨wS,((Im x.1.1,()),())⟩
abbrev ZW (b:List UInt8):bH:=(((),(),b,(b.length:Int),0,()),([0,0,0,0],[0,0,0,0],()))
theorem ZY {ok0:bH->Bool} {g0:bH->gI} {b:List UInt8} {L:List UInt64} (hok:ok0 (ZW b)=true)
 (hg:g0 (ZW b)=(((),(),()),([0,0,0,0],L,()))) (hL:L.length=4):(ue ok0 g0 b).run=some ⟨wS,((elemOf L,()),())⟩:=by
 have e:lay [0,0,0,0] L 4 0=L:=yj rfl hL
 unfold ue
 simp only [hg]
 refine (ah ?_).trans ?_
 ·simp only [e,hL,List.all_cons,List.all_nil,Bool.and_true,Bool.and_eq_true]
  exact ⟨hok,rfl,rfl,rfl⟩
 ·rw [e]
  rfl
theorem aok:ac Tryz.prog 101 (gh.aI jR ZZ):=ZX Mj RB aol _ _ λx oy hp ho=>by
 rw [<-ho]
 clear ho
 obtain ⟨⟨b,⟨⟩⟩,⟨⟩⟩:=x
 have hb:b.length=32:=of_decide_eq_true hp
 exact ZY (b:=b) (L:=aHS b 32) (decide_eq_true ⟨hb,by show ((b.length:Nat):Int)=32;omega,rfl,rfl⟩) rfl (zr b 32)
def ud:cj:=(gh.aI jR ZZ)
theorem Vk:ac Tryz.prog 101 ud:=aok
theorem Vj:aG ud:=aB
def vn:Env:=ay 101 ud Gj
theorem vm:aQ Tryz.prog vn:=ag Vk xF
theorem yI:ax vn:=ae Vj Hw
theorem WB:aW Tryz.prog te vn:=aL follows ar vm yI
def kA:aw:=⟨[.val false .int,.val false (.list .u8)],[],true,0,false⟩
abbrev Ru:Type:=((Int)×(List (UInt8))×Unit)×(Unit)
def jf:az:=⟨[.val true .elem,.val false .int],[],false⟩
def ZG:SV->Option az:=λ_=>some jf
def L5 (a0:Int) (a1:List (UInt8)):OT kA.Y:=
 let z0:Nat:=List.length a1
 let z1:Int:=(↑z0:Int)
 let z2:aa:= {w0:=0,w1:=0,w2:=0,w3:=0}
 let z3:List UInt8:=List.drop 0 (List.take 32 a1)
 let z4:List UInt8:=List.drop 32 a1
 let z5:aa:=(aY (Int.toNat a0)).fst
 (.br (ap a0)
 (.br (!z1==(64:Int))
  (.ok ⟨jf,((z2,((21:Int),())),())⟩)
  (gd [dH (0:Int) (32:Int) z0,jR ((z3,()),()),dH (32:Int) z1 z0,jR ((z4,()),())] (.br (nB z5)
   (.ok ⟨jf,((z2,((10:Int),())),())⟩)
   (.ok ⟨jf,((azX (Im z3) (Im z4) z5,((0:Int),())),())⟩))))
 (.ok ⟨jf,((z2,((20:Int),())),())⟩))
theorem aGy (x:Ru) (Q:kA.Y->Prop):wpf te vn av 1000 Tryz.f69 (kA.inp.inj x).tm (kA.inp.inj x).hp (fnK kA ZG Q) (λ_ _=>False)=(L5 (x.1.1) (x.1.2.1)).wpR Q:=by kernel_rfl
theorem an5 (pre:Ru->Bool) (F:Ru->OT kA.Y) (hF:∀ (x:Ru) oy,pre x=true->(F x).run=some oy->(L5 (x.1.1) (x.1.2.1)).run=some oy):ac Tryz.prog 69 (kA.aI pre F):=
 aD ar vm WB (f:=69) (fn:=Tryz.f69) (c:=aj Tryz.f69) (by kernel_rfl) (by kernel_rfl) (by kernel_rfl) (S:=kA) (k:=0) (by kernel_rfl) (λR hR=>af) (n:=1000) (sel:=ZG) (λv o h=>by cases h;rfl) (pre:=pre) (F:=F) (T:=λx=>L5 (x.1.1) (x.1.2.1)) (λx Q=>aGy x Q) hF
def Ip (b:List UInt8):Bool:=(b.length:Int)==64
def aqr (s:Int) (b:List UInt8):aa:=azX (Im (b.take 32)) (Im (b.drop 32)) (aY s.toNat).1
def ZH (_:Ru):Bool:=true
def au6 (x:Ru):OT kA.Y:=.br (ap x.1.1) (.br (Ip x.1.2.1) (.ok ⟨jf,((aqr x.1.1 x.1.2.1,((0:Int),())),())⟩) (.ok ⟨jf,((⟨0,0,0,0⟩,((21:Int),())),())⟩)) (.ok ⟨jf,((⟨0,0,0,0⟩,((20:Int),())),())⟩)
theorem LQ {b:List UInt8}:Ip b=true ↔ b.length=64:=by
 unfold Ip
 rw [beq_iff_eq]
 omega
theorem ajL {s:Int} (h:ap s=true):nB (aY s.toNat).1=false:=by
 rcases cy h with rfl|rfl|rfl|rfl<;>rfl
theorem an6 {s:Int} {b:List UInt8} {W:aa} (hW:azX (Im (List.drop 0 (b.take 32))) (Im (b.drop 32)) (aY s.toNat).1=W):(L5 s b).run=(OT.br (ap s) (.br (Ip b) (.ok ⟨jf,((W,((0:Int),())),())⟩) (.ok ⟨jf,((⟨0,0,0,0⟩,((21:Int),())),())⟩)) (.ok ⟨jf,((⟨0,0,0,0⟩,((20:Int),())),())⟩):OT kA.Y).run:=by
 unfold L5
 simp only [hW]
 rcases (Bool.eq_false_or_eq_true (ap s)).symm with hs|hs
 ·exact (OT.aq hs).trans (OT.aq (b:=ap s) hs).symm
 ·refine (OT.ao hs).trans (Eq.trans ?_ (OT.ao (b:=ap s) hs).symm)
  rcases (Bool.eq_false_or_eq_true (Ip b)).symm with hl|hl
  ·exact (OT.ao (b:= !Ip b) (by rw [hl];rfl)).trans (OT.aq (b:=Ip b) hl).symm
  ·have hb:b.length=64:=LQ.1 hl
   refine (OT.aq (b:= !Ip b) (by rw [hl];rfl)).trans (Eq.trans ?_ (OT.ao (b:=Ip b) hl).symm)
   refine (ah ?_).trans (OT.aq (ajL hs))
   simp only [List.all_cons,List.all_nil,Bool.and_true,Bool.and_eq_true]
   exact ⟨fH (by omega),decide_eq_true (by show (List.drop 0 (b.take 32)).length=32;rw [List.drop_zero,List.length_take];omega),fH (by omega),decide_eq_true (by show (List.drop 32 b).length=32;rw [List.length_drop];omega)⟩
theorem aBf:ac Tryz.prog 69 (kA.aI ZH au6):=an5 _ _ λx oy hp ho=>by
 rw [<-ho]
 clear ho
 obtain ⟨⟨s,b,⟨⟩⟩,⟨⟩⟩:=x
 exact an6 rfl
def FD:cj:=(kA.aI ZH au6)
theorem aeN:ac Tryz.prog 69 FD:=aBf
theorem aeM:aG FD:=aB
def Ob:Env:=ay 69 FD vn
theorem GD:aQ Tryz.prog Ob:=ag aeN vm
theorem HX:ax Ob:=ae aeM yI
theorem agq:aW Tryz.prog te Ob:=aL follows ar GD HX
def fu:aw:=⟨[.val false .int,.val false (.list .u8)],[],true,0,false⟩
abbrev xb:Type:=((Int)×(List (UInt8))×Unit)×(Unit)
def dF:az:=⟨[.val true .elem,.val false .int],[],false⟩
def MD:SV->Option az:=λ_=>some dF
def ur (a0:Int) (a1:List (UInt8)):OT fu.Y:=
 let z0:aa:= {w0:=0,w1:=0,w2:=0,w3:=0}
 let z1:Bool:=jR ((a1,()),())
 let z2:aa:=Im a1
 (.br (ap a0)
 (.br (!(↑(List.length a1):Int)==(32:Int))
  (.ok ⟨dF,((z0,((21:Int),())),())⟩)
  (gd [z1] (.br (!Nat.blt (aa.nat z2) (aa.nat (aY (Int.toNat a0)).fst))
   (.ok ⟨dF,((z0,((21:Int),())),())⟩)
   (gd [z1] (.ok ⟨dF,((z2,((0:Int),())),())⟩)))))
 (.ok ⟨dF,((z0,((20:Int),())),())⟩))
theorem avG (x:xb) (Q:fu.Y->Prop):wpf te Ob av 1000 Tryz.f61 (fu.inp.inj x).tm (fu.inp.inj x).hp (fnK fu MD Q) (λ_ _=>False)=(ur (x.1.1) (x.1.2.1)).wpR Q:=by kernel_rfl
theorem aag (pre:xb->Bool) (F:xb->OT fu.Y) (hF:∀ (x:xb) oy,pre x=true->(F x).run=some oy->(ur (x.1.1) (x.1.2.1)).run=some oy):ac Tryz.prog 61 (fu.aI pre F):=
 aD ar GD agq (f:=61) (fn:=Tryz.f61) (c:=aj Tryz.f61) (by kernel_rfl) (by kernel_rfl) (by kernel_rfl) (S:=fu) (k:=0) (by kernel_rfl) (λR hR=>af) (n:=1000) (sel:=MD) (λv o h=>by cases h;rfl) (pre:=pre) (F:=F) (T:=λx=>ur (x.1.1) (x.1.2.1)) (λx Q=>avG x Q) hF
def gL (b:List UInt8):Bool:=(b.length:Int)==32
theorem po {b:List UInt8}:gL b=true ↔ b.length=32:=by
 unfold gL
 rw [beq_iff_eq]
 omega
def ME (_:xb):Bool:=true
def aai (x:xb):OT fu.Y:=.br (ap x.1.1) (.br (gL x.1.2.1) (.br (Nat.blt (Im x.1.2.1).nat (pS x.1.1)) (.ok ⟨dF,((Im x.1.2.1,((0:Int),())),())⟩) (.ok ⟨dF,((⟨0,0,0,0⟩,((21:Int),())),())⟩))
 (.ok ⟨dF,((⟨0,0,0,0⟩,((21:Int),())),())⟩)) (.ok ⟨dF,((⟨0,0,0,0⟩,((20:Int),())),())⟩)
theorem aah {s:Int} {b:List UInt8} {N:aa} (hN:Im b=N):(ur s b).run=(OT.br (ap s) (.br (gL b) (.br (Nat.blt N.nat (pS s)) (.ok ⟨dF,((N,((0:Int),())),())⟩) (.ok ⟨dF,((⟨0,0,0,0⟩,((21:Int),())),())⟩))
 (.ok ⟨dF,((⟨0,0,0,0⟩,((21:Int),())),())⟩)) (.ok ⟨dF,((⟨0,0,0,0⟩,((20:Int),())),())⟩):OT fu.Y).run:=by
 unfold ur
 simp only [hN]
 rcases (Bool.eq_false_or_eq_true (ap s)).symm with hs|hs
 ·exact (OT.aq hs).trans (OT.aq (b:=ap s) hs).symm
 ·refine (OT.ao hs).trans (Eq.trans ?_ (OT.ao (b:=ap s) hs).symm)
  rcases (Bool.eq_false_or_eq_true (gL b)).symm with hl|hl
  ·exact (OT.ao (b:= !gL b) (by rw [hl];rfl)).trans (OT.aq (b:=gL b) hl).symm
  ·have hp:jR ((b,()),())=true:=decide_eq_true (po.1 hl)
   refine (OT.aq (b:= !gL b) (by rw [hl];rfl)).trans (Eq.trans ?_ (OT.ao (b:=gL b) hl).symm)
   rw [hp]
   refine (ah rfl).trans ?_
   rcases (Bool.eq_false_or_eq_true (Nat.blt N.nat (pS s))).symm with h|h
   ·exact (OT.ao (b:= !Nat.blt N.nat (pS s)) (by rw [h];rfl)).trans (OT.aq (b:=Nat.blt N.nat (pS s)) h).symm
   ·exact (OT.aq (b:= !Nat.blt N.nat (pS s)) (by rw [h];rfl)).trans ((ah rfl).trans (OT.ao (b:=Nat.blt N.nat (pS s)) h).symm)
theorem aoM:ac Tryz.prog 61 (fu.aI ME aai):=aag _ _ λx oy hp ho=>by
 rw [<-ho]
 clear ho
 obtain ⟨⟨s,b,⟨⟩⟩,⟨⟩⟩:=x
 exact aah rfl
def uq:cj:=(fu.aI ME aai)
theorem Vv:ac Tryz.prog 61 uq:=aoM
theorem Vu:aG uq:=aB
def Ox:Env:=ay 61 uq Ob
theorem abN:aQ Tryz.prog Ox:=ag Vv GD
theorem PH:ax Ox:=ae Vu HX
abbrev avv:aw:=nK
def um (x:aad):Bool:=ap x.1.1
def avw (x:aad):OT nK.Y:=.ok ⟨FM,((gX (pS x.1.1) x.1.2.1 x.1.2.2.1,()),())⟩
theorem aBz:ac Tryz.prog 137 (avv.aI um avw):=jB (S:=nK) avy λx oy hp ho=>⟨rfl,(OT.ao (b:=ap x.1.1) hp).trans ho⟩
def FL:cj:=(avv.aI um avw)
theorem ae7:ac Tryz.prog 137 FL:=aBz
theorem ae6:aG FL:=aB
def vp:Env:=ay 137 FL Ox
theorem lx:aQ Tryz.prog vp:=ag ae7 abN
theorem H5:ax vp:=ae ae6 PH
theorem r6:aW Tryz.prog te vp:=aL follows ar lx H5
end Go.Proofs.YtohjofabochgfaaGreat
