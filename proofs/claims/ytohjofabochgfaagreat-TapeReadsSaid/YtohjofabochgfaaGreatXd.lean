/- A symbolic machine for Go code over plain data, and functions of the program as it shows them. No statement is proved in this file. -/
import Derived.KernelRfl
import Derived.Test.YtohjofabochgfaaGreatXc
set_option linter.unusedSimpArgs false
set_option linter.unusedVariables false
set_option linter.unusedSectionVars false

namespace Go.Proofs.YtohjofabochgfaaGreat
open Sx Go
set_option maxRecDepth 100000
def jW:ap:=⟨[.val true (.prod .elem (.prod .int (.prod .u64 (.prod .u64 .elem)))),.val true .elem,.val true .elem],[],true,0,false⟩
abbrev PS:Type:=(((ag×(Int×(UInt64×(UInt64×ag)))))×(ag)×(ag)×Unit)×(Unit)
def zz:Shape:=⟨61,[(3,.ptr 0 0 0),(4,.ptr 1 0 0),(6,.ptr 2 0 0),(7,.ptr 3 0 0),(13,.val true .elem),(14,.val false .int)],[(0,.cells [.val false .u64,.val false .u64,.val false .u64,.val false .u64,.val false .int,.val false .u64,.val false .u64,.val false .u64,.val false .u64,.val false .u64,.val false .u64]),(1,.row .u64),(2,.row .u64),(3,.row .u64)],0,true⟩
abbrev cv:Type:=((Unit)×(Unit)×(Unit)×(Unit)×(ag)×(Int)×Unit)×(((UInt64)×(UInt64)×(UInt64)×(UInt64)×(Int)×(UInt64)×(UInt64)×(UInt64)×(UInt64)×(UInt64)×(UInt64)×Unit)×(List (UInt64))×(List (UInt64))×(List (UInt64))×Unit)
def uh:Shape:=⟨61,[(3,.ptr 0 0 0),(6,.ptr 1 0 0),(7,.ptr 2 0 0)],[(0,.cells [.val false .u64,.val false .u64,.val false .u64,.val false .u64,.val false .int,.val false .u64,.val false .u64,.val false .u64,.val false .u64,.val false .u64,.val false .u64]),(1,.row .u64),(2,.row .u64)],0,true⟩
abbrev lA:Type:=((Unit)×(Unit)×(Unit)×Unit)×(((UInt64)×(UInt64)×(UInt64)×(UInt64)×(Int)×(UInt64)×(UInt64)×(UInt64)×(UInt64)×(UInt64)×(UInt64)×Unit)×(List (UInt64))×(List (UInt64))×Unit)
def ai9:SE->Option Shape:=gI [(0,uh)] none
def S7 (a13:ag) (a14:Int) (c0_0:UInt64) (c0_1:UInt64) (c0_2:UInt64) (c0_3:UInt64) (c0_4:Int) (c0_5:UInt64) (c0_6:UInt64) (c0_7:UInt64) (c0_8:UInt64) (c0_9:UInt64) (c0_10:UInt64) (c1:List (UInt64)) (c2:List (UInt64)) (c3:List (UInt64)):OT (Sum cv aI):=
 let z0:Nat:=List.length c3
 let z1:List UInt64:=lay c3 (l6 (v6 (tab c3 6 (0:UInt64))+ag.nat {w0:=List.getD c1 0 0,w1:=List.getD c1 1 0,w2:=List.getD c1 2 0,w3:=List.getD c1 3 0}*UInt64.toNat (List.getD [a13.w0,a13.w1,a13.w2,a13.w3] (Int.toNat a14) (0:UInt64)))) 6 (0:UInt64)
 let z2:Nat:=List.length z1
 let z3:List UInt64:=lay z1 (l6 (v6 (tab z1 6 (0:UInt64))+ag.nat {w0:=c0_0,w1:=c0_1,w2:=c0_2,w3:=c0_3}*UInt64.toNat (List.getD z1 0 0*c0_6))) 6 (0:UInt64)
 let z4:Nat:=List.length z3
 (.br (decide (a14<(4:Int)))
 (gd [inB a14 4,decide (6<=z0),decide (4<=List.length c1),decide ((6/1:Nat)+0<=z0),decide (6<=z2),decide (0<z2),decide ((6/1:Nat)+0<=z2),decide (1<z4),decide (2<z4),decide (3<z4),decide (4<z4),decide (5<z4),decide ((6/1:Nat)+0<=z4),inR (a14+(1:Int))] (.ok (.inl (((),((),((),((),(a13,(a14+(1:Int),())))))),((c0_0,(c0_1,(c0_2,(c0_3,(c0_4,(c0_5,(c0_6,(c0_7,(c0_8,(c0_9,(c0_10,()))))))))))),(c1,(c2,(List.set (List.set (List.set (List.set (List.set (List.set z3 0 (List.getD z3 1 0)) 1 (List.getD z3 2 0)) 2 (List.getD z3 3 0)) 3 (List.getD z3 4 0)) 4 (List.getD z3 5 0)) 5 (0:UInt64),()))))))))
 (.ok (.inr ⟨(.exit 0,uh),(((),((),((),()))),((c0_0,(c0_1,(c0_2,(c0_3,(c0_4,(c0_5,(c0_6,(c0_7,(c0_8,(c0_9,(c0_10,()))))))))))),(c2,(c3,()))))⟩)))
def zA (s:cv):OT (Sum cv aI):=S7 (s.1.2.2.2.2.1) (s.1.2.2.2.2.2.1) (s.2.1.1) (s.2.1.2.1) (s.2.1.2.2.1) (s.2.1.2.2.2.1) (s.2.1.2.2.2.2.1) (s.2.1.2.2.2.2.2.1) (s.2.1.2.2.2.2.2.2.1) (s.2.1.2.2.2.2.2.2.2.1) (s.2.1.2.2.2.2.2.2.2.2.1) (s.2.1.2.2.2.2.2.2.2.2.2.1) (s.2.1.2.2.2.2.2.2.2.2.2.2.1) (s.2.2.1) (s.2.2.2.1) (s.2.2.2.2.1)
theorem azz (s:cv) (Q:Sum cv aI->Prop):wps te QM ax 1000 (bg (ak Tryz.f118) 0) (zz.inj s) (cz zz ai9 (Q:Sum zz.T aI->Prop))=(zA s).wpR Q:=by kernel_rfl
def GQ (g0_0:cv->lA) (s:cv):OT aI:=(.ok ⟨(.exit 0,uh),g0_0 s⟩)
def ug:av:=⟨[.val true .elem],[],false⟩
def X0:SV->Option av:=λ_=>some ug
def adx (ok0:cv->Bool) (g0_0:cv->lA) (a0:(ag×(Int×(UInt64×(UInt64×ag))))) (a1:ag) (a2:ag):OT jW.Y:=
 let z0:(PUnit×PUnit×PUnit×PUnit×ag×Int×PUnit)×(UInt64×UInt64×UInt64×UInt64×Int×UInt64×UInt64×UInt64×UInt64×UInt64×UInt64×PUnit)×List UInt64×List UInt64×List UInt64×PUnit:=(((),(),(),(),a2,(0:Int),()),(a0.fst.w0,a0.fst.w1,a0.fst.w2,a0.fst.w3,a0.snd.fst,a0.snd.snd.fst,a0.snd.snd.snd.fst,a0.snd.snd.snd.snd.w0,a0.snd.snd.snd.snd.w1,a0.snd.snd.snd.snd.w2,a0.snd.snd.snd.snd.w3,()),[a1.w0,a1.w1,a1.w2,a1.w3],[(0:UInt64),(0:UInt64),(0:UInt64),(0:UInt64)],[(0:UInt64),(0:UInt64),(0:UInt64),(0:UInt64),(0:UInt64),(0:UInt64)],())
 let z1:=(g0_0 z0).snd
 let z2:=z1.snd
 let z3:=z2.snd.fst
 let z4:Nat:=List.length z3
 let z5:=z2.fst
 let z6:Nat:=List.length z5
 let z7:Bool:=decide ((4/1:Nat)+0<=z6)
 let z8:=z1.fst
 let z9:=z8.snd
 let z10:=z9.snd
 let z11:ag×Bool:=ef {w0:=List.getD z3 0 0,w1:=List.getD z3 1 0,w2:=List.getD z3 2 0,w3:=List.getD z3 3 0} {w0:=z8.fst,w1:=z9.fst,w2:=z10.fst,w3:=z10.snd.fst}
 let z12:=z11.fst
 let z13:List UInt64:=List.set (List.set (List.set (List.set z5 0 z12.w0) 1 z12.w1) 2 z12.w2) 3 z12.w3
 let z14:Bool:=decide (4<=List.length z13)
 let z15:ag:= {w0:=List.getD z13 0 0,w1:=List.getD z13 1 0,w2:=List.getD z13 2 0,w3:=List.getD z13 3 0}
 let z16:List UInt64:=lay z5 z3 4 (0:UInt64)
 (gd [ok0 z0,decide (6<=z4)&&true,decide (4<=z4),decide (4<z4)] (.br (!List.getD z3 4 0==(0:UInt64))
 (gd [z7,z14] (.ok ⟨ug,((z15,()),())⟩))
 (.br (!z11.snd)
  (gd [z7,z14] (.ok ⟨ug,((z15,()),())⟩))
  (gd [decide ((4/1:Nat)+0<=z6),decide (4<=List.length z16)] (.ok ⟨ug,(({w0:=List.getD z16 0 0,w1:=List.getD z16 1 0,w2:=List.getD z16 2 0,w3:=List.getD z16 3 0},()),())⟩)))))
theorem aEK (ok0:cv->Bool) (g0_0:cv->lA) (x:PS) (Q:jW.Y->Prop):wpf te QM (be 0 (cE zz 0 ok0 (GQ g0_0)) ax) 1000 Tryz.f118 (jW.inp.inj x).tm (jW.inp.inj x).hp (fnK jW X0 Q) (λ_ _=>False)=(adx ok0 g0_0 (x.1.1) (x.1.2.1) (x.1.2.2.1)).wpR Q:=by kernel_rfl
theorem amz (ok0:cv->Bool) (g0_0:cv->lA) (h0:∀ s:cv,ok0 s=true->∃ m e,aA (zA) m s=some e/\(GQ g0_0 s).run=some e) (pre:PS->Bool) (F:PS->OT jW.Y) (hF:∀ (x:PS) oy,pre x=true->(F x).run=some oy->(adx ok0 g0_0 (x.1.1) (x.1.2.1) (x.1.2.2.1)).run=some oy):aa Tryz.prog 118 (jW.aD pre F):=
 aB al A2 QL (f:=118) (fn:=Tryz.f118) (c:=ak Tryz.f118) (by kernel_rfl) (by kernel_rfl) (by kernel_rfl) (S:=jW) (k:=0) (by kernel_rfl) (λR hR=>(aG (c:=(ak Tryz.f118)) (by kernel_rfl) (id:=0) (by kernel_rfl) (ba al A2 QL (sh:=zz) hR (xs:=ai9) (aF (by kernel_rfl) (by kernel_rfl) hR) aN ae (n:=1000) (T:=zA) (λs Q=>azz s Q) (ok:=ok0) (f:=GQ g0_0) h0) ae)) (n:=1000) (sel:=X0) (λv o h=>by cases h;rfl) (pre:=pre) (F:=F) (T:=λx=>adx ok0 g0_0 (x.1.1) (x.1.2.1) (x.1.2.2.1)) (λx Q=>aEK ok0 g0_0 x Q) hF
def jT (n:Nx):Bool:=decide (n=aS 2)||decide (n=aS 3)
theorem iy {n:Nx} (h:jT n=true):n=aS 2\/n=aS 3:=by
 simpa [jT] using h
def aym (n:Nx):Nat:=if n.2.2.2.1==11037532056220336127 then 15353493766103302224812374511606760489073247795810767472367693728416386214313 else 14238205147845459960272226733876560297615832660064601289232577236146637664127
theorem atd {n:Nx} (h:jT n=true):(n.1.nat*n.2.2.2.1.toNat+1)%18446744073709551616=0:=by
 rcases iy h with rfl|rfl<;>decide+kernel
theorem ate {n:Nx} (h:jT n=true):115792089237316195423570985008687907853269984665640564039457584007913129639936*aym n%n.1.nat=1%n.1.nat:=by
 rcases iy h with rfl|rfl<;>decide+kernel
theorem atb {n:Nx} (h:jT n=true):2*n.1.nat<=115792089237316195423570985008687907853269984665640564039457584007913129639936:=by
 rcases iy h with rfl|rfl<;>decide+kernel
theorem aIj (n:Nat):tab (l6 n) 6 0=l6 n:=rfl
theorem azc {n:Nat} (h:n/18446744073709551616/18446744073709551616/18446744073709551616/18446744073709551616/18446744073709551616/18446744073709551616=0):
 [UInt64.ofNat (n/18446744073709551616),UInt64.ofNat (n/18446744073709551616/18446744073709551616),UInt64.ofNat (n/18446744073709551616/18446744073709551616/18446744073709551616),
  UInt64.ofNat (n/18446744073709551616/18446744073709551616/18446744073709551616/18446744073709551616),UInt64.ofNat (n/18446744073709551616/18446744073709551616/18446744073709551616/18446744073709551616/18446744073709551616),0]=l6 (n/18446744073709551616):=by
 unfold l6
 rw [h]
 rfl
theorem aIm (a b:Nat):lay (l6 a) (l6 b) 6 0=l6 b:=vo rfl rfl
theorem avA (U:Nat) (neg:UInt64):(List.getD (l6 U) 0 0*neg).toNat=U*neg.toNat%18446744073709551616:=by
 show (UInt64.ofNat U*neg).toNat=_
 rw [UInt64.toNat_mul,UInt64.toNat_ofNat',Nat.mul_mod,Nat.mod_mod,<-Nat.mul_mod]
theorem amy (b:ag) (k:Nat) (hk:k<4) (x0 x1 x2 x3 x5 x6 x7 x8 x9 x10:UInt64) (x4:Int) (c1 c2:List UInt64) (T:Nat) (h1:c1.length=4) (hT:T<2*(ag.mk x0 x1 x2 x3).nat)
 (hn:((ag.mk x0 x1 x2 x3).nat*x6.toNat+1)%18446744073709551616=0) (hp:2*(ag.mk x0 x1 x2 x3).nat<=115792089237316195423570985008687907853269984665640564039457584007913129639936) (ha:(elemOf c1).nat<(ag.mk x0 x1 x2 x3).nat):
 (S7 b (k:Int) x0 x1 x2 x3 x4 x5 x6 x7 x8 x9 x10 c1 c2 (l6 T)).run=some (.inl (((),(),(),(),b,((k+1:Nat):Int),()),((x0,x1,x2,x3,x4,x5,x6,x7,x8,x9,x10,()),c1,c2,l6 (H4 (ag.mk x0 x1 x2 x3).nat x6.toNat (elemOf c1).nat ((lst b).getD k 0).toNat T),()))):=by
 have hlt:=tt (b:=((lst b).getD k 0).toNat) hn hT ha (UInt64.toNat_lt _)
 have heq:=tu (a:=(elemOf c1).nat) (b:=((lst b).getD k 0).toNat) (t:=T) hn
 have hrd:H4 (ag.mk x0 x1 x2 x3).nat x6.toNat (elemOf c1).nat ((lst b).getD k 0).toNat T=(T+(elemOf c1).nat*((lst b).getD k 0).toNat+(ag.mk x0 x1 x2 x3).nat*((T+(elemOf c1).nat*((lst b).getD k 0).toNat)*x6.toNat%18446744073709551616))/18446744073709551616:=rfl
 generalize hU:T+(elemOf c1).nat*((lst b).getD k 0).toNat=U at heq hrd
 generalize hV:U+(ag.mk x0 x1 x2 x3).nat*(U*x6.toNat%18446744073709551616)=V at heq hrd
 generalize H4 (ag.mk x0 x1 x2 x3).nat x6.toNat (elemOf c1).nat ((lst b).getD k 0).toNat T=S at*
 have hVU:U<=V:=by rw [<-hV];exact Nat.le_add_right _ _
 have hz1:lay (l6 T) (l6 (v6 (tab (l6 T) 6 0)+ag.nat {w0:=List.getD c1 0 0,w1:=List.getD c1 1 0,w2:=List.getD c1 2 0,w3:=List.getD c1 3 0}*UInt64.toNat (List.getD [b.w0,b.w1,b.w2,b.w3] (Int.toNat (k:Int)) 0))) 6 0=l6 U:=by
  rw [aIj,aF3 (by omega),aIm,Int.toNat_natCast]
  exact congrArg l6 hU
 have hz3:lay (l6 U) (l6 (v6 (tab (l6 U) 6 0)+ag.nat {w0:=x0,w1:=x1,w2:=x2,w3:=x3}*UInt64.toNat (List.getD (l6 U) 0 0*x6))) 6 0=l6 V:=by
  rw [aIj,aF3 (by omega),aIm,avA,hV]
 have hsh:_=l6 (V/18446744073709551616):=azc (n:=V) (by omega)
 unfold S7
 simp only [hz1,hz3]
 refine (OT.az (decide_eq_true (by omega))).trans ((aj ?_).trans ?_)
 ·simp only [asR,h1,List.all_cons,List.all_nil,Bool.and_true,Bool.and_eq_true]
  exact ⟨aM (by omega),rfl,rfl,rfl,rfl,rfl,rfl,rfl,rfl,rfl,rfl,rfl,rfl,aL (by omega)⟩
 ·rw [hrd]
  exact congrArg (λl=>some (Sum.inl (((),(),(),(),b,((k+1:Nat):Int),()),((x0,x1,x2,x3,x4,x5,x6,x7,x8,x9,x10,()),c1,c2,l,())))) hsh
def auw (s:cv):ag:=⟨s.2.1.1,s.2.1.2.1,s.2.1.2.2.1,s.2.1.2.2.2.1⟩
def aFp (s:cv):UInt64:=s.2.1.2.2.2.2.2.2.1
def X1 (s:cv):Bool:=decide (s.1.2.2.2.2.2.1=0/\s.2.2.1.length=4/\s.2.2.2.2.1=l6 0/\((auw s).nat*(aFp s).toNat+1)%18446744073709551616=0/\2*(auw s).nat<=115792089237316195423570985008687907853269984665640564039457584007913129639936/\(elemOf s.2.2.1).nat<(auw s).nat)
def S6 (s:cv):lA:=(((),(),(),()),(s.2.1,s.2.2.2.1,l6 (aGV (auw s).nat (aFp s).toNat (elemOf s.2.2.1).nat s.1.2.2.2.2.1),()))
theorem azB:∀ s:cv,X1 s=true->∃ m e,aA zA m s=some e/\(GQ S6 s).run=some e:=by
 rintro ⟨⟨⟨⟩,⟨⟩,⟨⟩,⟨⟩,b,i,⟨⟩⟩,⟨⟨x0,x1,x2,x3,x4,x5,x6,x7,x8,x9,x10,⟨⟩⟩,c1,c2,c3,⟨⟩⟩⟩ h
 have h':=of_decide_eq_true h
 dsimp only [auw,aFp] at h'
 obtain ⟨rfl,h1,rfl,hn,hp,ha⟩:=h'
 have:=(aR (T:=zA) (λk T=>((((),(),(),(),b,(k:Int),()),((x0,x1,x2,x3,x4,x5,x6,x7,x8,x9,x10,()),c1,c2,l6 T,())):cv)) (λk T=>H4 (ag.mk x0 x1 x2 x3).nat x6.toNat (elemOf c1).nat ((lst b).getD k 0).toNat T)
  (λT=>(⟨(.exit 0,uh),(((),(),(),()),((x0,x1,x2,x3,x4,x5,x6,x7,x8,x9,x10,()),c2,l6 T,()))⟩:aI)) 4 0 (λ_ T=>T<2*(ag.mk x0 x1 x2 x3).nat) (by omega) (λk T hk hT=>⟨?_,?_⟩) (λT hT=> ?_)).1
 ·obtain ⟨m,hm⟩:=this
  exact ⟨m,_,hm,rfl⟩
 ·exact amy b k hk x0 x1 x2 x3 x5 x6 x7 x8 x9 x10 x4 c1 c2 T h1 hT hn hp ha
 ·exact tt hn hT ha (UInt64.toNat_lt _)
 ·exact OT.aq (decide_eq_false (by dsimp only;omega))
def rM (x:PS):Bool:=jT x.1.1&&Nat.blt x.1.2.1.nat x.1.1.1.nat
def atm (x:PS):OT jW.Y:=.ok ⟨ug,((ofN (x.1.2.1.nat*x.1.2.2.1.nat*aym x.1.1%x.1.1.1.nat),()),())⟩
theorem azA:aa Tryz.prog 118 (jW.aD rM atm):=amz X1 S6 azB _ _ λx oy hp ho=>by
 rw [<-ho]
 clear ho
 obtain ⟨⟨⟨⟨m0,m1,m2,m3⟩,ad,sm,neg,sq⟩,a,b,⟨⟩⟩,⟨⟩⟩:=x
 have hp':(jT (⟨m0,m1,m2,m3⟩,ad,sm,neg,sq)&&Nat.blt a.nat (ag.mk m0 m1 m2 m3).nat)=true:=hp
 rw [Bool.and_eq_true] at hp'
 obtain ⟨hg,ha⟩:=hp'
 have ha:=dW ha
 have hn:((ag.mk m0 m1 m2 m3).nat*neg.toNat+1)%18446744073709551616=0:=atd hg
 have h2:2*(ag.mk m0 m1 m2 m3).nat<=115792089237316195423570985008687907853269984665640564039457584007913129639936:=atb hg
 have hr:115792089237316195423570985008687907853269984665640564039457584007913129639936*aym (⟨m0,m1,m2,m3⟩,ad,sm,neg,sq)%(ag.mk m0 m1 m2 m3).nat=1%(ag.mk m0 m1 m2 m3).nat:=ate hg
 have hM:=ay6 (a:=a.nat) (b:=b) hn hr
 have hL:=aEv (b:=b) hn ha
 refine (aj ?_).trans ?_
 ·simp only [List.all_cons,List.all_nil,Bool.and_true,Bool.and_eq_true]
  exact ⟨decide_eq_true ⟨rfl,rfl,rfl,hn,h2,ha⟩,rfl,rfl,rfl⟩
 ·show _=(OT.ok ⟨ug,((ofN (a.nat*b.nat*aym (⟨m0,m1,m2,m3⟩,ad,sm,neg,sq)%(ag.mk m0 m1 m2 m3).nat),()),())⟩:OT jW.Y).run
  rw [<-hM,aEw hL]
  have e0:S6 (((),(),(),(),b,0,()),((m0,m1,m2,m3,ad,sm,neg,sq.w0,sq.w1,sq.w2,sq.w3,()),[a.w0,a.w1,a.w2,a.w3],[0,0,0,0],[0,0,0,0,0,0],()))=(((),(),(),()),((m0,m1,m2,m3,ad,sm,neg,sq.w0,sq.w1,sq.w2,sq.w3,()),[0,0,0,0],l6 (aGV (ag.mk m0 m1 m2 m3).nat neg.toNat a.nat b),())):=rfl
  dsimp only
  rw [e0]
  clear e0 hM
  generalize aGV (ag.mk m0 m1 m2 m3).nat neg.toNat a.nat b=M at*
  have e4:List.getD (l6 M) 4 0=0:=by
   show UInt64.ofNat (M/18446744073709551616/18446744073709551616/18446744073709551616/18446744073709551616)=0
   rw [show M/18446744073709551616/18446744073709551616/18446744073709551616/18446744073709551616=0 by omega]
   rfl
  refine (OT.aq (by rw [e4];rfl)).trans ?_
  have eN:(ofN M).nat=M:=jR (by omega)
  by_cases hlt:M<(ag.mk m0 m1 m2 m3).nat
  ·rw [if_pos hlt]
   refine (OT.aq ?_).trans ((aj rfl).trans rfl)
   show (!Nat.blt (ofN M).nat (ag.mk m0 m1 m2 m3).nat)=false
   rw [eN,show Nat.blt M (ag.mk m0 m1 m2 m3).nat=true from Nat.ble_eq_true_of_le hlt]
   rfl
  ·rw [if_neg hlt]
   refine (OT.az ?_).trans ((aj rfl).trans ?_)
   ·show (!Nat.blt (ofN M).nat (ag.mk m0 m1 m2 m3).nat)=true
    rw [eN]
    cases hb:Nat.blt M (ag.mk m0 m1 m2 m3).nat
    ·rfl
    ·exact absurd (dW hb) hlt
   ·have ew:(ef (ofN M) (ag.mk m0 m1 m2 m3)).1=ofN (M-(ag.mk m0 m1 m2 m3).nat):=by
     apply ph
     rw [l9 (by omega),eN,jR (by omega)]
    rw [<-ew]
    rfl
def C8:bw:=(jW.aD rM atm)
theorem adw:aa Tryz.prog 118 C8:=azA
theorem adv:aC C8:=ay
def Mk:Env:=aw 118 C8 QM
theorem Ei:aK Tryz.prog Mk:=af adw A2
theorem FX:ar Mk:=ab adv ME
theorem ae9:aO Tryz.prog te Mk:=aE follows al Ei FX
def jX:ap:=⟨[.val true (.prod .elem (.prod .int (.prod .u64 (.prod .u64 .elem)))),.val true .elem,.val true .elem],[],true,0,false⟩
abbrev PX:Type:=(((ag×(Int×(UInt64×(UInt64×ag)))))×(ag)×(ag)×Unit)×(Unit)
def pv:av:=⟨[.val true .elem],[],false⟩
def Yf:SV->Option av:=λ_=>some pv
def wJ (a0:(ag×(Int×(UInt64×(UInt64×ag))))) (a1:ag) (a2:ag):OT jX.Y:=
 let z0:Bool:= !a0.snd.snd.fst==(0:UInt64)
 let z1:Nat:=ag.nat a0.fst
 let z2:ag:=ofN (ag.nat a1%z1)
 let z3:ag:=ofN (ag.nat a2%z1)
 let z4:Nat:=aym a0
 let z5:ag:=ofN (ag.nat z2*ag.nat z3*z4%z1)
 (gd [fU ((a0,a1,()),()),fU ((a0,a2,()),())] (.br (z0)
 (gd [z0] (.ok ⟨pv,(({w0:=z2.w0*z3.w0%a0.snd.snd.fst,w1:=0,w2:=0,w3:=0},()),())⟩))
 (gd [rM ((a0,z2,z3,()),()),rM ((a0,z5,a0.snd.snd.snd.snd,()),())] (.ok ⟨pv,((ofN (ag.nat z5*ag.nat a0.snd.snd.snd.snd*z4%z1),()),())⟩))))
theorem aEX (x:PX) (Q:jX.Y->Prop):wpf te Mk ax 1000 Tryz.f77 (jX.inp.inj x).tm (jX.inp.inj x).hp (fnK jX Yf Q) (λ_ _=>False)=(wJ (x.1.1) (x.1.2.1) (x.1.2.2.1)).wpR Q:=by kernel_rfl
theorem amP (pre:PX->Bool) (F:PX->OT jX.Y) (hF:∀ (x:PX) oy,pre x=true->(F x).run=some oy->(wJ (x.1.1) (x.1.2.1) (x.1.2.2.1)).run=some oy):aa Tryz.prog 77 (jX.aD pre F):=
 aB al Ei ae9 (f:=77) (fn:=Tryz.f77) (c:=ak Tryz.f77) (by kernel_rfl) (by kernel_rfl) (by kernel_rfl) (S:=jX) (k:=0) (by kernel_rfl) (λR hR=>ae) (n:=1000) (sel:=Yf) (λv o h=>by cases h;rfl) (pre:=pre) (F:=F) (T:=λx=>wJ (x.1.1) (x.1.2.1) (x.1.2.2.1)) (λx Q=>aEX x Q) hF
theorem asE {p A B r s:Nat} (h:r*s*r%p=1%p):A*B*r%p*s*r%p=A*B%p:=by
 have e:A*B*r*(s*r)=A*B*(r*s*r):=by
  rw [Nat.mul_assoc (A*B) r (s*r),Nat.mul_assoc r s r]
 rw [Nat.mul_assoc,Nat.mul_mod,Nat.mod_mod,<-Nat.mul_mod,e,Nat.mul_mod,h,<-Nat.mul_mod,Nat.mul_one]
theorem azm {n:Nx} (h:jT n=true):aym n*n.2.2.2.2.nat*aym n%n.1.nat=1%n.1.nat:=by
 rcases iy h with rfl|rfl<;>decide+kernel
theorem aG6:jT (aS 2)=true:=by decide+kernel
theorem aG5:jT (aS 3)=true:=by decide+kernel
theorem atc {n:Nx} (h:jT n=true):jQ n=true:=by
 rcases iy h with rfl|rfl<;>decide+kernel
theorem E5 {n:Nx} {a b:ag} {m:UInt64} (hn0:jQ n=true) (h1:n.1=⟨m,0,0,0⟩) (h2:n.2.2.1=m) (hs:fA m=true):(wJ n a b).run=some ⟨pv,((dI n.1.nat a b,()),())⟩:=by
 have hm:=kR hs
 have hb':m.toNat<=16521217:=by rcases dO hs with rfl|rfl<;>decide
 have hn:n.1.nat=m.toNat:=by rw [h1];show m.toNat+_*(0+_*(0+_*0))=_;omega
 have hz:(!(n.2.2.1==0))=true:=by
  rw [h2]
  rcases dO hs with rfl|rfl<;>rfl
 have ha:=Nat.mod_lt a.nat hm
 have hb:=Nat.mod_lt b.nat hm
 have hab:a.nat%m.toNat*(b.nat%m.toNat)<18446744073709551616:=by
  have:a.nat%m.toNat*(b.nat%m.toNat)<=16521217*16521217:=Nat.mul_le_mul (by omega) (by omega)
  omega
 have e:UInt64.ofNat (a.nat%m.toNat)*UInt64.ofNat (b.nat%m.toNat)%m=UInt64.ofNat (a.nat*b.nat%m.toNat):=by
  have hlt:=Nat.mod_lt (a.nat*b.nat) hm
  rw [<-UInt64.toNat_inj,UInt64.toNat_mod,UInt64.toNat_mul,UInt64.toNat_ofNat',UInt64.toNat_ofNat',UInt64.toNat_ofNat',Nat.mod_eq_of_lt (a:=a.nat%m.toNat) (by omega),Nat.mod_eq_of_lt (a:=b.nat%m.toNat) (by omega),
   Nat.mod_eq_of_lt (a:=a.nat%m.toNat*(b.nat%m.toNat)) (by omega),Nat.mod_eq_of_lt (a:=a.nat*b.nat%m.toNat) (by omega),<-Nat.mul_mod]
 have hlt:=Nat.mod_lt (a.nat*b.nat) hm
 unfold wJ
 refine (aj ?_).trans ((OT.az hz).trans ((aj ?_).trans ?_))
 ·simp only [List.all_cons,List.all_nil,Bool.and_true,Bool.and_eq_true]
  exact ⟨hn0,hn0⟩
 ·simp only [hz,List.all_cons,List.all_nil,Bool.and_true]
 ·unfold dI
  rw [hn,rr (n:=a.nat*b.nat%m.toNat) (by omega),<-e]
  show some (⟨pv,((⟨UInt64.ofNat (a.nat%m.toNat)*UInt64.ofNat (b.nat%m.toNat)%n.2.2.1,0,0,0⟩,()),())⟩:jX.Y)=_
  rw [h2]
theorem Ka {n:Nx} {a b:ag} (h:jT n=true) (h2:n.2.2.1=0):(wJ n a b).run=some ⟨pv,((dI n.1.nat a b,()),())⟩:=by
 have hn0:=atc h
 have hp:=zb hn0
 have hz:(!(n.2.2.1==0))=false:=by rw [h2];rfl
 have e1:(ofN (a.nat%n.1.nat)).nat=a.nat%n.1.nat:=df hp
 have e2:(ofN (b.nat%n.1.nat)).nat=b.nat%n.1.nat:=df hp
 have e3:(ofN (a.nat%n.1.nat*(b.nat%n.1.nat)*aym n%n.1.nat)).nat=a.nat%n.1.nat*(b.nat%n.1.nat)*aym n%n.1.nat:=df hp
 unfold wJ
 refine (aj ?_).trans ((OT.aq hz).trans ((aj ?_).trans ?_))
 ·simp only [List.all_cons,List.all_nil,Bool.and_true,Bool.and_eq_true]
  exact ⟨hn0,hn0⟩
 ·simp only [List.all_cons,List.all_nil,Bool.and_true,Bool.and_eq_true,rM,h,true_and,e1,e2,e3]
  exact ⟨Nat.ble_eq_true_of_le (Nat.mod_lt _ hp.1),Nat.ble_eq_true_of_le (Nat.mod_lt _ hp.1)⟩
 ·simp only [e1,e2,e3,asE (azm h),dI,<-Nat.mul_mod]
  rfl
def fE (x:PX):Bool:=jQ x.1.1
def atA (x:PX):OT jX.Y:=.ok ⟨pv,((dI x.1.1.1.nat x.1.2.1 x.1.2.2.1,()),())⟩
theorem azH:aa Tryz.prog 77 (jX.aD fE atA):=amP _ _ λx oy hp ho=>by
 rw [<-ho]
 clear ho
 obtain ⟨⟨n,a,b,⟨⟩⟩,⟨⟩⟩:=x
 have hp':jQ n=true:=hp
 rcases wB hp' with rfl|rfl|rfl|rfl
 ·exact E5 hp' (m:=16513537) rfl rfl rfl
 ·exact E5 hp' (m:=16521217) rfl rfl rfl
 ·exact Ka aG6 rfl
 ·exact Ka aG5 rfl
def Da:bw:=(jX.aD fE atA)
theorem adD:aa Tryz.prog 77 Da:=azH
theorem adC:aC Da:=ay
def Mr:Env:=aw 77 Da Mk
theorem Ek:aK Tryz.prog Mr:=af adD Ei
theorem FZ:ar Mr:=ab adC FX
theorem afb:aO Tryz.prog te Mr:=aE follows al Ek FZ
def rT:ap:=⟨[.val false .int,.val true .elem,.val true .elem],[],true,0,false⟩
abbrev amO:Type:=((Int)×(ag)×(ag)×Unit)×(Unit)
def J9:av:=⟨[.val true .elem],[],false⟩
def ajf:SV->Option av:=λ_=>some J9
def atz (a0:Int) (a1:ag) (a2:ag):OT rT.Y:=
 let z0:ag×Int×UInt64×UInt64×ag:=aS (Int.toNat a0)
 (.br (au a0)
 (gd [fE ((z0,a1,a2,()),())] (.ok ⟨J9,((dI (ag.nat z0.fst) a1 a2,()),())⟩))
 (.ok ⟨J9,(({w0:=0,w1:=0,w2:=0,w3:=0},()),())⟩))
theorem aHd (x:amO) (Q:rT.Y->Prop):wpf te Mr ax 1000 Tryz.f42 (rT.inp.inj x).tm (rT.inp.inj x).hp (fnK rT ajf Q) (λ_ _=>False)=(atz (x.1.1) (x.1.2.1) (x.1.2.2.1)).wpR Q:=by kernel_rfl
theorem aty (pre:amO->Bool) (F:amO->OT rT.Y) (hF:∀ (x:amO) oy,pre x=true->(F x).run=some oy->(atz (x.1.1) (x.1.2.1) (x.1.2.2.1)).run=some oy):aa Tryz.prog 42 (rT.aD pre F):=
 aB al Ek afb (f:=42) (fn:=Tryz.f42) (c:=ak Tryz.f42) (by kernel_rfl) (by kernel_rfl) (by kernel_rfl) (S:=rT) (k:=0) (by kernel_rfl) (λR hR=>ae) (n:=1000) (sel:=ajf) (λv o h=>by cases h;rfl) (pre:=pre) (F:=F) (T:=λx=>atz (x.1.1) (x.1.2.1) (x.1.2.2.1)) (λx Q=>aHd x Q) hF
def ajg (_:amO):Bool:=true
def aBh (x:amO):OT rT.Y:=.br (au x.1.1) (.ok ⟨J9,((dI (pS x.1.1) x.1.2.1 x.1.2.2.1,()),())⟩) (.ok ⟨J9,((⟨0,0,0,0⟩,()),())⟩)
theorem aEW:aa Tryz.prog 42 (rT.aD ajg aBh):=aty _ _ λx oy hp ho=>by
 rw [<-ho]
 clear ho
 obtain ⟨⟨s,a,b,⟨⟩⟩,⟨⟩⟩:=x
 cases hs:au s
 ·exact (OT.aq hs).trans (OT.aq (b:=au s) hs).symm
 ·refine (OT.az hs).trans ((aj ?_).trans (OT.az (b:=au s) hs).symm)
  simp only [List.all_cons,List.all_nil,Bool.and_true]
  exact iu hs
def J8:bw:=(rT.aD ajg aBh)
theorem amN:aa Tryz.prog 42 J8:=aEW
theorem amM:aC J8:=ay
def Z2:Env:=aw 42 J8 Mr
theorem Mp:aK Tryz.prog Z2:=af amN Ek
theorem Mq:ar Z2:=ab amM FZ
theorem an9:aO Tryz.prog te Z2:=aE follows al Mp Mq
def lD:ap:=⟨[.val true .elem],[],true,0,false⟩
abbrev P1:Type:=((ag)×Unit)×(Unit)
def Tj:av:=⟨[.val true .elem],[],false⟩
def Yk:SV->Option av:=λ_=>some Tj
def adH (a0:ag):OT lD.Y:=
 (.ok ⟨Tj,(({w0:=aZ a0.w0 (1:Int)|||bH a0.w1 (63:Int),w1:=aZ a0.w1 (1:Int)|||bH a0.w2 (63:Int),w2:=aZ a0.w2 (1:Int)|||bH a0.w3 (63:Int),w3:=aZ a0.w3 (1:Int)},()),())⟩)
theorem aE0 (x:P1) (Q:lD.Y->Prop):wpf te Z2 ax 1000 Tryz.f138 (lD.inp.inj x).tm (lD.inp.inj x).hp (fnK lD Yk Q) (λ_ _=>False)=(adH (x.1.1)).wpR Q:=by kernel_rfl
theorem am0 (pre:P1->Bool) (F:P1->OT lD.Y) (hF:∀ (x:P1) oy,pre x=true->(F x).run=some oy->(adH (x.1.1)).run=some oy):aa Tryz.prog 138 (lD.aD pre F):=
 aB al Mp an9 (f:=138) (fn:=Tryz.f138) (c:=ak Tryz.f138) (by kernel_rfl) (by kernel_rfl) (by kernel_rfl) (S:=lD) (k:=0) (by kernel_rfl) (λR hR=>ae) (n:=1000) (sel:=Yk) (λv o h=>by cases h;rfl) (pre:=pre) (F:=F) (T:=λx=>adH (x.1.1)) (λx Q=>aE0 x Q) hF
theorem JO (x y:UInt64):(aZ x 1|||bH y 63).toNat=x.toNat/2+9223372036854775808*(y.toNat%2):=by
 have hx:=x.toNat_lt
 have e1:(aZ x 1).toNat=x.toNat/2:=fm x 1 (by omega)
 have e2:(bH y 63).toNat=9223372036854775808*(y.toNat%2):=by
  have:=kS y 63 (by omega)
  have e:(bH y 63).toNat=y.toNat*2^63%2^64:=this
  rw [e]
  omega
 rw [UInt64.toNat_or,e1,e2,Nat.or_comm]
 have:=Nat.two_pow_add_eq_or_of_lt (i:=63) (b:=x.toNat/2) (by omega) (y.toNat%2)
 rw [Nat.add_comm]
 exact this.symm
theorem JP (x N:Nat):(x+18446744073709551616*N)/2=(x/2+9223372036854775808*(N%2))+18446744073709551616*(N/2):=by
 omega
theorem ac0 (y N:Nat):(y+18446744073709551616*N)%2=y%2:=by
 omega
def dj (a:ag):ag:=ofN (a.nat/2)
theorem ai1 (a:ag):dj a=⟨aZ a.w0 1|||bH a.w1 63,aZ a.w1 1|||bH a.w2 63,aZ a.w2 1|||bH a.w3 63,aZ a.w3 1⟩:=by
 refine asx (k:=0) ?_
 rw [JO,JO,JO,Nat.mul_zero,Nat.add_zero]
 unfold Sx.ag.nat
 have e3:(aZ a.w3 1).toNat=a.w3.toNat/2:=fm a.w3 1 (by omega)
 rw [JP,ac0,JP,ac0,JP,e3]
def Yl (_:P1):Bool:=true
def adI (x:P1):OT lD.Y:=.ok ⟨Tj,((dj x.1.1,()),())⟩
theorem azI:aa Tryz.prog 138 (lD.aD Yl adI):=am0 _ _ λx oy hp ho=>by
 rw [<-ho]
 clear ho
 obtain ⟨⟨a,⟨⟩⟩,⟨⟩⟩:=x
 simp only [adI,ai1]
 rfl
def Db:bw:=(lD.aD Yl adI)
theorem adG:aa Tryz.prog 138 Db:=azI
theorem adF:aC Db:=ay
def Em:Env:=aw 138 Db Z2
theorem u7:aK Tryz.prog Em:=af adG Mp
theorem F0:ar Em:=ab adF Mq
theorem Mw:aO Tryz.prog te Em:=aE follows al u7 F0
def eT:ap:=⟨[.val true .elem,.val false .int],[],true,0,false⟩
abbrev uq:Type:=((ag)×(Int)×Unit)×(Unit)
def n0:Shape:=⟨12,[(2,.ptr 0 0 0),(4,.ptr 1 0 0),(5,.val false .int),(6,.val false .int)],[(0,.row .u64),(1,.row .u64)],0,true⟩
abbrev bT:Type:=((Unit)×(Unit)×(Int)×(Int)×Unit)×((List (UInt64))×(List (UInt64))×Unit)
def mA:Shape:=⟨12,[(2,.ptr 0 0 0),(4,.ptr 1 0 0)],[(0,.row .u64),(1,.row .u64)],0,true⟩
abbrev iA:Type:=((Unit)×(Unit)×Unit)×((List (UInt64))×(List (UInt64))×Unit)
def PZ:SE->Option Shape:=gI [(0,mA)] none
def amZ (a5:Int) (a6:Int) (c0:List (UInt64)) (c1:List (UInt64)):OT (Sum bT aI):=
 let z0:Nat:=List.length c0
 let z1:ag:=dj {w0:=List.getD c0 0 0,w1:=List.getD c0 1 0,w2:=List.getD c0 2 0,w3:=List.getD c0 3 0}
 (.br (decide (a6<a5))
 (gd [decide (4<=z0),decide ((4/1:Nat)+0<=z0),inR (a6+(1:Int))] (.ok (.inl (((),((),(a5,(a6+(1:Int),())))),(List.set (List.set (List.set (List.set c0 0 z1.w0) 1 z1.w1) 2 z1.w2) 3 z1.w3,(c1,()))))))
 (.ok (.inr ⟨(.exit 0,mA),(((),((),())),(c0,(c1,())))⟩)))
def n4 (s:bT):OT (Sum bT aI):=amZ (s.1.2.2.1) (s.1.2.2.2.1) (s.2.1) (s.2.2.1)
theorem amW (s:bT) (Q:Sum bT aI->Prop):wps te Em ax 1000 (bg (ak Tryz.f136) 0) (n0.inj s) (cz n0 PZ (Q:Sum n0.T aI->Prop))=(n4 s).wpR Q:=by kernel_rfl
def uo (g0_0:bT->iA) (s:bT):OT aI:=(.ok ⟨(.exit 0,mA),g0_0 s⟩)
def n3:av:=⟨[.val true .elem],[],false⟩
def Kg:SV->Option av:=λ_=>some n3
def Ki (ok0:bT->Bool) (g0_0:bT->iA) (a0:ag) (a1:Int):OT eT.Y:=
 let z0:(PUnit×PUnit×Int×Int×PUnit)×List UInt64×List UInt64×PUnit:=(((),(),a1,(0:Int),()),[a0.w0,a0.w1,a0.w2,a0.w3],[(0:UInt64),(0:UInt64),(0:UInt64),(0:UInt64)],())
 let z1:=(g0_0 z0).snd
 let z2:=z1.fst
 let z3:=z1.snd.fst
 let z4:List UInt64:=lay z3 z2 4 (0:UInt64)
 (gd [ok0 z0,decide (4<=List.length z2),decide ((4/1:Nat)+0<=List.length z3),decide (4<=List.length z4)] (.ok ⟨n3,(({w0:=List.getD z4 0 0,w1:=List.getD z4 1 0,w2:=List.getD z4 2 0,w3:=List.getD z4 3 0},()),())⟩))
theorem atG (ok0:bT->Bool) (g0_0:bT->iA) (x:uq) (Q:eT.Y->Prop):wpf te Em (be 0 (cE n0 0 ok0 (uo g0_0)) ax) 1000 Tryz.f136 (eT.inp.inj x).tm (eT.inp.inj x).hp (fnK eT Kg Q) (λ_ _=>False)=(Ki ok0 g0_0 (x.1.1) (x.1.2.1)).wpR Q:=by kernel_rfl
theorem Yi (ok0:bT->Bool) (g0_0:bT->iA) (h0:∀ s:bT,ok0 s=true->∃ m e,aA (n4) m s=some e/\(uo g0_0 s).run=some e) (pre:uq->Bool) (F:uq->OT eT.Y) (hF:∀ (x:uq) oy,pre x=true->(F x).run=some oy->(Ki ok0 g0_0 (x.1.1) (x.1.2.1)).run=some oy):aa Tryz.prog 136 (eT.aD pre F):=
 aB al u7 Mw (f:=136) (fn:=Tryz.f136) (c:=ak Tryz.f136) (by kernel_rfl) (by kernel_rfl) (by kernel_rfl) (S:=eT) (k:=0) (by kernel_rfl) (λR hR=>(aG (c:=(ak Tryz.f136)) (by kernel_rfl) (id:=0) (by kernel_rfl) (ba al u7 Mw (sh:=n0) hR (xs:=PZ) (aF (by kernel_rfl) (by kernel_rfl) hR) aN ae (n:=1000) (T:=n4) (λs Q=>amW s Q) (ok:=ok0) (f:=uo g0_0) h0) ae)) (n:=1000) (sel:=Kg) (λv o h=>by cases h;rfl) (pre:=pre) (F:=F) (T:=λx=>Ki ok0 g0_0 (x.1.1) (x.1.2.1)) (λx Q=>atG ok0 g0_0 x Q) hF
def dK (a:ag) (n:Nat):ag:=ofN (a.nat/2^n)
theorem wH (a:ag):∀ n,upto (λ_ e=>dj e) a n=dK a n
 |0=>by
  show a=ofN (a.nat/2^0)
  rw [Nat.pow_zero,Nat.div_one,tX]
 |n+1=>by
  show dj (upto (λ_ e=>dj e) a n)=_
  rw [wH a n]
  unfold dj dK
  have:=iQ a
  have h2:a.nat/2^n<=a.nat:=Nat.div_le_self _ _
  rw [jR (by omega),Nat.div_div_eq_div_mul,<-Nat.pow_succ]
def Kh (s:bT):Bool:=decide (s.1.2.2.2.1=0/\0<=s.1.2.2.1/\s.1.2.2.1<=1000000/\s.2.1.length=4)
def P0 (s:bT):iA:=(((),(),()),(lst (dK (elemOf s.2.1) s.1.2.2.1.toNat),s.2.2.1,()))
theorem amY:∀ s:bT,Kh s=true->∃ m e,aA n4 m s=some e/\(uo P0 s).run=some e:=by
 rintro ⟨⟨⟨⟩,⟨⟩,k,i,⟨⟩⟩,⟨l,o,⟨⟩⟩⟩ h
 have h':=of_decide_eq_true h
 dsimp only at h'
 obtain ⟨rfl,h0,h1,hl⟩:=h'
 obtain ⟨a,rfl⟩:∃ a,l=lst a:=⟨elemOf l,(aP hl).symm⟩
 have:=(aR (T:=n4) (λi a=>((((),(),k,(i:Int),()),(lst a,o,())):bT)) (λ_ e=>dj e)
  (λa=>(⟨(.exit 0,mA),(((),(),()),(lst a,o,()))⟩:aI)) k.toNat a (λ_ _=>True) trivial (λi a hi _=>⟨?_,trivial⟩) (λa _=> ?_)).1
 ·rw [wH] at this
  obtain ⟨m,hm⟩:=this
  exact ⟨m,_,hm,rfl⟩
 ·refine (OT.az (decide_eq_true (by dsimp only;omega))).trans ((aj ?_).trans rfl)
  simp only [List.all_cons,List.all_nil,Bool.and_true,Bool.and_eq_true]
  exact ⟨rfl,rfl,aL (by omega)⟩
 ·exact OT.aq (decide_eq_false (by dsimp only;omega))
def px (x:uq):Bool:=decide (0<=x.1.2.1/\x.1.2.1<=1000000)
def Yj (x:uq):OT eT.Y:=.ok ⟨n3,((dK x.1.1 x.1.2.1.toNat,()),())⟩
theorem amX:aa Tryz.prog 136 (eT.aD px Yj):=Yi Kh P0 amY _ _ λx oy hp ho=>by
 rw [<-ho]
 clear ho
 obtain ⟨⟨a,k,⟨⟩⟩,⟨⟩⟩:=x
 have hp':0<=k/\k<=1000000:=of_decide_eq_true hp
 refine (aj ?_).trans ?_
 ·simp only [List.all_cons,List.all_nil,Bool.and_true,Bool.and_eq_true]
  exact ⟨decide_eq_true ⟨rfl,hp'.1,hp'.2,rfl⟩,rfl,rfl,rfl⟩
 ·show some (⟨n3,((elemOf (lay [0,0,0,0] (lst (dK a k.toNat)) 4 0),()),())⟩:eT.Y)=some ⟨n3,((dK a k.toNat,()),())⟩
  rw [aFL _ _ rfl rfl]
  rfl
def rX:bw:=(eT.aD px Yj)
theorem Ti:aa Tryz.prog 136 rX:=amX
theorem Th:aC rX:=ay
def ox:Env:=aw 136 rX Em
theorem mL:aK Tryz.prog ox:=af Ti u7
theorem vH:ar ox:=ab Th F0
theorem A1:aO Tryz.prog te ox:=aE follows al mL vH
end Go.Proofs.YtohjofabochgfaaGreat

namespace Go.Proofs.YtohjofabochgfaaGreat
open Sx Go
def dl (k:ag):Bool:=(k.w0==0&&(k.w1==0&&(k.w2==0&&(k.w3==0&&true))))
def aHM (k:ag):Bool:=(k.w0&&&1==1)
theorem mW (k:ag):dl k=Nat.beq k.nat 0:=by
 unfold dl Sx.ag.nat
 have e:∀ x:UInt64,(x==0)=decide (x.toNat=0):=λx=>by
  by_cases h:x=0
  ·subst h;rfl
  ·have h':¬x.toNat=0:=λh'=>h (UInt64.toNat_inj.1 h')
   rw [decide_eq_false h']
   simpa using h
 rw [e,e,e,e]
 generalize k.w0.toNat=a
 generalize k.w1.toNat=b
 generalize k.w2.toNat=c
 generalize k.w3.toNat=d
 by_cases h:a=0/\b=0/\c=0/\d=0
 ·obtain ⟨rfl,rfl,rfl,rfl⟩:=h
  rfl
 ·have h1:¬(a+18446744073709551616*(b+18446744073709551616*(c+18446744073709551616*d))=0):=λh1=>h (by omega)
  have h2:Nat.beq (a+18446744073709551616*(b+18446744073709551616*(c+18446744073709551616*d))) 0=false:=by
   cases hb:Nat.beq (a+18446744073709551616*(b+18446744073709551616*(c+18446744073709551616*d))) 0
   ·rfl
   ·exact absurd (Nat.eq_of_beq_eq_true hb) h1
  rw [h2]
  by_cases ha:a=0
  ·by_cases hb:b=0
   ·by_cases hc:c=0
    ·have hd:¬d=0:=λhd=>h ⟨ha,hb,hc,hd⟩
     simp [hd]
    ·simp [hc]
   ·simp [hb]
  ·simp [ha]
theorem ay0 (k:ag):aHM k=Nat.beq (k.nat%2) 1:=by
 have e:(k.w0&&&1).toNat=k.w0.toNat%2:=by
  rw [UInt64.toNat_and]
  exact Nat.and_two_pow_sub_one_eq_mod k.w0.toNat 1
 have e2:k.nat%2=k.w0.toNat%2:=by
  unfold Sx.ag.nat
  rw [ac0]
 rw [e2,<-e]
 unfold aHM
 by_cases h:k.w0&&&1=1
 ·rw [h];rfl
 ·have h':¬(k.w0&&&1).toNat=1:=λh'=>h (UInt64.toNat_inj.1 h')
  have h2:Nat.beq (k.w0&&&1).toNat 1=false:=by
   cases hb:Nat.beq (k.w0&&&1).toNat 1
   ·rfl
   ·exact absurd (Nat.eq_of_beq_eq_true hb) h'
  rw [h2]
  simpa using h
theorem XO (k:ag):(dj k).nat=k.nat/2:=by
 have:=iQ k
 exact jR (by omega)
def ayU (p:Nat):Nat->ag->ag->ag->ag
 |0,o,_,_=>o
 |n+1,o,x,k=>cond (dl k) o (ayU p n (cond (aHM k) (dI p o x) o) (dI p x x) (dj k))
def aA3 (p:Nat):Nat->Nat->Nat->Nat->Nat
 |0,o,_,_=>o
 |n+1,o,x,k=>cond (Nat.beq k 0) o (aA3 p n (cond (Nat.beq (k%2) 1) (o*x%p) o) (x*x%p) (k/2))
theorem asn {p:Nat} (hp:0<p/\p<57896044618658097711785492504343953926634992332820282019728792003956564819968):∀ (n:Nat) (o x k:ag),ayU p n o x k=ofN (aA3 p n o.nat x.nat k.nat)
 |0,o,x,k=>(tX o).symm
 |n+1,o,x,k=>by
  have e:∀ a b:ag,(dI p a b).nat=a.nat*b.nat%p:=λa b=>df hp
  simp only [ayU,aA3,mW,ay0]
  cases Nat.beq k.nat 0
  ·simp only [cond_false]
   rw [asn hp n,e,XO]
   cases Nat.beq (k.nat%2) 1
   ·rfl
   ·simp only [cond_true,e]
  ·simp only [cond_true]
   exact (tX o).symm
def gG (p:Nat) (a k:ag):ag:=cond (Nat.beq p 0) ⟨0,0,0,0⟩ (ofN (aA3 p 256 1 (a.nat%p) k.nat))
theorem Tu {p:Nat} (hp:0<p) (a k:ag):gG p a k=ofN (aA3 p 256 1 (a.nat%p) k.nat):=by
 unfold gG
 cases p with
 |zero=>exact absurd hp (Nat.lt_irrefl _)
 |succ p=>rfl
end Go.Proofs.YtohjofabochgfaaGreat

namespace Go.Proofs.YtohjofabochgfaaGreat
open Sx Go
set_option maxRecDepth 100000
def mB:ap:=⟨[.val false .int,.val true .elem,.val true .elem],[],true,0,false⟩
abbrev Ym:Type:=((Int)×(ag)×(ag)×Unit)×(Unit)
def Kk:Shape:=⟨40,[(4,.ptr 0 0 0),(5,.ptr 1 0 0),(6,.ptr 2 0 0),(7,.ptr 3 0 0),(9,.ptr 4 0 0)],[(0,.row .u64),(1,.row .u64),(2,.row .u64),(3,.cells [.val false .u64,.val false .u64,.val false .u64,.val false .u64,.val false .int,.val false .u64,.val false .u64,.val false .u64,.val false .u64,.val false .u64,.val false .u64]),(4,.row .u64)],0,true⟩
abbrev dE:Type:=((Unit)×(Unit)×(Unit)×(Unit)×(Unit)×Unit)×((List (UInt64))×(List (UInt64))×(List (UInt64))×((UInt64)×(UInt64)×(UInt64)×(UInt64)×(Int)×(UInt64)×(UInt64)×(UInt64)×(UInt64)×(UInt64)×(UInt64)×Unit)×(List (UInt64))×Unit)
def zG:Shape:=⟨40,[(6,.ptr 0 0 0),(9,.ptr 1 0 0)],[(0,.row .u64),(1,.row .u64)],0,true⟩
abbrev n5:Type:=((Unit)×(Unit)×Unit)×((List (UInt64))×(List (UInt64))×Unit)
def atJ:SE->Option Shape:=gI [(0,zG)] none
def aE3 (c0:List (UInt64)) (c1:List (UInt64)) (c2:List (UInt64)) (c3_0:UInt64) (c3_1:UInt64) (c3_2:UInt64) (c3_3:UInt64) (c3_4:Int) (c3_5:UInt64) (c3_6:UInt64) (c3_7:UInt64) (c3_8:UInt64) (c3_9:UInt64) (c3_10:UInt64) (c4:List (UInt64)):OT (Sum dE aI):=
 let z0:Nat:=List.length c1
 let z1:Bool:=decide (4<=z0)
 let z2:UInt64:=List.getD c1 0 0
 let z3:UInt64:=List.getD c1 1 0
 let z4:UInt64:=List.getD c1 2 0
 let z5:UInt64:=List.getD c1 3 0
 let z6:Nat:=List.length c4
 let z7:Nat:=List.length c0
 let z8:Bool:=decide (4<=z7)
 let z9:ag:= {w0:=c3_0,w1:=c3_1,w2:=c3_2,w3:=c3_3}
 let z10:ag×Int×UInt64×UInt64×ag:=(z9,c3_4,c3_5,c3_6,{w0:=c3_7,w1:=c3_8,w2:=c3_9,w3:=c3_10})
 let z11:ag:= {w0:=List.getD c4 0 0,w1:=List.getD c4 1 0,w2:=List.getD c4 2 0,w3:=List.getD c4 3 0}
 let z12:ag:= {w0:=List.getD c0 0 0,w1:=List.getD c0 1 0,w2:=List.getD c0 2 0,w3:=List.getD c0 3 0}
 let z13:ag×PUnit:=(z12,())
 let z14:Bool:=fE ((z10,z12,z13),())
 let z15:Bool:=decide ((4/1:Nat)+0<=z7)
 let z16:Bool:=decide ((4/1:Nat)+0<=z0)
 let z17:Nat:=ag.nat z9
 let z18:ag:=dI z17 z12 z12
 let z19:List UInt64:=List.set (List.set (List.set (List.set c0 0 z18.w0) 1 z18.w1) 2 z18.w2) 3 z18.w3
 let z20:ag:=dj {w0:=z2,w1:=z3,w2:=z4,w3:=z5}
 let z21:List UInt64:=List.set (List.set (List.set (List.set c1 0 z20.w0) 1 z20.w1) 2 z20.w2) 3 z20.w3
 let z22:ag:=dI z17 z11 z12
 (gd [z1] (.br (!(z2==(0:UInt64)&&(z3==(0:UInt64)&&(z4==(0:UInt64)&&(z5==(0:UInt64)&&true)))))
 (gd [decide (0<z0)] (.br (z2&&&(1:UInt64)==(1:UInt64))
  (gd [decide (4<=z6),z8,fE ((z10,z11,z13),()),decide ((4/1:Nat)+0<=z6),z8,z8,z14,z15,z1,z16] (.ok (.inl (((),((),((),((),((),()))))),(z19,(z21,(c2,((c3_0,(c3_1,(c3_2,(c3_3,(c3_4,(c3_5,(c3_6,(c3_7,(c3_8,(c3_9,(c3_10,()))))))))))),(List.set (List.set (List.set (List.set c4 0 z22.w0) 1 z22.w1) 2 z22.w2) 3 z22.w3,())))))))))
  (gd [z8,z8,z14,z15,z1,z16] (.ok (.inl (((),((),((),((),((),()))))),(z19,(z21,(c2,((c3_0,(c3_1,(c3_2,(c3_3,(c3_4,(c3_5,(c3_6,(c3_7,(c3_8,(c3_9,(c3_10,()))))))))))),(c4,())))))))))))
 (.ok (.inr ⟨(.exit 0,zG),(((),((),())),(c2,(c4,())))⟩))))
def Kl (s:dE):OT (Sum dE aI):=aE3 (s.2.1) (s.2.2.1) (s.2.2.2.1) (s.2.2.2.2.1.1) (s.2.2.2.2.1.2.1) (s.2.2.2.2.1.2.2.1) (s.2.2.2.2.1.2.2.2.1) (s.2.2.2.2.1.2.2.2.2.1) (s.2.2.2.2.1.2.2.2.2.2.1) (s.2.2.2.2.1.2.2.2.2.2.2.1) (s.2.2.2.2.1.2.2.2.2.2.2.2.1) (s.2.2.2.2.1.2.2.2.2.2.2.2.2.1) (s.2.2.2.2.1.2.2.2.2.2.2.2.2.2.1) (s.2.2.2.2.1.2.2.2.2.2.2.2.2.2.2.1) (s.2.2.2.2.2.1)
theorem aE1 (s:dE) (Q:Sum dE aI->Prop):wps te ox ax 1000 (bg (ak Tryz.f137) 0) (Kk.inj s) (cz Kk atJ (Q:Sum Kk.T aI->Prop))=(Kl s).wpR Q:=by kernel_rfl
def Tl (g0_0:dE->n5) (s:dE):OT aI:=(.ok ⟨(.exit 0,zG),g0_0 s⟩)
def Dd:av:=⟨[.val true .elem],[],false⟩
def ajo:SV->Option av:=λ_=>some Dd
def atO (ok0:dE->Bool) (g0_0:dE->n5) (a0:Int) (a1:ag) (a2:ag):OT mB.Y:=
 let z0:ag×Int×UInt64×UInt64×ag:=aS (Int.toNat a0)
 let z1:=z0.fst
 let z2:ag:=ofN (ag.nat a1%ag.nat z1)
 let z3:=z0.snd
 let z4:=z3.snd
 let z5:=z4.snd
 let z6:=z5.snd
 let z7:(PUnit×PUnit×PUnit×PUnit×PUnit×PUnit)×List UInt64×List UInt64×List UInt64×(UInt64×UInt64×UInt64×UInt64×Int×UInt64×UInt64×UInt64×UInt64×UInt64×UInt64×PUnit)×List UInt64×PUnit:=(((),(),(),(),(),()),[z2.w0,z2.w1,z2.w2,z2.w3],[a2.w0,a2.w1,a2.w2,a2.w3],[(0:UInt64),(0:UInt64),(0:UInt64),(0:UInt64)],(z1.w0,z1.w1,z1.w2,z1.w3,z3.fst,z4.fst,z5.fst,z6.w0,z6.w1,z6.w2,z6.w3,()),[(1:UInt64),(0:UInt64),(0:UInt64),(0:UInt64)],())
 let z8:=(g0_0 z7).snd
 let z9:=z8.snd.fst
 let z10:=z8.fst
 let z11:List UInt64:=lay z10 z9 4 (0:UInt64)
 (.br (au a0)
 (gd [fU ((z0,a1,()),()),ok0 z7,decide (4<=List.length z9),decide ((4/1:Nat)+0<=List.length z10),decide (4<=List.length z11)] (.ok ⟨Dd,(({w0:=List.getD z11 0 0,w1:=List.getD z11 1 0,w2:=List.getD z11 2 0,w3:=List.getD z11 3 0},()),())⟩))
 (.ok ⟨Dd,(({w0:=0,w1:=0,w2:=0,w3:=0},()),())⟩))
theorem aHh (ok0:dE->Bool) (g0_0:dE->n5) (x:Ym) (Q:mB.Y->Prop):wpf te ox (be 0 (cE Kk 0 ok0 (Tl g0_0)) ax) 1000 Tryz.f137 (mB.inp.inj x).tm (mB.inp.inj x).hp (fnK mB ajo Q) (λ_ _=>False)=(atO ok0 g0_0 (x.1.1) (x.1.2.1) (x.1.2.2.1)).wpR Q:=by kernel_rfl
theorem atL (ok0:dE->Bool) (g0_0:dE->n5) (h0:∀ s:dE,ok0 s=true->∃ m e,aA (Kl) m s=some e/\(Tl g0_0 s).run=some e) (pre:Ym->Bool) (F:Ym->OT mB.Y) (hF:∀ (x:Ym) oy,pre x=true->(F x).run=some oy->(atO ok0 g0_0 (x.1.1) (x.1.2.1) (x.1.2.2.1)).run=some oy):aa Tryz.prog 137 (mB.aD pre F):=
 aB al mL A1 (f:=137) (fn:=Tryz.f137) (c:=ak Tryz.f137) (by kernel_rfl) (by kernel_rfl) (by kernel_rfl) (S:=mB) (k:=0) (by kernel_rfl) (λR hR=>(aG (c:=(ak Tryz.f137)) (by kernel_rfl) (id:=0) (by kernel_rfl) (ba al mL A1 (sh:=Kk) hR (xs:=atJ) (aF (by kernel_rfl) (by kernel_rfl) hR) aN ae (n:=1000) (T:=Kl) (λs Q=>aE1 s Q) (ok:=ok0) (f:=Tl g0_0) h0) ae)) (n:=1000) (sel:=ajo) (λv o h=>by cases h;rfl) (pre:=pre) (F:=F) (T:=λx=>atO ok0 g0_0 (x.1.1) (x.1.2.1) (x.1.2.2.1)) (λx Q=>aHh ok0 g0_0 x Q) hF
theorem atM {x0 x1 x2 x3 x5 x6 x7 x8 x9 x10:UInt64} {x4:Int} {c2:List UInt64} (hn:jQ (⟨x0,x1,x2,x3⟩,x4,x5,x6,⟨x7,x8,x9,x10⟩)=true):∀ (n:Nat) (o x k:ag),k.nat<2^n->
 ∃ m,aA Kl m (((),(),(),(),(),()),(lst x,lst k,c2,(x0,x1,x2,x3,x4,x5,x6,x7,x8,x9,x10,()),lst o,()))=some ⟨(.exit 0,zG),(((),(),()),(c2,lst (ayU (ag.mk x0 x1 x2 x3).nat n o x k),()))⟩:=by
 intro n
 induction n with
 |zero=>
  intro o x k hk
  have hz:(!dl k)=false:=by
   rw [mW,show k.nat=0 by omega]
   rfl
  exact ⟨1,bc ((aj rfl).trans (OT.aq hz))⟩
 |succ n ih=>
  intro o x k hk
  cases hz:dl k
  ·have hk2:(dj k).nat<2^n:=by
    rw [XO]
    rw [Nat.pow_succ] at hk
    omega
   have hz':(!dl k)=true:=by rw [hz];rfl
   cases ho:aHM k
   ·obtain ⟨m,hm⟩:=ih o (dI (ag.mk x0 x1 x2 x3).nat x x) (dj k) hk2
    simp only [ayU,hz,ho,cond_false]
    refine ⟨m+1,aJ ?_ hm⟩
    refine (aj rfl).trans ((OT.az hz').trans ((aj rfl).trans ((OT.aq ho).trans ((aj ?_).trans rfl))))
    simp only [List.all_cons,List.all_nil,Bool.and_true,Bool.and_eq_true]
    exact ⟨rfl,rfl,hn,rfl,rfl,rfl⟩
   ·obtain ⟨m,hm⟩:=ih (dI (ag.mk x0 x1 x2 x3).nat o x) (dI (ag.mk x0 x1 x2 x3).nat x x) (dj k) hk2
    simp only [ayU,hz,ho,cond_false,cond_true]
    refine ⟨m+1,aJ ?_ hm⟩
    refine (aj rfl).trans ((OT.az hz').trans ((aj rfl).trans ((OT.az ho).trans ((aj ?_).trans rfl))))
    simp only [List.all_cons,List.all_nil,Bool.and_true,Bool.and_eq_true]
    exact ⟨rfl,rfl,hn,rfl,rfl,rfl,hn,rfl,rfl,rfl⟩
  ·simp only [ayU,hz,cond_true]
   have hz':(!dl k)=false:=by rw [hz];rfl
   exact ⟨1,bc ((aj rfl).trans (OT.aq hz'))⟩
def aH9 (s:dE):Nx:=(⟨s.2.2.2.2.1.1,s.2.2.2.2.1.2.1,s.2.2.2.2.1.2.2.1,s.2.2.2.2.1.2.2.2.1⟩,s.2.2.2.2.1.2.2.2.2.1,s.2.2.2.2.1.2.2.2.2.2.1,s.2.2.2.2.1.2.2.2.2.2.2.1,⟨s.2.2.2.2.1.2.2.2.2.2.2.2.1,s.2.2.2.2.1.2.2.2.2.2.2.2.2.1,s.2.2.2.2.1.2.2.2.2.2.2.2.2.2.1,s.2.2.2.2.1.2.2.2.2.2.2.2.2.2.2.1⟩)
def Tk (s:dE):Bool:=jQ (aH9 s)&&decide (s.2.1.length=4/\s.2.2.1.length=4/\s.2.2.2.2.2.1.length=4)
def atN (s:dE):n5:=(((),(),()),(s.2.2.2.1,lst (ayU (aH9 s).1.nat 256 (elemOf s.2.2.2.2.2.1) (elemOf s.2.1) (elemOf s.2.2.1)),()))
theorem aE2:∀ s:dE,Tk s=true->∃ m e,aA Kl m s=some e/\(Tl atN s).run=some e:=by
 rintro ⟨⟨⟨⟩,⟨⟩,⟨⟩,⟨⟩,⟨⟩,⟨⟩⟩,⟨c0,c1,c2,⟨x0,x1,x2,x3,x4,x5,x6,x7,x8,x9,x10,⟨⟩⟩,c4,⟨⟩⟩⟩ h
 simp only [Tk,Bool.and_eq_true,decide_eq_true_eq,aH9] at h
 obtain ⟨hn,h0,h1,h4⟩:=h
 obtain ⟨x,rfl⟩:∃ a,c0=lst a:=⟨elemOf c0,(aP h0).symm⟩
 obtain ⟨k,rfl⟩:∃ a,c1=lst a:=⟨elemOf c1,(aP h1).symm⟩
 obtain ⟨o,rfl⟩:∃ a,c4=lst a:=⟨elemOf c4,(aP h4).symm⟩
 obtain ⟨m,hm⟩:=atM (c2:=c2) hn 256 o x k (iQ k)
 exact ⟨m,_,hm,rfl⟩
def ajp (_:Ym):Bool:=true
def aBk (x:Ym):OT mB.Y:=.br (au x.1.1) (.ok ⟨Dd,((gG (pS x.1.1) x.1.2.1 x.1.2.2.1,()),())⟩) (.ok ⟨Dd,((⟨0,0,0,0⟩,()),())⟩)
theorem azK {p:Nat} (hp:0<p/\p<57896044618658097711785492504343953926634992332820282019728792003956564819968) (a k:ag):elemOf (lay [0,0,0,0] (lst (ayU p 256 ⟨1,0,0,0⟩ (ofN (a.nat%p)) k)) 4 0)=gG p a k:=by
 rw [aFL _ _ rfl rfl,ani,asn hp,df hp,Tu hp.1]
 rfl
theorem atK:aa Tryz.prog 137 (mB.aD ajp aBk):=atL Tk atN aE2 _ _ λx oy hp ho=>by
 rw [<-ho]
 clear ho
 obtain ⟨⟨s,a,k,⟨⟩⟩,⟨⟩⟩:=x
 cases hs:au s
 ·exact (OT.aq hs).trans (OT.aq (b:=au s) hs).symm
 ·have hn:=iu hs
  have hfin:=azK (rn hs) a k
  have hn2:jQ (aS s.toNat)=true:=hn
  refine (OT.az hs).trans (Eq.trans ?_ (OT.az (b:=au s) hs).symm)
  simp only [<-hfin]
  refine (aj ?_).trans rfl
  simp only [List.all_cons,List.all_nil,Bool.and_true,Bool.and_eq_true]
  refine ⟨hn,?_,rfl,rfl,rfl⟩
  show (jQ _&&decide _)=true
  rw [Bool.and_eq_true]
  exact ⟨hn,decide_eq_true ⟨rfl,rfl,rfl⟩⟩
def Kj:bw:=(mB.aD ajp aBk)
theorem am2:aa Tryz.prog 137 Kj:=atK
theorem am1:aC Kj:=ay
def Z4:Env:=aw 137 Kj ox
theorem Mx:aK Tryz.prog Z4:=af am2 mL
theorem My:ar Z4:=ab am1 vH
theorem aob:aO Tryz.prog te Z4:=aE follows al Mx My
def rW:ap:=⟨[.val false .int,.val true .elem],[],true,0,false⟩
abbrev amV:Type:=((Int)×(ag)×Unit)×(Unit)
def rV:av:=⟨[.val true .elem,.val false .int],[],false⟩
def ajm:SV->Option av:=λ_=>some rV
def atE (a0:Int) (a1:ag):OT rW.Y:=
 let z0:Bool:=au a0
 let z1:ag×Int×UInt64×UInt64×ag:=aS (Int.toNat a0)
 let z2:=z1.fst
 let z3:ag:=ofN (ag.nat a1%ag.nat z2)
 let z4:ag:= {w0:=0,w1:=0,w2:=0,w3:=0}
 (.br (z0)
 (gd [fU ((z1,a1,()),())] (.br (z3.w0==(0:UInt64)&&(z3.w1==(0:UInt64)&&(z3.w2==(0:UInt64)&&(z3.w3==(0:UInt64)&&true))))
  (.ok ⟨rV,((z4,((10:Int),())),())⟩)
  (.br (z0)
   (.ok ⟨rV,((gG (pS a0) a1 (ef z2 {w0:=2,w1:=0,w2:=0,w3:=0}).fst,((0:Int),())),())⟩)
   (.ok ⟨rV,((z4,((0:Int),())),())⟩))))
 (.ok ⟨rV,((z4,((20:Int),())),())⟩))
theorem aHg (x:amV) (Q:rW.Y->Prop):wpf te Z4 ax 1000 Tryz.f121 (rW.inp.inj x).tm (rW.inp.inj x).hp (fnK rW ajm Q) (λ_ _=>False)=(atE (x.1.1) (x.1.2.1)).wpR Q:=by kernel_rfl
theorem atD (pre:amV->Bool) (F:amV->OT rW.Y) (hF:∀ (x:amV) oy,pre x=true->(F x).run=some oy->(atE (x.1.1) (x.1.2.1)).run=some oy):aa Tryz.prog 121 (rW.aD pre F):=
 aB al Mx aob (f:=121) (fn:=Tryz.f121) (c:=ak Tryz.f121) (by kernel_rfl) (by kernel_rfl) (by kernel_rfl) (S:=rW) (k:=0) (by kernel_rfl) (λR hR=>ae) (n:=1000) (sel:=ajm) (λv o h=>by cases h;rfl) (pre:=pre) (F:=F) (T:=λx=>atE (x.1.1) (x.1.2.1)) (λx Q=>aHg x Q) hF
def aH3 (p:Nat) (a:ag):ag:=ofN (aA3 p 256 1 (a.nat%p) (p-2))
theorem aA5 {s:Int} (h:au s=true):2<=pS s:=by
 rcases ca h with rfl|rfl|rfl|rfl<;>decide+kernel
theorem aEC {s:Int} (h:au s=true) (a:ag):gG (pS s) a (ef (aS s.toNat).1 ⟨2,0,0,0⟩).1=aH3 (pS s) a:=by
 rw [Tu (rn h).1]
 unfold aH3
 have h2:2<=(aS s.toNat).1.nat:=aA5 h
 rw [l9 (show (ag.mk 2 0 0 0).nat<=_ from h2)]
 rfl
theorem avv {p:Nat} (hp:0<p/\p<57896044618658097711785492504343953926634992332820282019728792003956564819968) (n:Nat):dl (ofN (n%p))=Nat.beq (n%p) 0:=by
 rw [mW,df hp]
def ajn (_:amV):Bool:=true
def aBj (x:amV):OT rW.Y:=.br (au x.1.1) (.br (Nat.beq (x.1.2.1.nat%pS x.1.1) 0) (.ok ⟨rV,((⟨0,0,0,0⟩,((10:Int),())),())⟩) (.ok ⟨rV,((aH3 (pS x.1.1) x.1.2.1,((0:Int),())),())⟩))
 (.ok ⟨rV,((⟨0,0,0,0⟩,((20:Int),())),())⟩)
theorem aEZ:aa Tryz.prog 121 (rW.aD ajn aBj):=atD _ _ λx oy hp ho=>by
 rw [<-ho]
 clear ho
 obtain ⟨⟨s,a,⟨⟩⟩,⟨⟩⟩:=x
 cases hs:au s
 ·exact (OT.aq hs).trans (OT.aq (b:=au s) hs).symm
 ·have hz:dl (ofN (a.nat%pS s))=Nat.beq (a.nat%pS s) 0:=avv (rn hs) _
  refine (OT.az hs).trans (Eq.trans ((aj ?_).trans ?_) (OT.az (b:=au s) hs).symm)
  ·simp only [List.all_cons,List.all_nil,Bool.and_true]
   exact iu hs
  ·cases hb:Nat.beq (a.nat%pS s) 0
   ·rw [hb] at hz
    refine (OT.aq hz).trans ((OT.az hs).trans (Eq.trans ?_ (OT.aq rfl).symm))
    simp only [aEC hs]
   ·rw [hb] at hz
    exact (OT.az hz).trans (OT.az rfl).symm
def Ke:bw:=(rW.aD ajn aBj)
theorem amU:aa Tryz.prog 121 Ke:=aEZ
theorem amT:aC Ke:=ay
def Z3:Env:=aw 121 Ke Z4
theorem Mu:aK Tryz.prog Z3:=af amU Mx
theorem Mv:ar Z3:=ab amT My
theorem aoa:aO Tryz.prog te Z3:=aE follows al Mu Mv
def iG:ap:=⟨[.val false .int],[],true,0,false⟩
abbrev Dl:Type:=((Int)×Unit)×(Unit)
def iF:av:=⟨[.val true .elem,.val false .bool],[],false⟩
def Qi:SV->Option av:=λ_=>some iF
def TM (a0:Int):OT iG.Y:=
 let z0:ag:= {w0:=5,w1:=0,w2:=0,w3:=0}
 let z1:ag:= {w0:=0,w1:=0,w2:=0,w3:=0}
 (.br (a0==(0:Int))
 (.ok ⟨iF,(({w0:=23,w1:=0,w2:=0,w3:=0},(true,())),())⟩)
 (.br (a0==(1:Int))
  (.ok ⟨iF,(({w0:=21,w1:=0,w2:=0,w3:=0},(true,())),())⟩)
  (.br (a0==(2:Int))
   (.br (a0==(2:Int))
    (.ok ⟨iF,((z0,(true,())),())⟩)
    (.ok ⟨iF,((z1,(false,())),())⟩))
   (.br (a0==(3:Int))
    (.ok ⟨iF,((z0,(true,())),())⟩)
    (.ok ⟨iF,((z1,(false,())),())⟩)))))
theorem az0 (x:Dl) (Q:iG.Y->Prop):wpf te Z3 ax 1000 Tryz.f85 (iG.inp.inj x).tm (iG.inp.inj x).hp (fnK iG Qi Q) (λ_ _=>False)=(TM (x.1.1)).wpR Q:=by kernel_rfl
theorem ad5 (pre:Dl->Bool) (F:Dl->OT iG.Y) (hF:∀ (x:Dl) oy,pre x=true->(F x).run=some oy->(TM (x.1.1)).run=some oy):aa Tryz.prog 85 (iG.aD pre F):=
 aB al Mu aoa (f:=85) (fn:=Tryz.f85) (c:=ak Tryz.f85) (by kernel_rfl) (by kernel_rfl) (by kernel_rfl) (S:=iG) (k:=0) (by kernel_rfl) (λR hR=>ae) (n:=1000) (sel:=Qi) (λv o h=>by cases h;rfl) (pre:=pre) (F:=F) (T:=λx=>TM (x.1.1)) (λx Q=>az0 x Q) hF
def bOf:Nat->ag
 |0=>⟨23,0,0,0⟩
 |1=>⟨21,0,0,0⟩
 |_=>⟨5,0,0,0⟩
abbrev bS (s:Int):ag:=bOf s.toNat
def Qj (_:Dl):Bool:=true
def ajK (x:Dl):OT iG.Y:=.br (au x.1.1) (.ok ⟨iF,((bS x.1.1,(true,())),())⟩) (.ok ⟨iF,((⟨0,0,0,0⟩,(false,())),())⟩)
theorem auu:aa Tryz.prog 85 (iG.aD Qj ajK):=ad5 _ _ λx oy _ ho=>by
 rw [<-ho]
 clear ho
 obtain ⟨⟨s,⟨⟩⟩,⟨⟩⟩:=x
 cases hs:au s
 ·obtain ⟨h0,h1,h2,h3⟩:=tn hs
  exact (OT.aq h0).trans ((OT.aq h1).trans ((OT.aq h2).trans ((OT.aq h3).trans (OT.aq (b:=au s) hs).symm)))
 ·rcases ca hs with h|h|h|h
  all_goals
   have h:s=_:=h
   subst h
   rfl
def wP:bw:=(iG.aD Qj ajK)
theorem YL:aa Tryz.prog 85 wP:=auu
theorem YK:aC wP:=ay
def A7:Env:=aw 85 wP Z3
theorem xo:aK Tryz.prog A7:=af YL Mu
theorem A6:ar A7:=ab YK Mv
theorem Z9:aO Tryz.prog te A7:=aE follows al xo A6
def sf:ap:=⟨[],[],true,0,false⟩
abbrev anq:Type:=(Unit)×(Unit)
def adZ:av:=⟨[.val true (.prod .elem (.prod .elem .bool))],[],false⟩
def ajH:SV->Option av:=λ_=>some adZ
def aup:OT sf.Y:=
 let z0:ag:= {w0:=0,w1:=0,w2:=0,w3:=0}
 (.ok ⟨adZ,(((z0,z0,true),()),())⟩)
theorem aHt (x:anq) (Q:sf.Y->Prop):wpf te A7 ax 1000 Tryz.f79 (sf.inp.inj x).tm (sf.inp.inj x).hp (fnK sf ajH Q) (λ_ _=>False)=(aup).wpR Q:=by kernel_rfl
theorem auo (pre:anq->Bool) (F:anq->OT sf.Y) (hF:∀ (x:anq) oy,pre x=true->(F x).run=some oy->(aup).run=some oy):aa Tryz.prog 79 (sf.aD pre F):=
 aB al xo Z9 (f:=79) (fn:=Tryz.f79) (c:=ak Tryz.f79) (by kernel_rfl) (by kernel_rfl) (by kernel_rfl) (S:=sf) (k:=0) (by kernel_rfl) (λR hR=>ae) (n:=1000) (sel:=ajH) (λv o h=>by cases h;rfl) (pre:=pre) (F:=F) (T:=λx=>aup) (λx Q=>aHt x Q) hF
def aiU:ag×(ag×Bool):=(⟨0,0,0,0⟩,⟨0,0,0,0⟩,true)
def ajI (_:anq):Bool:=true
def aBq (_:anq):OT sf.Y:=.ok ⟨adZ,((aiU,()),())⟩
theorem aFn:aa Tryz.prog 79 (sf.aD ajI aBq):=auo _ _ λx oy _ ho=>ho
def KE:bw:=(sf.aD ajI aBq)
theorem anp:aa Tryz.prog 79 KE:=aFn
theorem ano:aC KE:=ay
def Z8:Env:=aw 79 KE A7
theorem MF:aK Tryz.prog Z8:=af anp xo
theorem MG:ar Z8:=ab ano A6
theorem aod:aO Tryz.prog te Z8:=aE follows al MF MG
def lF:ap:=⟨[.val false .int,.val true .elem,.val true .elem],[],true,0,false⟩
abbrev Qh:Type:=((Int)×(ag)×(ag)×Unit)×(Unit)
def jk:av:=⟨[.val true .elem],[],false⟩
def YJ:SV->Option av:=λ_=>some jk
def ad4 (a0:Int) (a1:ag) (a2:ag):OT lF.Y:=
 let z0:Bool:=au a0
 let z1:Nat:=pS a0
 let z2:ag:= {w0:=0,w1:=0,w2:=0,w3:=0}
 let z3:ag:=vh z1 z2 a2
 (.br (z0)
 (.br (z0)
  (.br (z0)
   (.ok ⟨jk,((vh z1 (dI z1 (dI z1 a1 a1) a1) a2,()),())⟩)
   (.ok ⟨jk,((z2,()),())⟩))
  (.br (z0)
   (.ok ⟨jk,((z3,()),())⟩)
   (.ok ⟨jk,((z2,()),())⟩)))
 (.br (z0)
  (.br (z0)
   (.ok ⟨jk,((vh z1 (dI z1 z2 a1) a2,()),())⟩)
   (.ok ⟨jk,((z2,()),())⟩))
  (.br (z0)
   (.ok ⟨jk,((z3,()),())⟩)
   (.ok ⟨jk,((z2,()),())⟩))))
theorem aFo (x:Qh) (Q:lF.Y->Prop):wpf te Z8 ax 1000 Tryz.f87 (lF.inp.inj x).tm (lF.inp.inj x).hp (fnK lF YJ Q) (λ_ _=>False)=(ad4 (x.1.1) (x.1.2.1) (x.1.2.2.1)).wpR Q:=by kernel_rfl
theorem ans (pre:Qh->Bool) (F:Qh->OT lF.Y) (hF:∀ (x:Qh) oy,pre x=true->(F x).run=some oy->(ad4 (x.1.1) (x.1.2.1) (x.1.2.2.1)).run=some oy):aa Tryz.prog 87 (lF.aD pre F):=
 aB al MF aod (f:=87) (fn:=Tryz.f87) (c:=ak Tryz.f87) (by kernel_rfl) (by kernel_rfl) (by kernel_rfl) (S:=lF) (k:=0) (by kernel_rfl) (λR hR=>ae) (n:=1000) (sel:=YJ) (λv o h=>by cases h;rfl) (pre:=pre) (F:=F) (T:=λx=>ad4 (x.1.1) (x.1.2.1) (x.1.2.2.1)) (λx Q=>aFo x Q) hF
def Gf (p:Nat) (x b:ag):ag:=vh p (dI p (dI p x x) x) b
def sn (x:Qh):Bool:=au x.1.1
def aut (x:Qh):OT lF.Y:=.ok ⟨jk,((Gf (pS x.1.1) x.1.2.1 x.1.2.2.1,()),())⟩
theorem azZ:aa Tryz.prog 87 (lF.aD sn aut):=ans _ _ λx oy hp ho=>by
 rw [<-ho]
 clear ho
 obtain ⟨⟨s,a,b,⟨⟩⟩,⟨⟩⟩:=x
 have hs:au s=true:=hp
 exact (OT.az hs).trans ((OT.az hs).trans ((OT.az hs).trans rfl))
def Dk:bw:=(lF.aD sn aut)
theorem ad3:aa Tryz.prog 87 Dk:=azZ
theorem ad2:aC Dk:=ay
def MI:Env:=aw 87 Dk Z8
theorem Er:aK Tryz.prog MI:=af ad3 MF
theorem F3:ar MI:=ab ad2 MG
theorem afd:aO Tryz.prog te MI:=aE follows al Er F3
def Gg:ap:=⟨[.val false .int,.val true (.prod .elem (.prod .elem .bool))],[],true,0,false⟩
abbrev aFT:Type:=((Int)×((ag×(ag×Bool)))×Unit)×(Unit)
def vu:av:=⟨[.val false .bool],[],false⟩
def auj:SV->Option av:=λ_=>some vu
def aFk (a0:Int) (a1:(ag×(ag×Bool))):OT Gg.Y:=
 let z0:Bool:=au a0
 let z1:Nat:=ag.nat (aS (Int.toNat a0)).fst
 let z2:ag:=bS a0
 let z3:Bool:=sn ((a0,a1.fst,z2,()),())
 let z4:Nat:=pS a0
 let z5:ag:=dI z4 a1.snd.fst a1.snd.fst
 let z6:ag:=Gf z4 a1.fst z2
 let z7:=z6.w0
 let z8:=z6.w1
 let z9:=z6.w2
 let z10:=z6.w3
 (.br (z0)
 (.br (a1.snd.snd)
  (.ok ⟨vu,((a1.fst.w0==(0:UInt64)&&(a1.fst.w1==(0:UInt64)&&(a1.fst.w2==(0:UInt64)&&(a1.fst.w3==(0:UInt64)&&true)))&&(a1.snd.fst.w0==(0:UInt64)&&(a1.snd.fst.w1==(0:UInt64)&&(a1.snd.fst.w2==(0:UInt64)&&(a1.snd.fst.w3==(0:UInt64)&&true)))&&(a1.snd.snd==true&&true)),()),())⟩)
  (.br (z0)
   (.br (Nat.blt (ag.nat a1.fst) z1)
    (.br (Nat.blt (ag.nat a1.snd.fst) z1)
     (.br (z0)
      (gd [z3] (.ok ⟨vu,((z5.w0==z7&&(z5.w1==z8&&(z5.w2==z9&&(z5.w3==z10&&true))),()),())⟩))
      (gd [z3] (.ok ⟨vu,(((0:UInt64)==z7&&((0:UInt64)==z8&&((0:UInt64)==z9&&((0:UInt64)==z10&&true))),()),())⟩)))
     (.ok ⟨vu,((false,()),())⟩))
    (.ok ⟨vu,((false,()),())⟩))
   (.ok ⟨vu,((false,()),())⟩)))
 (.ok ⟨vu,((false,()),())⟩))
theorem aH8 (x:aFT) (Q:Gg.Y->Prop):wpf te MI ax 1000 Tryz.f47 (Gg.inp.inj x).tm (Gg.inp.inj x).hp (fnK Gg auj Q) (λ_ _=>False)=(aFk (x.1.1) (x.1.2.1)).wpR Q:=by kernel_rfl
theorem azW (pre:aFT->Bool) (F:aFT->OT Gg.Y) (hF:∀ (x:aFT) oy,pre x=true->(F x).run=some oy->(aFk (x.1.1) (x.1.2.1)).run=some oy):aa Tryz.prog 47 (Gg.aD pre F):=
 aB al Er afd (f:=47) (fn:=Tryz.f47) (c:=ak Tryz.f47) (by kernel_rfl) (by kernel_rfl) (by kernel_rfl) (S:=Gg) (k:=0) (by kernel_rfl) (λR hR=>ae) (n:=1000) (sel:=auj) (λv o h=>by cases h;rfl) (pre:=pre) (F:=F) (T:=λx=>aFk (x.1.1) (x.1.2.1)) (λx Q=>aH8 x Q) hF
def eqE (a b:ag):Bool:=(a.w0==b.w0&&(a.w1==b.w1&&(a.w2==b.w2&&(a.w3==b.w3&&true))))
theorem wM {a b:ag}:eqE a b=true ↔ a=b:=by
 obtain ⟨a0,a1,a2,a3⟩:=a
 obtain ⟨b0,b1,b2,b3⟩:=b
 simp [eqE]
theorem ajz (a:ag):eqE a a=true:=wM.2 rfl
theorem aFd (a b:ag):eqE a b=Nat.beq a.nat b.nat:=by
 cases h:eqE a b
 ·cases hb:Nat.beq a.nat b.nat
  ·rfl
  ·rw [wM.2 (ph (Nat.eq_of_beq_eq_true hb))] at h
   cases h
 ·rw [wM.1 h]
  exact (Nat.beq_refl _).symm
abbrev Pt:Type:=ag×(ag×Bool)
def onB (c:Int) (P:Pt):Bool:=cond (au c) (cond P.2.2 (dl P.1&&(dl P.2.1&&(P.2.2==true&&true)))
 (cond (Nat.blt P.1.nat (pS c)) (cond (Nat.blt P.2.1.nat (pS c)) (eqE (dI (pS c) P.2.1 P.2.1) (Gf (pS c) P.1 (bS c))) false) false)) false
def auk (_:aFT):Bool:=true
def aHs (x:aFT):OT Gg.Y:=.ok ⟨vu,((onB x.1.1 x.1.2.1,()),())⟩
theorem aHr:aa Tryz.prog 47 (Gg.aD auk aHs):=azW _ _ λx oy _ ho=>by
 rw [<-ho]
 clear ho
 obtain ⟨⟨c,⟨X,Y,i⟩,⟨⟩⟩,⟨⟩⟩:=x
 show _=(OT.ok ⟨vu,((onB c (X,Y,i),()),())⟩:OT Gg.Y).run
 unfold onB
 cases hs:au c
 ·exact OT.aq hs
 ·refine (OT.az hs).trans ?_
  cases i
  ·refine (OT.aq rfl).trans ((OT.az hs).trans ?_)
   cases hx:Nat.blt X.nat (pS c)
   ·exact OT.aq hx
   ·refine (OT.az hx).trans ?_
    cases hy:Nat.blt Y.nat (pS c)
    ·exact OT.aq hy
    ·refine (OT.az hy).trans ((OT.az hs).trans ((aj ?_).trans rfl))
     simp only [List.all_cons,List.all_nil,Bool.and_true]
     exact hs
  ·exact OT.az rfl
def TG:bw:=(Gg.aD auk aHs)
theorem aul:aa Tryz.prog 47 TG:=aHr
theorem aui:aC TG:=ay
def avp:Env:=aw 47 TG MI
theorem UE:aK Tryz.prog avp:=af aul Er
theorem QN:ar avp:=ab aui F3
theorem avo:aO Tryz.prog te avp:=aE follows al UE QN
def hZ:ap:=⟨[.val false .int],[],true,0,false⟩
abbrev EJ:Type:=((Int)×Unit)×(Unit)
def j6:av:=⟨[.val true .elem,.val false .int],[],false⟩
def WH:SV->Option av:=λ_=>some j6
def acm (a0:Int):OT hZ.Y:=
 (.br (a0==(0:Int))
 (.ok ⟨j6,(({w0:=16513537,w1:=0,w2:=0,w3:=0},((0:Int),())),())⟩)
 (.br (a0==(1:Int))
  (.ok ⟨j6,(({w0:=16521217,w1:=0,w2:=0,w3:=0},((0:Int),())),())⟩)
  (.br (a0==(2:Int))
   (.ok ⟨j6,(({w0:=11037532056220336129,w1:=2469829653914515739,w2:=0,w3:=4611686018427387904},((0:Int),())),())⟩)
   (.br (a0==(3:Int))
    (.ok ⟨j6,(({w0:=10108024940646105089,w1:=2469829653919213789,w2:=0,w3:=4611686018427387904},((0:Int),())),())⟩)
    (.ok ⟨j6,(({w0:=0,w1:=0,w2:=0,w3:=0},((20:Int),())),())⟩)))))
theorem aD8 (x:EJ) (Q:hZ.Y->Prop):wpf te avp ax 1000 Tryz.f92 (hZ.inp.inj x).tm (hZ.inp.inj x).hp (fnK hZ WH Q) (λ_ _=>False)=(acm (x.1.1)).wpR Q:=by kernel_rfl
theorem alt (pre:EJ->Bool) (F:EJ->OT hZ.Y) (hF:∀ (x:EJ) oy,pre x=true->(F x).run=some oy->(acm (x.1.1)).run=some oy):aa Tryz.prog 92 (hZ.aD pre F):=
 aB al UE avo (f:=92) (fn:=Tryz.f92) (c:=ak Tryz.f92) (by kernel_rfl) (by kernel_rfl) (by kernel_rfl) (S:=hZ) (k:=0) (by kernel_rfl) (λR hR=>ae) (n:=1000) (sel:=WH) (λv o h=>by cases h;rfl) (pre:=pre) (F:=F) (T:=λx=>acm (x.1.1)) (λx Q=>aD8 x Q) hF
def WI (_:EJ):Bool:=true
def arW (x:EJ):OT hZ.Y:=.br (au x.1.1) (.ok ⟨j6,(((aS x.1.1.toNat).1,((0:Int),())),())⟩) (.ok ⟨j6,((⟨0,0,0,0⟩,((20:Int),())),())⟩)
theorem ain:aa Tryz.prog 92 (hZ.aD WI arW):=alt _ _ λx oy _ ho=>by
 rw [<-ho]
 clear ho
 obtain ⟨⟨s,⟨⟩⟩,⟨⟩⟩:=x
 cases hs:au s
 ·obtain ⟨h0,h1,h2,h3⟩:=tn hs
  exact (OT.aq h0).trans ((OT.aq h1).trans ((OT.aq h2).trans ((OT.aq h3).trans (OT.aq (b:=au s) hs).symm)))
 ·rcases ca hs with h|h|h|h
  all_goals
   have h:s=_:=h
   subst h
   rfl
def Cs:bw:=(hZ.aD WI arW)
theorem ack:aa Tryz.prog 92 Cs:=ain
theorem acj:aC Cs:=ay
def L0:Env:=aw 92 Cs avp
theorem D5:aK Tryz.prog L0:=af ack UE
theorem FH:ar L0:=ab acj QN
theorem aeZ:aO Tryz.prog te L0:=aE follows al D5 FH
def ij:ap:=⟨[.val false .int],[],true,0,false⟩
abbrev EP:Type:=((Int)×Unit)×(Unit)
def pb:av:=⟨[.val false .int,.val false .int],[],false⟩
def WY:SV->Option av:=λ_=>some pb
def acF (a0:Int):OT ij.Y:=
 (.br (decide (a0<(0:Int)))
 (.ok ⟨pb,(((0:Int),((20:Int),())),())⟩)
 (.br (decide ((3:Int)<a0))
  (.ok ⟨pb,(((0:Int),((20:Int),())),())⟩)
  (gd [inB a0 4,decide (Int.toNat a0+0<4)] (.ok ⟨pb,((List.getD [(9:Int),(11:Int),(32:Int),(32:Int)] (Int.toNat a0+0) (0:Int),((0:Int),())),())⟩))))
theorem aEb (x:EP) (Q:ij.Y->Prop):wpf te L0 ax 1000 Tryz.f131 (ij.inp.inj x).tm (ij.inp.inj x).hp (fnK ij WY Q) (λ_ _=>False)=(acF (x.1.1)).wpR Q:=by kernel_rfl
theorem alH (pre:EP->Bool) (F:EP->OT ij.Y) (hF:∀ (x:EP) oy,pre x=true->(F x).run=some oy->(acF (x.1.1)).run=some oy):aa Tryz.prog 131 (ij.aD pre F):=
 aB al D5 aeZ (f:=131) (fn:=Tryz.f131) (c:=ak Tryz.f131) (by kernel_rfl) (by kernel_rfl) (by kernel_rfl) (S:=ij) (k:=0) (by kernel_rfl) (λR hR=>ae) (n:=1000) (sel:=WY) (λv o h=>by cases h;rfl) (pre:=pre) (F:=F) (T:=λx=>acF (x.1.1)) (λx Q=>aEb x Q) hF
def WZ (_:EP):Bool:=true
def ar6 (x:EP):OT ij.Y:=.br (au x.1.1) (.ok ⟨pb,(((aS x.1.1.toNat).2.1,((0:Int),())),())⟩) (.ok ⟨pb,(((0:Int),((20:Int),())),())⟩)
theorem aiv:aa Tryz.prog 131 (ij.aD WZ ar6):=alH _ _ λx oy _ ho=>by
 rw [<-ho]
 clear ho
 obtain ⟨⟨s,⟨⟩⟩,⟨⟩⟩:=x
 rcases (Bool.eq_false_or_eq_true (au s)).symm with hs|hs
 ·refine Eq.trans ?_ (OT.aq (b:=au s) hs).symm
  by_cases h0:s<0
  ·exact OT.az (decide_eq_true h0)
  ·refine (OT.aq (decide_eq_false h0)).trans (OT.az (decide_eq_true ?_))
   show (3:Int)<s
   simp only [au,Bool.and_eq_false_iff,decide_eq_false_iff_not] at hs
   omega
 ·rcases ca hs with h|h|h|h
  all_goals
   have h:s=_:=h
   subst h
   rfl
def CC:bw:=(ij.aD WZ ar6)
theorem acE:aa Tryz.prog 131 CC:=aiv
theorem acD:aC CC:=ay
def L7:Env:=aw 131 CC L0
theorem D9:aK Tryz.prog L7:=af acE D5
theorem FL:ar L7:=ab acD FH
theorem ae1:aO Tryz.prog te L7:=aE follows al D9 FL
def jN:ap:=⟨[.val false .int],[],true,0,false⟩
abbrev OZ:Type:=((Int)×Unit)×(Unit)
def yX:av:=⟨[.val false .u64],[],false⟩
def WK:SV->Option av:=λ_=>some yX
def acp (a0:Int):OT jN.Y:=
 (.br (a0==(0:Int))
 (.ok ⟨yX,(((16513537:UInt64),()),())⟩)
 (.ok ⟨yX,(((16521217:UInt64),()),())⟩))
theorem aD9 (x:OZ) (Q:jN.Y->Prop):wpf te L7 ax 1000 Tryz.f102 (jN.inp.inj x).tm (jN.inp.inj x).hp (fnK jN WK Q) (λ_ _=>False)=(acp (x.1.1)).wpR Q:=by kernel_rfl
theorem aly (pre:OZ->Bool) (F:OZ->OT jN.Y) (hF:∀ (x:OZ) oy,pre x=true->(F x).run=some oy->(acp (x.1.1)).run=some oy):aa Tryz.prog 102 (jN.aD pre F):=
 aB al D9 ae1 (f:=102) (fn:=Tryz.f102) (c:=ak Tryz.f102) (by kernel_rfl) (by kernel_rfl) (by kernel_rfl) (S:=jN) (k:=0) (by kernel_rfl) (λR hR=>ae) (n:=1000) (sel:=WK) (λv o h=>by cases h;rfl) (pre:=pre) (F:=F) (T:=λx=>acp (x.1.1)) (λx Q=>aD9 x Q) hF
def UL (s:Int):UInt64:=cond (s==0) 16513537 16521217
def WL (_:OZ):Bool:=true
def arY (x:OZ):OT jN.Y:=.ok ⟨yX,((UL x.1.1,()),())⟩
theorem ayD:aa Tryz.prog 102 (jN.aD WL arY):=aly _ _ λx oy _ ho=>by
 rw [<-ho]
 clear ho
 obtain ⟨⟨s,⟨⟩⟩,⟨⟩⟩:=x
 show _=(OT.ok ⟨yX,((UL s,()),())⟩:OT jN.Y).run
 unfold UL
 rcases (Bool.eq_false_or_eq_true (s==0)).symm with h|h
 ·rw [h];exact OT.aq h
 ·rw [h];exact OT.az h
def Cu:bw:=(jN.aD WL arY)
theorem aco:aa Tryz.prog 102 Cu:=ayD
theorem acn:aC Cu:=ay
def D6:Env:=aw 102 Cu L7
theorem uY:aK Tryz.prog D6:=af aco D9
theorem FI:ar D6:=ab acn FL
theorem L3:aO Tryz.prog te D6:=aE follows al uY FI
def eo:ap:=⟨[.val true .elem,.val true .elem],[],true,0,false⟩
abbrev tL:Type:=((ag)×(ag)×Unit)×(Unit)
def nD:Shape:=⟨24,[(2,.ptr 0 0 0),(3,.ptr 1 0 0),(5,.val false .int)],[(0,.row .u64),(1,.row .u64)],0,true⟩
abbrev aU:Type:=((Unit)×(Unit)×(Int)×Unit)×((List (UInt64))×(List (UInt64))×Unit)
def jy:Shape:=⟨24,[(4,.val false .bool)],[],0,true⟩
abbrev ig:Type:=((Bool)×Unit)×(Unit)
def mj:Shape:=⟨24,[],[],0,true⟩
abbrev ii:Type:=(Unit)×(Unit)
def O6:SE->Option Shape:=gI [(0,mj)] (some jy)
def alG (a5:Int) (c0:List (UInt64)) (c1:List (UInt64)):OT (Sum aU aI):=
 let z0:Bool:=inB a5 4
 let z1:Bool:=decide (Int.toNat a5+0<List.length c0)
 let z2:Bool:=decide (Int.toNat a5+0<List.length c1)
 let z3:UInt64:=List.getD c0 (Int.toNat a5+0) (0:UInt64)
 let z4:UInt64:=List.getD c1 (Int.toNat a5+0) (0:UInt64)
 (.br (decide ((0:Int)<=a5))
 (gd [z0,z1,z0,z2] (.br (!z3==z4)
  (gd [z0,z1,z0,z2] (.ok (.inr ⟨(.ret,jy),((decide (z3<z4),()),())⟩)))
  (gd [inR (a5-(1:Int))] (.ok (.inl (((),((),(a5-(1:Int),()))),(c0,(c1,()))))))))
 (.ok (.inr ⟨(.exit 0,mj),((),())⟩)))
def fO (s:aU):OT (Sum aU aI):=alG (s.1.2.2.1) (s.2.1) (s.2.2.1)
theorem alD (s:aU) (Q:Sum aU aI->Prop):wps te D6 ax 1000 (bg (ak Tryz.f99) 0) (nD.inj s) (cz nD O6 (Q:Sum nD.T aI->Prop))=(fO s).wpR Q:=by kernel_rfl
def nE (g0_r:aU->ig) (c0_r:aU->Bool) (g0_0:aU->ii) (s:aU):OT aI:=(.br (c0_r s) (.ok ⟨(.ret,jy),g0_r s⟩) (.ok ⟨(.exit 0,mj),g0_0 s⟩))
def kj:av:=⟨[.val false .bool],[],false⟩
def IR:SV->Option av:=λ_=>some kj
def IW (ok0:aU->Bool) (g0_r:aU->ig) (c0_r:aU->Bool) (g0_0:aU->ii) (a0:ag) (a1:ag):OT eo.Y:=
 let z0:(PUnit×PUnit×Int×PUnit)×List UInt64×List UInt64×PUnit:=(((),(),(3:Int),()),[a0.w0,a0.w1,a0.w2,a0.w3],[a1.w0,a1.w1,a1.w2,a1.w3],())
 (gd [ok0 z0] (.br (c0_r z0)
 (.ok ⟨kj,(((g0_r z0).fst.fst,()),())⟩)
 (.ok ⟨kj,((false,()),())⟩)))
theorem ar4 (ok0:aU->Bool) (g0_r:aU->ig) (c0_r:aU->Bool) (g0_0:aU->ii) (x:tL) (Q:eo.Y->Prop):wpf te D6 (be 0 (cE nD 0 ok0 (nE g0_r c0_r g0_0)) ax) 1000 Tryz.f99 (eo.inp.inj x).tm (eo.inp.inj x).hp (fnK eo IR Q) (λ_ _=>False)=(IW ok0 g0_r c0_r g0_0 (x.1.1) (x.1.2.1)).wpR Q:=by kernel_rfl
theorem WU (ok0:aU->Bool) (g0_r:aU->ig) (c0_r:aU->Bool) (g0_0:aU->ii) (h0:∀ s:aU,ok0 s=true->∃ m e,aA (fO) m s=some e/\(nE g0_r c0_r g0_0 s).run=some e) (pre:tL->Bool) (F:tL->OT eo.Y) (hF:∀ (x:tL) oy,pre x=true->(F x).run=some oy->(IW ok0 g0_r c0_r g0_0 (x.1.1) (x.1.2.1)).run=some oy):aa Tryz.prog 99 (eo.aD pre F):=
 aB al uY L3 (f:=99) (fn:=Tryz.f99) (c:=ak Tryz.f99) (by kernel_rfl) (by kernel_rfl) (by kernel_rfl) (S:=eo) (k:=0) (by kernel_rfl) (λR hR=>(aG (c:=(ak Tryz.f99)) (by kernel_rfl) (id:=0) (by kernel_rfl) (ba al uY L3 (sh:=nD) hR (xs:=O6) (aF (by kernel_rfl) (by kernel_rfl) hR) aN ae (n:=1000) (T:=fO) (λs Q=>alD s Q) (ok:=ok0) (f:=nE g0_r c0_r g0_0) h0) ae)) (n:=1000) (sel:=IR) (λv o h=>by cases h;rfl) (pre:=pre) (F:=F) (T:=λx=>IW ok0 g0_r c0_r g0_0 (x.1.1) (x.1.2.1)) (λx Q=>ar4 ok0 g0_r c0_r g0_0 x Q) hF
theorem qf {x y N M:Nat} (hx:x<18446744073709551616) (hy:y<18446744073709551616) (h:¬N=M):(x+18446744073709551616*N<y+18446744073709551616*M ↔ N<M)/\¬x+18446744073709551616*N=y+18446744073709551616*M:=by
 omega
theorem Pv {x y N:Nat}:(x+18446744073709551616*N<y+18446744073709551616*N ↔ x<y)/\(¬x=y->¬x+18446744073709551616*N=y+18446744073709551616*N):=by
 omega
theorem sA {n m:Nat} {x y:UInt64} (h:n<m ↔ x.toNat<y.toNat):decide (x<y)=Nat.blt n m:=by
 have h1:Nat.blt n m=true ↔ n<m:=⟨dW,λh=>Nat.ble_eq_true_of_le h⟩
 rw [Bool.eq_iff_iff,decide_eq_true_iff,h1,h,UInt64.lt_iff_toNat_lt]
theorem CQ {x y:UInt64} (h:¬x=y):¬x.toNat=y.toNat:=λe=>h (UInt64.toNat_inj.1 e)
def dH (a b:ag) (i:Int):aU:=(((),(),i,()),(lst a,lst b,()))
theorem uA (a b:ag) (k:Nat) (hk:k<4) (h:(lst a).getD k 0=(lst b).getD k 0):(fO (dH a b (k:Int))).run=some (.inl (dH a b ((k:Int)-1))):=by
 refine (OT.az (decide_eq_true (by dsimp only [dH];omega))).trans ((aj ?_).trans ((OT.aq ?_).trans ((aj ?_).trans rfl)))
 ·simp only [dH,Int.toNat_natCast,Nat.add_zero,cr,List.all_cons,List.all_nil,Bool.and_true,Bool.and_eq_true]
  exact ⟨aM (by omega),decide_eq_true hk,aM (by omega),decide_eq_true hk⟩
 ·simp only [dH,Int.toNat_natCast,Nat.add_zero,h,beq_self_eq_true,Bool.not_true]
 ·simp only [dH,List.all_cons,List.all_nil,Bool.and_true]
  exact aL (by omega)
theorem mF (a b:ag) (k:Nat) (hk:k<4) (h:¬(lst a).getD k 0=(lst b).getD k 0):(fO (dH a b (k:Int))).run=some (.inr ⟨(.ret,jy),((decide ((lst a).getD k 0<(lst b).getD k 0),()),())⟩):=by
 refine (OT.az (decide_eq_true (by dsimp only [dH];omega))).trans ((aj ?_).trans ((OT.az ?_).trans ((aj ?_).trans ?_)))
 ·simp only [dH,Int.toNat_natCast,Nat.add_zero,cr,List.all_cons,List.all_nil,Bool.and_true,Bool.and_eq_true]
  exact ⟨aM (by omega),decide_eq_true hk,aM (by omega),decide_eq_true hk⟩
 ·simp only [dH,Int.toNat_natCast,Nat.add_zero,beq_eq_false_iff_ne.2 h,Bool.not_false]
 ·simp only [dH,Int.toNat_natCast,Nat.add_zero,cr,List.all_cons,List.all_nil,Bool.and_true,Bool.and_eq_true]
  exact ⟨aM (by omega),decide_eq_true hk,aM (by omega),decide_eq_true hk⟩
 ·simp only [dH,Int.toNat_natCast,Nat.add_zero]
  rfl
def IV (s:aU):Bool:=decide (s.1.2.2.1=3/\s.2.1.length=4/\s.2.2.1.length=4)
def Cz (s:aU):ig:=((Nat.blt (elemOf s.2.1).nat (elemOf s.2.2.1).nat,()),())
def lm (s:aU):Bool:= !eqE (elemOf s.2.1) (elemOf s.2.2.1)
def CA (_:aU):ii:=((),())
theorem zQ {a b:ag} (h:¬a=b) {r:Bool} (hr:r=Nat.blt a.nat b.nat) (hm:∃ m,aA fO m (dH a b 3)=some ⟨(.ret,jy),((r,()),())⟩):
 ∃ m e,aA fO m (dH a b 3)=some e/\(nE Cz lm CA (dH a b 3)).run=some e:=by
 obtain ⟨m,hm⟩:=hm
 refine ⟨m,_,hm,?_⟩
 have hc:lm (dH a b 3)=true:=by
  show (!eqE a b)=true
  rw [Bool.eq_false_iff.2 λe=>h (wM.1 e)]
  rfl
 subst hr
 exact OT.az hc
theorem alF:∀ s:aU,IV s=true->∃ m e,aA fO m s=some e/\(nE Cz lm CA s).run=some e:=by
 rintro ⟨⟨⟨⟩,⟨⟩,i,⟨⟩⟩,⟨l1,l2,⟨⟩⟩⟩ h
 have h':=of_decide_eq_true h
 dsimp only at h'
 obtain ⟨rfl,h1,h2⟩:=h'
 obtain ⟨a,rfl⟩:∃ a,l1=lst a:=⟨elemOf l1,(aP h1).symm⟩
 obtain ⟨b,rfl⟩:∃ a,l2=lst a:=⟨elemOf l2,(aP h2).symm⟩
 have ha0:=a.w0.toNat_lt
 have hb0:=b.w0.toNat_lt
 have ha1:=a.w1.toNat_lt
 have hb1:=b.w1.toNat_lt
 have ha2:=a.w2.toNat_lt
 have hb2:=b.w2.toNat_lt
 by_cases h3:a.w3=b.w3
 ·have s3:=uA a b 3 (by omega) h3
  by_cases h2:a.w2=b.w2
  ·have s2:=uA a b 2 (by omega) h2
   by_cases h1:a.w1=b.w1
   ·have s1:=uA a b 1 (by omega) h1
    by_cases h0:a.w0=b.w0
    ·have s0:=uA a b 0 (by omega) h0
     have e:a=b:=by cases a;cases b;simp_all
     have sx:(fO (dH a b (((0:Nat):Int)-1))).run=some (.inr ⟨(.exit 0,mj),((),())⟩):=OT.aq (decide_eq_false (by dsimp only [dH];omega))
     refine ⟨_,_,aJ s3 (aJ s2 (aJ s1 (aJ s0 (bc sx)))),?_⟩
     have hc:lm (((),(),3,()),(lst a,lst b,()))=false:=by
      show (!eqE a b)=false
      rw [e,ajz]
      rfl
     exact OT.aq hc
    ·refine zQ (λe=>h0 (by rw [e])) (sA ?_) ⟨_,aJ s3 (aJ s2 (aJ s1 (bc (mF a b 0 (by omega) h0))))⟩
     show a.nat<b.nat ↔ a.w0.toNat<b.w0.toNat
     unfold Sx.ag.nat
     rw [h3,h2,h1]
     exact Pv.1
   ·refine zQ (λe=>h1 (by rw [e])) (sA ?_) ⟨_,aJ s3 (aJ s2 (bc (mF a b 1 (by omega) h1)))⟩
    show a.nat<b.nat ↔ a.w1.toNat<b.w1.toNat
    unfold Sx.ag.nat
    rw [h3,h2]
    have k:=Pv (x:=a.w1.toNat) (y:=b.w1.toNat) (N:=b.w2.toNat+18446744073709551616*b.w3.toNat)
    exact (qf ha0 hb0 (k.2 (CQ h1))).1.trans k.1
  ·refine zQ (λe=>h2 (by rw [e])) (sA ?_) ⟨_,aJ s3 (bc (mF a b 2 (by omega) h2))⟩
   show a.nat<b.nat ↔ a.w2.toNat<b.w2.toNat
   unfold Sx.ag.nat
   rw [h3]
   have k:=Pv (x:=a.w2.toNat) (y:=b.w2.toNat) (N:=b.w3.toNat)
   have k1:=qf ha1 hb1 (k.2 (CQ h2))
   exact (qf ha0 hb0 k1.2).1.trans (k1.1.trans k.1)
 ·refine zQ (λe=>h3 (by rw [e])) (sA ?_) ⟨_,bc (mF a b 3 (by omega) h3)⟩
  show a.nat<b.nat ↔ a.w3.toNat<b.w3.toNat
  unfold Sx.ag.nat
  have k2:=qf ha2 hb2 (CQ h3)
  have k1:=qf ha1 hb1 k2.2
  exact (qf ha0 hb0 k1.2).1.trans (k1.1.trans k2.1)
def IU (_:tL):Bool:=true
def WV (x:tL):OT eo.Y:=.ok ⟨kj,((Nat.blt x.1.1.nat x.1.2.1.nat,()),())⟩
theorem alE:aa Tryz.prog 99 (eo.aD IU WV):=WU IV Cz lm CA alF _ _ λx oy _ ho=>by
 rw [<-ho]
 clear ho
 obtain ⟨⟨a,b,⟨⟩⟩,⟨⟩⟩:=x
 refine (aj ?_).trans ?_
 ·simp only [List.all_cons,List.all_nil,Bool.and_true]
  exact decide_eq_true ⟨rfl,rfl,rfl⟩
 ·rcases (Bool.eq_false_or_eq_true (eqE a b)).symm with h|h
  ·have hc:lm (((),(),3,()),(lst a,lst b,()))=true:=by
    show (!eqE a b)=true
    rw [h]
    rfl
   exact OT.az hc
  ·have hc:lm (((),(),3,()),(lst a,lst b,()))=false:=by
    show (!eqE a b)=false
    rw [h]
    rfl
   refine (OT.aq hc).trans ?_
   have e:Nat.blt a.nat b.nat=false:=by
    rw [wM.1 h]
    cases hb:Nat.blt b.nat b.nat
    ·rfl
    ·exact absurd (dW hb) (Nat.lt_irrefl _)
   show (OT.ok ⟨kj,((false,()),())⟩:OT eo.Y).run=(OT.ok ⟨kj,((Nat.blt a.nat b.nat,()),())⟩:OT eo.Y).run
   rw [e]
def rc:bw:=(eo.aD IU WV)
theorem Sg:aa Tryz.prog 99 rc:=alE
theorem Sf:aC rc:=ay
def ot:Env:=aw 99 rc D6
theorem mH:aK Tryz.prog ot:=af Sg uY
theorem vB:ar ot:=ab Sf FI
theorem AQ:aO Tryz.prog te ot:=aE follows al mH vB
def fv:ap:=⟨[.val true .elem,.val true .elem],[],true,0,false⟩
abbrev tH:Type:=((ag)×(ag)×Unit)×(Unit)
def nu:Shape:=⟨39,[(2,.ptr 0 0 0),(3,.ptr 1 0 0),(4,.ptr 2 0 0),(5,.ptr 3 0 0),(6,.val false .u64),(7,.val false .int)],[(0,.row .u64),(1,.row .u64),(2,.row .u64),(3,.row .u64)],0,true⟩
abbrev bI:Type:=((Unit)×(Unit)×(Unit)×(Unit)×(UInt64)×(Int)×Unit)×((List (UInt64))×(List (UInt64))×(List (UInt64))×(List (UInt64))×Unit)
def mh:Shape:=⟨39,[(4,.ptr 0 0 0),(5,.ptr 1 0 0)],[(0,.row .u64),(1,.row .u64)],0,true⟩
abbrev ia:Type:=((Unit)×(Unit)×Unit)×((List (UInt64))×(List (UInt64))×Unit)
def OX:SE->Option Shape:=gI [(0,mh)] none
def alx (a6:UInt64) (a7:Int) (c0:List (UInt64)) (c1:List (UInt64)) (c2:List (UInt64)) (c3:List (UInt64)):OT (Sum bI aI):=
 let z0:Bool:=inB a7 4
 let z1:Bool:=decide (Int.toNat a7+0<List.length c0)
 let z2:Bool:=decide (Int.toNat a7+0<List.length c1)
 let z3:UInt64:=List.getD c0 (Int.toNat a7+0) (0:UInt64)
 let z4:UInt64:=List.getD c1 (Int.toNat a7+0) (0:UInt64)
 let z5:Bool:=inR (a7+(1:Int))
 let z6:UInt64:=z3-z4
 let z7:List UInt64:=List.set c3 (Int.toNat a7+0) (z6-a6)
 (.br (decide (a7<(4:Int)))
 (gd [z0,z1,z0,z2,z0,decide (Int.toNat a7+0<List.length c3),z0,z1,z0,z2] (.br (decide (z3<z4))
  (gd [z5] (.ok (.inl (((),((),((),((),((1:UInt64),(a7+(1:Int),())))))),(c0,(c1,(c2,(z7,()))))))))
  (.br (decide (z6<a6))
   (gd [z5] (.ok (.inl (((),((),((),((),((1:UInt64),(a7+(1:Int),())))))),(c0,(c1,(c2,(z7,()))))))))
   (gd [z5] (.ok (.inl (((),((),((),((),((0:UInt64),(a7+(1:Int),())))))),(c0,(c1,(c2,(z7,())))))))))))
 (.ok (.inr ⟨(.exit 0,mh),(((),((),())),(c2,(c3,())))⟩)))
def nv (s:bI):OT (Sum bI aI):=alx (s.1.2.2.2.2.1) (s.1.2.2.2.2.2.1) (s.2.1) (s.2.2.1) (s.2.2.2.1) (s.2.2.2.2.1)
theorem alu (s:bI) (Q:Sum bI aI->Prop):wps te ot ax 1000 (bg (ak Tryz.f103) 0) (nu.inj s) (cz nu OX (Q:Sum nu.T aI->Prop))=(nv s).wpR Q:=by kernel_rfl
def tG (g0_0:bI->ia) (s:bI):OT aI:=(.ok ⟨(.exit 0,mh),g0_0 s⟩)
def Ct:av:=⟨[.val true .elem],[],false⟩
def IB:SV->Option av:=λ_=>some Ct
def IE (ok0:bI->Bool) (g0_0:bI->ia) (a0:ag) (a1:ag):OT fv.Y:=
 let z0:(PUnit×PUnit×PUnit×PUnit×UInt64×Int×PUnit)×List UInt64×List UInt64×List UInt64×List UInt64×PUnit:=(((),(),(),(),(0:UInt64),(0:Int),()),[a0.w0,a0.w1,a0.w2,a0.w3],[a1.w0,a1.w1,a1.w2,a1.w3],[(0:UInt64),(0:UInt64),(0:UInt64),(0:UInt64)],[(0:UInt64),(0:UInt64),(0:UInt64),(0:UInt64)],())
 let z1:=(g0_0 z0).snd
 let z2:=z1.snd.fst
 let z3:=z1.fst
 let z4:List UInt64:=lay z3 z2 4 (0:UInt64)
 (gd [ok0 z0,decide (4<=List.length z2),decide ((4/1:Nat)+0<=List.length z3),decide (4<=List.length z4)] (.ok ⟨Ct,(({w0:=List.getD z4 0 0,w1:=List.getD z4 1 0,w2:=List.getD z4 2 0,w3:=List.getD z4 3 0},()),())⟩))
theorem arX (ok0:bI->Bool) (g0_0:bI->ia) (x:tH) (Q:fv.Y->Prop):wpf te ot (be 0 (cE nu 0 ok0 (tG g0_0)) ax) 1000 Tryz.f103 (fv.inp.inj x).tm (fv.inp.inj x).hp (fnK fv IB Q) (λ_ _=>False)=(IE ok0 g0_0 (x.1.1) (x.1.2.1)).wpR Q:=by kernel_rfl
theorem WJ (ok0:bI->Bool) (g0_0:bI->ia) (h0:∀ s:bI,ok0 s=true->∃ m e,aA (nv) m s=some e/\(tG g0_0 s).run=some e) (pre:tH->Bool) (F:tH->OT fv.Y) (hF:∀ (x:tH) oy,pre x=true->(F x).run=some oy->(IE ok0 g0_0 (x.1.1) (x.1.2.1)).run=some oy):aa Tryz.prog 103 (fv.aD pre F):=
 aB al mH AQ (f:=103) (fn:=Tryz.f103) (c:=ak Tryz.f103) (by kernel_rfl) (by kernel_rfl) (by kernel_rfl) (S:=fv) (k:=0) (by kernel_rfl) (λR hR=>(aG (c:=(ak Tryz.f103)) (by kernel_rfl) (id:=0) (by kernel_rfl) (ba al mH AQ (sh:=nu) hR (xs:=OX) (aF (by kernel_rfl) (by kernel_rfl) hR) aN ae (n:=1000) (T:=nv) (λs Q=>alu s Q) (ok:=ok0) (f:=tG g0_0) h0) ae)) (n:=1000) (sel:=IB) (λv o h=>by cases h;rfl) (pre:=pre) (F:=F) (T:=λx=>IE ok0 g0_0 (x.1.1) (x.1.2.1)) (λx Q=>arX ok0 g0_0 x Q) hF
theorem Ps {x y c:UInt64} (hc:c.toNat<=1):x-y-c=oO x y c:=by
 have hx:=x.toNat_lt
 have hy:=y.toNat_lt
 unfold oO
 rw [<-UInt64.toNat_inj,UInt64.toNat_sub,UInt64.toNat_sub,UInt64.toNat_ofNat']
 omega
theorem aiJ {x y c:UInt64} (h:x<y):UJ x y c=1:=by
 have h:=UInt64.lt_iff_toNat_lt.1 h
 rw [<-UInt64.toNat_inj,yi,if_pos (by omega)]
 rfl
theorem aiI {x y c:UInt64} (h:¬x<y) (hc:x-y<c):UJ x y c=1:=by
 have hx:=x.toNat_lt
 have h:¬x.toNat<y.toNat:=λe=>h (UInt64.lt_iff_toNat_lt.2 e)
 have hc:=UInt64.lt_iff_toNat_lt.1 hc
 rw [UInt64.toNat_sub] at hc
 rw [<-UInt64.toNat_inj,yi,if_pos (by omega)]
 rfl
theorem aiH {x y c:UInt64} (h:¬x<y) (hc:¬x-y<c):UJ x y c=0:=by
 have hx:=x.toNat_lt
 have h:¬x.toNat<y.toNat:=λe=>h (UInt64.lt_iff_toNat_lt.2 e)
 have hc:¬(x-y).toNat<c.toNat:=λe=>hc (UInt64.lt_iff_toNat_lt.2 e)
 rw [UInt64.toNat_sub] at hc
 rw [<-UInt64.toNat_inj,yi,if_neg (by omega)]
 rfl
def ID (s:bI):Bool:=decide (s.1.2.2.2.2.1=0/\s.1.2.2.2.2.2.1=0/\s.2.1.length=4/\s.2.2.1.length=4/\s.2.2.2.2.1= [0,0,0,0])
def OY (s:bI):ia:=(((),(),()),(s.2.2.2.1,(upto (vd s.2.1 s.2.2.1) ([0,0,0,0],0) 4).1,()))
theorem alw:∀ s:bI,ID s=true->∃ m e,aA nv m s=some e/\(tG OY s).run=some e:=by
 rintro ⟨⟨⟨⟩,⟨⟩,⟨⟩,⟨⟩,c,i,⟨⟩⟩,⟨c0,c1,c2,c3,⟨⟩⟩⟩ h
 have h':=of_decide_eq_true h
 dsimp only at h'
 obtain ⟨rfl,rfl,h0,h1,rfl⟩:=h'
 have:=(aR (T:=nv) (λk s=>((((),(),(),(),s.2,(k:Int),()),(c0,c1,c2,s.1,())):bI)) (vd c0 c1)
  (λs=>(⟨(.exit 0,mh),(((),(),()),(c2,s.1,()))⟩:aI)) 4 ([0,0,0,0],0) (λ_ s=>s.1.length=4/\s.2.toNat<=1) ⟨rfl,by decide⟩ (λk s hk hs=>⟨?_,?_⟩) (λs hs=> ?_)).1
 ·obtain ⟨m,hm⟩:=this
  exact ⟨m,_,hm,rfl⟩
 ·obtain ⟨o,c⟩:=s
  dsimp only at hs
  refine (OT.az (decide_eq_true (by dsimp only;omega))).trans ((aj ?_).trans ?_)
  ·simp only [Int.toNat_natCast,Nat.add_zero,h0,h1,hs.1,List.all_cons,List.all_nil,Bool.and_true,Bool.and_eq_true]
   exact ⟨aM (by omega),decide_eq_true (by omega),aM (by omega),decide_eq_true (by omega),aM (by omega),decide_eq_true (by omega),aM (by omega),decide_eq_true (by omega),aM (by omega),decide_eq_true (by omega)⟩
  ·have hi:∀ z,(gd [inR ((k:Int)+1)] z:OT (Sum bI aI)).run=z.run:=λz=>aj (by simp only [List.all_cons,List.all_nil,Bool.and_true];exact aL (by omega))
   have hw:=Ps (x:=c0.getD k 0) (y:=c1.getD k 0) hs.2
   by_cases hx:c0.getD k 0<c1.getD k 0
   ·have hk1:=aiJ (c:=c) hx
    refine (OT.az (decide_eq_true ?_)).trans ((hi _).trans ?_)
    ·simp only [Int.toNat_natCast,Nat.add_zero];exact hx
    ·simp only [OT.cI,Int.toNat_natCast,Nat.add_zero,vd,hw,hk1]
     rfl
   ·refine (OT.aq (decide_eq_false ?_)).trans ?_
    ·simp only [Int.toNat_natCast,Nat.add_zero];exact hx
    ·by_cases hd:c0.getD k 0-c1.getD k 0<c
     ·have hk2:=aiI hx hd
      refine (OT.az (decide_eq_true ?_)).trans ((hi _).trans ?_)
      ·simp only [Int.toNat_natCast,Nat.add_zero];exact hd
      ·simp only [OT.cI,Int.toNat_natCast,Nat.add_zero,vd,hw,hk2]
       rfl
     ·have hk3:=aiH hx hd
      refine (OT.aq (decide_eq_false ?_)).trans ((hi _).trans ?_)
      ·simp only [Int.toNat_natCast,Nat.add_zero];exact hd
      ·simp only [OT.cI,Int.toNat_natCast,Nat.add_zero,vd,hw,hk3]
       rfl
 ·exact ⟨by simp only [vd,List.length_set];exact hs.1,vW⟩
 ·exact OT.aq (decide_eq_false (by dsimp only;omega))
def IC (_:tH):Bool:=true
def IF (x:tH):OT fv.Y:=.ok ⟨Ct,(((ef x.1.1 x.1.2.1).1,()),())⟩
theorem alv:aa Tryz.prog 103 (fv.aD IC IF):=WJ ID OY alw _ _ λx oy hp ho=>by
 rw [<-ho]
 clear ho
 obtain ⟨⟨a,b,⟨⟩⟩,⟨⟩⟩:=x
 obtain ⟨_,hw⟩:=Bv a b
 refine (aj ?_).trans ?_
 ·simp only [List.all_cons,List.all_nil,Bool.and_true,Bool.and_eq_true]
  exact ⟨rfl,rfl,rfl,rfl⟩
 ·simp only [IF,hw]
  rfl
def q7:bw:=(fv.aD IC IF)
theorem R7:aa Tryz.prog 103 q7:=alv
theorem R6:aC q7:=ay
def oo:Env:=aw 103 q7 ot
theorem mG:aK Tryz.prog oo:=af R7 mH
theorem vz:ar oo:=ab R6 vB
theorem AO:aO Tryz.prog te oo:=aE follows al mG vz
def hY:ap:=⟨[.val true .elem,.val true .elem],[],true,0,false⟩
abbrev Co:Type:=((ag)×(ag)×Unit)×(Unit)
def qY:Shape:=⟨39,[(2,.ptr 0 0 0),(3,.ptr 1 0 0),(4,.ptr 2 0 0),(5,.ptr 3 0 0),(6,.val false .u64),(7,.val false .int)],[(0,.row .u64),(1,.row .u64),(2,.row .u64),(3,.row .u64)],0,true⟩
abbrev b8:Type:=((Unit)×(Unit)×(Unit)×(Unit)×(UInt64)×(Int)×Unit)×((List (UInt64))×(List (UInt64))×(List (UInt64))×(List (UInt64))×Unit)
def oY:Shape:=⟨39,[(4,.ptr 0 0 0),(5,.ptr 1 0 0)],[(0,.row .u64),(1,.row .u64)],0,true⟩
abbrev jv:Type:=((Unit)×(Unit)×Unit)×((List (UInt64))×(List (UInt64))×Unit)
def Ww:SE->Option Shape:=gI [(0,oY)] none
def arM (a6:UInt64) (a7:Int) (c0:List (UInt64)) (c1:List (UInt64)) (c2:List (UInt64)) (c3:List (UInt64)):OT (Sum b8 aI):=
 let z0:Bool:=inB a7 4
 let z1:Bool:=decide (Int.toNat a7+0<List.length c0)
 let z2:UInt64:=List.getD c0 (Int.toNat a7+0) (0:UInt64)
 let z3:UInt64:=z2+List.getD c1 (Int.toNat a7+0) (0:UInt64)
 let z4:Bool:=inR (a7+(1:Int))
 let z5:List UInt64:=List.set c3 (Int.toNat a7+0) (z3+a6)
 (.br (decide (a7<(4:Int)))
 (gd [z0,z1,z0,decide (Int.toNat a7+0<List.length c1),z0,decide (Int.toNat a7+0<List.length c3),z0,z1] (.br (decide (z3<z2))
  (gd [z4] (.ok (.inl (((),((),((),((),((1:UInt64),(a7+(1:Int),())))))),(c0,(c1,(c2,(z5,()))))))))
  (gd [z0,decide (Int.toNat a7+0<List.length z5)] (.br (decide (List.getD z5 (Int.toNat a7+0) (0:UInt64)<z3))
   (gd [z4] (.ok (.inl (((),((),((),((),((1:UInt64),(a7+(1:Int),())))))),(c0,(c1,(c2,(z5,()))))))))
   (gd [z4] (.ok (.inl (((),((),((),((),((0:UInt64),(a7+(1:Int),())))))),(c0,(c1,(c2,(z5,()))))))))))))
 (.ok (.inr ⟨(.exit 0,oY),(((),((),())),(c2,(c3,())))⟩)))
def qZ (s:b8):OT (Sum b8 aI):=arM (s.1.2.2.2.2.1) (s.1.2.2.2.2.2.1) (s.2.1) (s.2.2.1) (s.2.2.2.1) (s.2.2.2.2.1)
theorem arJ (s:b8) (Q:Sum b8 aI->Prop):wps te oo ax 1000 (bg (ak Tryz.f133) 0) (qY.inj s) (cz qY Ww (Q:Sum qY.T aI->Prop))=(qZ s).wpR Q:=by kernel_rfl
def yT (g0_0:b8->jv) (s:b8):OT aI:=(.ok ⟨(.exit 0,oY),g0_0 s⟩)
def It:av:=⟨[.val true .elem],[],false⟩
def OP:SV->Option av:=λ_=>some It
def RW (ok0:b8->Bool) (g0_0:b8->jv) (a0:ag) (a1:ag):OT hY.Y:=
 let z0:(PUnit×PUnit×PUnit×PUnit×UInt64×Int×PUnit)×List UInt64×List UInt64×List UInt64×List UInt64×PUnit:=(((),(),(),(),(0:UInt64),(0:Int),()),[a0.w0,a0.w1,a0.w2,a0.w3],[a1.w0,a1.w1,a1.w2,a1.w3],[(0:UInt64),(0:UInt64),(0:UInt64),(0:UInt64)],[(0:UInt64),(0:UInt64),(0:UInt64),(0:UInt64)],())
 let z1:=(g0_0 z0).snd
 let z2:=z1.snd.fst
 let z3:=z1.fst
 let z4:List UInt64:=lay z3 z2 4 (0:UInt64)
 (gd [ok0 z0,decide (4<=List.length z2),decide ((4/1:Nat)+0<=List.length z3),decide (4<=List.length z4)] (.ok ⟨It,(({w0:=List.getD z4 0 0,w1:=List.getD z4 1 0,w2:=List.getD z4 2 0,w3:=List.getD z4 3 0},()),())⟩))
theorem ayx (ok0:b8->Bool) (g0_0:b8->jv) (x:Co) (Q:hY.Y->Prop):wpf te oo (be 0 (cE qY 0 ok0 (yT g0_0)) ax) 1000 Tryz.f133 (hY.inp.inj x).tm (hY.inp.inj x).hp (fnK hY OP Q) (λ_ _=>False)=(RW ok0 g0_0 (x.1.1) (x.1.2.1)).wpR Q:=by kernel_rfl
theorem ab3 (ok0:b8->Bool) (g0_0:b8->jv) (h0:∀ s:b8,ok0 s=true->∃ m e,aA (qZ) m s=some e/\(yT g0_0 s).run=some e) (pre:Co->Bool) (F:Co->OT hY.Y) (hF:∀ (x:Co) oy,pre x=true->(F x).run=some oy->(RW ok0 g0_0 (x.1.1) (x.1.2.1)).run=some oy):aa Tryz.prog 133 (hY.aD pre F):=
 aB al mG AO (f:=133) (fn:=Tryz.f133) (c:=ak Tryz.f133) (by kernel_rfl) (by kernel_rfl) (by kernel_rfl) (S:=hY) (k:=0) (by kernel_rfl) (λR hR=>(aG (c:=(ak Tryz.f133)) (by kernel_rfl) (id:=0) (by kernel_rfl) (ba al mG AO (sh:=qY) hR (xs:=Ww) (aF (by kernel_rfl) (by kernel_rfl) hR) aN ae (n:=1000) (T:=qZ) (λs Q=>arJ s Q) (ok:=ok0) (f:=yT g0_0) h0) ae)) (n:=1000) (sel:=OP) (λv o h=>by cases h;rfl) (pre:=pre) (F:=F) (T:=λx=>RW ok0 g0_0 (x.1.1) (x.1.2.1)) (λx Q=>ayx ok0 g0_0 x Q) hF
theorem aso {x y c:UInt64}:x+y+c=vi x y c:=by
 have hx:=x.toNat_lt
 have hy:=y.toNat_lt
 unfold vi
 rw [<-UInt64.toNat_inj,UInt64.toNat_add,UInt64.toNat_add,UInt64.toNat_ofNat']
 omega
theorem Ug {x y c:UInt64} (hc:c.toNat<=1):(xB x y c).toNat=(x.toNat+y.toNat+c.toNat)/18446744073709551616:=by
 have hx:=x.toNat_lt
 have hy:=y.toNat_lt
 unfold xB
 rw [UInt64.toNat_ofNat']
 omega
theorem aEj {x y c:UInt64} (hc:c.toNat<=1) (h:x+y<x):xB x y c=1:=by
 have hx:=x.toNat_lt
 have hy:=y.toNat_lt
 have h:=UInt64.lt_iff_toNat_lt.1 h
 rw [UInt64.toNat_add] at h
 rw [<-UInt64.toNat_inj,Ug hc,show (1:UInt64).toNat=1 from rfl]
 omega
theorem aEi {x y c:UInt64} (hc:c.toNat<=1) (h:¬x+y<x) (h2:x+y+c<x+y):xB x y c=1:=by
 have hx:=x.toNat_lt
 have hy:=y.toNat_lt
 have h:¬(x+y).toNat<x.toNat:=λe=>h (UInt64.lt_iff_toNat_lt.2 e)
 have h2:=UInt64.lt_iff_toNat_lt.1 h2
 rw [UInt64.toNat_add] at h
 rw [UInt64.toNat_add,UInt64.toNat_add] at h2
 rw [<-UInt64.toNat_inj,Ug hc,show (1:UInt64).toNat=1 from rfl]
 omega
theorem aEh {x y c:UInt64} (hc:c.toNat<=1) (h:¬x+y<x) (h2:¬x+y+c<x+y):xB x y c=0:=by
 have hx:=x.toNat_lt
 have hy:=y.toNat_lt
 have h:¬(x+y).toNat<x.toNat:=λe=>h (UInt64.lt_iff_toNat_lt.2 e)
 have h2:¬(x+y+c).toNat<(x+y).toNat:=λe=>h2 (UInt64.lt_iff_toNat_lt.2 e)
 rw [UInt64.toNat_add] at h
 rw [UInt64.toNat_add,UInt64.toNat_add] at h2
 rw [<-UInt64.toNat_inj,Ug hc,show (0:UInt64).toNat=0 from rfl]
 omega
def OR (s:b8):Bool:=decide (s.1.2.2.2.2.1=0/\s.1.2.2.2.2.2.1=0/\s.2.1.length=4/\s.2.2.1.length=4/\s.2.2.2.2.1= [0,0,0,0])
def Wz (s:b8):jv:=(((),(),()),(s.2.2.2.1,(upto (Nw s.2.1 s.2.2.1) ([0,0,0,0],0) 4).1,()))
theorem arL:∀ s:b8,OR s=true->∃ m e,aA qZ m s=some e/\(yT Wz s).run=some e:=by
 rintro ⟨⟨⟨⟩,⟨⟩,⟨⟩,⟨⟩,c,i,⟨⟩⟩,⟨c0,c1,c2,c3,⟨⟩⟩⟩ h
 have h':=of_decide_eq_true h
 dsimp only at h'
 obtain ⟨rfl,rfl,h0,h1,rfl⟩:=h'
 have:=(aR (T:=qZ) (λk s=>((((),(),(),(),s.2,(k:Int),()),(c0,c1,c2,s.1,())):b8)) (Nw c0 c1)
  (λs=>(⟨(.exit 0,oY),(((),(),()),(c2,s.1,()))⟩:aI)) 4 ([0,0,0,0],0) (λ_ s=>s.1.length=4/\s.2.toNat<=1) ⟨rfl,by decide⟩ (λk s hk hs=>⟨?_,?_⟩) (λs hs=> ?_)).1
 ·obtain ⟨m,hm⟩:=this
  exact ⟨m,_,hm,rfl⟩
 ·obtain ⟨o,c⟩:=s
  dsimp only at hs
  refine (OT.az (decide_eq_true (by dsimp only;omega))).trans ((aj ?_).trans ?_)
  ·simp only [Int.toNat_natCast,Nat.add_zero,h0,h1,hs.1,List.all_cons,List.all_nil,Bool.and_true,Bool.and_eq_true]
   exact ⟨aM (by omega),decide_eq_true (by omega),aM (by omega),decide_eq_true (by omega),aM (by omega),decide_eq_true (by omega),aM (by omega),decide_eq_true (by omega)⟩
  ·have hi:∀ z,(gd [inR ((k:Int)+1)] z:OT (Sum b8 aI)).run=z.run:=λz=>aj (by simp only [List.all_cons,List.all_nil,Bool.and_true];exact aL (by omega))
   have hw:=aso (x:=c0.getD k 0) (y:=c1.getD k 0) (c:=c)
   by_cases hx:c0.getD k 0+c1.getD k 0<c0.getD k 0
   ·have hk1:=aEj hs.2 hx
    refine (OT.az (decide_eq_true ?_)).trans ((hi _).trans ?_)
    ·simp only [Int.toNat_natCast,Nat.add_zero];exact hx
    ·simp only [OT.cI,Int.toNat_natCast,Nat.add_zero,Nw,hw,hk1]
     rfl
   ·have hs2:∀ v,(o.set k v).getD k 0=v:=λv=>by
     rw [List.getD_eq_getElem?_getD,List.getElem?_set_self (by omega)]
     rfl
    refine (OT.aq (decide_eq_false ?_)).trans ((aj ?_).trans ?_)
    ·simp only [Int.toNat_natCast,Nat.add_zero];exact hx
    ·simp only [Int.toNat_natCast,Nat.add_zero,List.length_set,hs.1,List.all_cons,List.all_nil,Bool.and_true,Bool.and_eq_true]
     exact ⟨aM (by omega),decide_eq_true (by omega)⟩
    ·by_cases hd:c0.getD k 0+c1.getD k 0+c<c0.getD k 0+c1.getD k 0
     ·have hk2:=aEi hs.2 hx hd
      refine (OT.az (decide_eq_true ?_)).trans ((hi _).trans ?_)
      ·simp only [Int.toNat_natCast,Nat.add_zero,hs2];exact hd
      ·simp only [OT.cI,Int.toNat_natCast,Nat.add_zero,Nw,hw,hk2]
       rfl
     ·have hk3:=aEh hs.2 hx hd
      refine (OT.aq (decide_eq_false ?_)).trans ((hi _).trans ?_)
      ·simp only [Int.toNat_natCast,Nat.add_zero,hs2];exact hd
      ·simp only [OT.cI,Int.toNat_natCast,Nat.add_zero,Nw,hw,hk3]
       rfl
 ·exact ⟨by simp only [Nw,List.length_set];exact hs.1,DE hs.2⟩
 ·exact OT.aq (decide_eq_false (by dsimp only;omega))
def OQ (_:Co):Bool:=true
def RX (x:Co):OT hY.Y:=.ok ⟨It,(((oE x.1.1 x.1.2.1).1,()),())⟩
theorem arK:aa Tryz.prog 133 (hY.aD OQ RX):=ab3 OR Wz arL _ _ λx oy hp ho=>by
 rw [<-ho]
 clear ho
 obtain ⟨⟨a,b,⟨⟩⟩,⟨⟩⟩:=x
 obtain ⟨_,hw⟩:=NC a b
 refine (aj ?_).trans ?_
 ·simp only [List.all_cons,List.all_nil,Bool.and_true,Bool.and_eq_true]
  exact ⟨rfl,rfl,rfl,rfl⟩
 ·simp only [RX,hw]
  rfl
def wl:bw:=(hY.aD OQ RX)
theorem Wy:aa Tryz.prog 133 wl:=arK
theorem Wx:aC wl:=ay
def pR:Env:=aw 133 wl oo
theorem lV:aK Tryz.prog pR:=af Wy mG
theorem AN:ar pR:=ab Wx vz
theorem sM:aO Tryz.prog te pR:=aE follows al lV AN
def k8:ap:=⟨[.val false .int,.val true .elem],[],true,0,false⟩
abbrev WA:Type:=((Int)×(ag)×Unit)×(Unit)
def Iw:Shape:=⟨60,[(3,.ptr 0 0 0),(4,.ptr 1 0 0),(5,.val false .u64),(6,.val false .u64),(7,.val false .int)],[(0,.row .u64),(1,.row .u64)],0,true⟩
abbrev dB:Type:=((Unit)×(Unit)×(UInt64)×(UInt64)×(Int)×Unit)×((List (UInt64))×(List (UInt64))×Unit)
def yV:Shape:=⟨60,[(4,.ptr 0 0 0),(6,.val false .u64)],[(0,.row .u64)],0,true⟩
abbrev nn:Type:=((Unit)×(UInt64)×Unit)×((List (UInt64))×Unit)
def arQ:SE->Option Shape:=gI [(0,yV)] none
def aD5 (a5:UInt64) (a6:UInt64) (a7:Int) (c0:List (UInt64)) (c1:List (UInt64)):OT (Sum dB aI):=
 let z0:Bool:=inB a7 4
 let z1:Bool:=decide (Int.toNat a7+0<List.length c0)
 let z2:Bool:= !a5==(0:UInt64)
 let z3:UInt64:=List.getD c0 (Int.toNat a7+0) (0:UInt64)
 (.br (decide ((0:Int)<=a7))
 (gd [z0,z1,z2,z0,z1,z2,inR (a7-(1:Int))] (.ok (.inl (((),((),(a5,((bH ((bH a6 (32:Int)+aZ z3 (32:Int))%a5) (32:Int)+(z3&&&(4294967295:UInt64)))%a5,(a7-(1:Int),()))))),(c0,(c1,()))))))
 (.ok (.inr ⟨(.exit 0,yV),(((),(a6,())),(c1,()))⟩)))
def Iy (s:dB):OT (Sum dB aI):=aD5 (s.1.2.2.1) (s.1.2.2.2.1) (s.1.2.2.2.2.1) (s.2.1) (s.2.2.1)
theorem aD1 (s:dB) (Q:Sum dB aI->Prop):wps te pR ax 1000 (bg (ak Tryz.f62) 0) (Iw.inj s) (cz Iw arQ (Q:Sum Iw.T aI->Prop))=(Iy s).wpR Q:=by kernel_rfl
def R0 (g0_0:dB->nn) (s:dB):OT aI:=(.ok ⟨(.exit 0,yV),g0_0 s⟩)
def Iv:Shape:=⟨60,[(3,.ptr 0 0 0),(4,.ptr 1 0 0),(8,.ptr 2 0 0)],[(0,.row .u64),(1,.row .u64),(2,.row .u64)],0,true⟩
abbrev dN:Type:=((Unit)×(Unit)×(Unit)×Unit)×((List (UInt64))×(List (UInt64))×(List (UInt64))×Unit)
def yU:Shape:=⟨60,[(3,.ptr 0 0 0),(4,.ptr 1 0 0)],[(0,.row .u64),(1,.row .u64)],0,true⟩
abbrev nl:Type:=((Unit)×(Unit)×Unit)×((List (UInt64))×(List (UInt64))×Unit)
def arP:SE->Option Shape:=gI [(2,yU)] none
def aD4 (c0:List (UInt64)) (c1:List (UInt64)) (c2:List (UInt64)):OT (Sum dN aI):=
 let z0:Nat:=List.length c0
 let z1:Bool:=decide (4<=z0)
 let z2:Bool:=decide (4<=List.length c2)
 let z3:ag:= {w0:=List.getD c0 0 0,w1:=List.getD c0 1 0,w2:=List.getD c0 2 0,w3:=List.getD c0 3 0}
 let z4:ag:= {w0:=List.getD c2 0 0,w1:=List.getD c2 1 0,w2:=List.getD c2 2 0,w3:=List.getD c2 3 0}
 let z5:=(ef z3 z4).fst
 (gd [z1,z2] (.br (!Nat.blt (ag.nat z3) (ag.nat z4))
 (gd [z1,z2,decide ((4/1:Nat)+0<=z0)] (.ok (.inl (((),((),((),()))),(List.set (List.set (List.set (List.set c0 0 z5.w0) 1 z5.w1) 2 z5.w2) 3 z5.w3,(c1,(c2,())))))))
 (.ok (.inr ⟨(.exit 2,yU),(((),((),())),(c0,(c1,())))⟩))))
def Ix (s:dN):OT (Sum dN aI):=aD4 (s.2.1) (s.2.2.1) (s.2.2.2.1)
theorem aD0 (s:dN) (Q:Sum dN aI->Prop):wps te pR ax 1000 (bg (ak Tryz.f62) 2) (Iv.inj s) (cz Iv arP (Q:Sum Iv.T aI->Prop))=(Ix s).wpR Q:=by kernel_rfl
def RZ (g2_2:dN->nl) (s:dN):OT aI:=(.ok ⟨(.exit 2,yU),g2_2 s⟩)
def mR:av:=⟨[.val true .elem],[],false⟩
def aif:SV->Option av:=λ_=>some mR
def aii (ok0:dB->Bool) (g0_0:dB->nn) (ok2:dN->Bool) (g2_2:dN->nl) (a0:Int) (a1:ag):OT k8.Y:=
 let z0:(PUnit×PUnit×UInt64×UInt64×Int×PUnit)×List UInt64×List UInt64×PUnit:=(((),(),UL a0,(0:UInt64),(3:Int),()),[a1.w0,a1.w1,a1.w2,a1.w3],[(0:UInt64),(0:UInt64),(0:UInt64),(0:UInt64)],())
 let z1:Bool:=ok0 z0
 let z2:(PUnit×UInt64×PUnit)×List UInt64×PUnit:=g0_0 z0
 let z3:=z2.snd.fst
 let z4:Bool:=decide ((4/1:Nat)+0<=List.length z3)
 let z5:List UInt64:=List.set (List.set (List.set (List.set z3 0 z2.fst.snd.fst) 1 (0:UInt64)) 2 (0:UInt64)) 3 (0:UInt64)
 let z6:Bool:=decide (4<=List.length z5)
 let z7:ag:= {w0:=List.getD z5 0 0,w1:=List.getD z5 1 0,w2:=List.getD z5 2 0,w3:=List.getD z5 3 0}
 let z8:ag:=(aS (Int.toNat a0)).fst
 let z9:(PUnit×PUnit×PUnit×PUnit)×List UInt64×List UInt64×List UInt64×PUnit:=(((),(),(),()),[a1.w0,a1.w1,a1.w2,a1.w3],[(0:UInt64),(0:UInt64),(0:UInt64),(0:UInt64)],[z8.w0,z8.w1,z8.w2,z8.w3],())
 let z10:=(g2_2 z9).snd
 let z11:=z10.fst
 let z12:=z10.snd.fst
 let z13:List UInt64:=lay z12 z11 4 (0:UInt64)
 (.br (a0==(0:Int))
 (gd [z1,z4,z6] (.ok ⟨mR,((z7,()),())⟩))
 (.br (a0==(1:Int))
  (gd [z1,z4,z6] (.ok ⟨mR,((z7,()),())⟩))
  (.br (au a0)
   (gd [ok2 z9,decide (4<=List.length z11),decide ((4/1:Nat)+0<=List.length z12),decide (4<=List.length z13)] (.ok ⟨mR,(({w0:=List.getD z13 0 0,w1:=List.getD z13 1 0,w2:=List.getD z13 2 0,w3:=List.getD z13 3 0},()),())⟩))
   (.ok ⟨mR,(({w0:=0,w1:=0,w2:=0,w3:=0},()),())⟩))))
theorem aGI (ok0:dB->Bool) (g0_0:dB->nn) (ok2:dN->Bool) (g2_2:dN->nl) (x:WA) (Q:k8.Y->Prop):wpf te pR (be 2 (cE Iv 2 ok2 (RZ g2_2)) (be 0 (cE Iw 0 ok0 (R0 g0_0)) ax)) 1000 Tryz.f62 (k8.inp.inj x).tm (k8.inp.inj x).hp (fnK k8 aif Q) (λ_ _=>False)=(aii ok0 g0_0 ok2 g2_2 (x.1.1) (x.1.2.1)).wpR Q:=by kernel_rfl
theorem arS (ok0:dB->Bool) (g0_0:dB->nn) (ok2:dN->Bool) (g2_2:dN->nl) (h0:∀ s:dB,ok0 s=true->∃ m e,aA (Iy) m s=some e/\(R0 g0_0 s).run=some e) (h2:∀ s:dN,ok2 s=true->∃ m e,aA (Ix) m s=some e/\(RZ g2_2 s).run=some e) (pre:WA->Bool) (F:WA->OT k8.Y) (hF:∀ (x:WA) oy,pre x=true->(F x).run=some oy->(aii ok0 g0_0 ok2 g2_2 (x.1.1) (x.1.2.1)).run=some oy):aa Tryz.prog 62 (k8.aD pre F):=
 aB al lV sM (f:=62) (fn:=Tryz.f62) (c:=ak Tryz.f62) (by kernel_rfl) (by kernel_rfl) (by kernel_rfl) (S:=k8) (k:=0) (by kernel_rfl) (λR hR=>(aG (c:=(ak Tryz.f62)) (by kernel_rfl) (id:=2) (by kernel_rfl) (ba al lV sM (sh:=Iv) hR (xs:=arP) (aF (by kernel_rfl) (by kernel_rfl) hR) aN ae (n:=1000) (T:=Ix) (λs Q=>aD0 s Q) (ok:=ok2) (f:=RZ g2_2) h2) (aG (c:=(ak Tryz.f62)) (by kernel_rfl) (id:=0) (by kernel_rfl) (ba al lV sM (sh:=Iw) hR (xs:=arQ) (aF (by kernel_rfl) (by kernel_rfl) hR) aN ae (n:=1000) (T:=Iy) (λs Q=>aD1 s Q) (ok:=ok0) (f:=R0 g0_0) h0) ae))) (n:=1000) (sel:=aif) (λv o h=>by cases h;rfl) (pre:=pre) (F:=F) (T:=λx=>aii ok0 g0_0 ok2 g2_2 (x.1.1) (x.1.2.1)) (λx Q=>aGI ok0 g0_0 ok2 g2_2 x Q) hF
theorem aGP {r w m:Nat}:((r*4294967296+w/4294967296)%m*4294967296+w%4294967296)%m=(r*18446744073709551616+w)%m:=by
 have e:(r*4294967296+w/4294967296)*4294967296+w%4294967296=r*18446744073709551616+w:=by omega
 rw [Nat.add_mod,Nat.mul_mod,Nat.mod_mod,<-Nat.mul_mod,<-Nat.add_mod,e]
theorem aEn {r w m:UInt64} (hs:fA m=true) (hr:r.toNat<m.toNat):(bH ((bH r 32+aZ w 32)%m) 32+(w&&&4294967295))%m=YA r w m:=by
 have hm:=kR hs
 have hb:m.toNat<=16521217:=by rcases dO hs with rfl|rfl<;>decide
 have hw:=w.toNat_lt
 have e1:(bH r 32).toNat=r.toNat*4294967296:=by
  have:(bH r 32).toNat=r.toNat*2^32%2^64:=kS r 32 (by omega)
  rw [this]
  omega
 have e2:(aZ w 32).toNat=w.toNat/4294967296:=fm w 32 (by omega)
 have e3:((bH r 32+aZ w 32)%m).toNat=(r.toNat*4294967296+w.toNat/4294967296)%m.toNat:=by
  rw [UInt64.toNat_mod,UInt64.toNat_add,e1,e2,Nat.mod_eq_of_lt (a:=r.toNat*4294967296+w.toNat/4294967296) (by omega)]
 generalize (bH r 32+aZ w 32)%m=q at e3
 have hq:q.toNat<m.toNat:=by rw [e3];exact Nat.mod_lt _ hm
 have e4:(bH q 32).toNat=q.toNat*4294967296:=by
  have:(bH q 32).toNat=q.toNat*2^32%2^64:=kS q 32 (by omega)
  rw [this]
  omega
 rw [<-UInt64.toNat_inj,pB hm,UInt64.toNat_mod,UInt64.toNat_add,e4,ji,Nat.mod_eq_of_lt (a:=q.toNat*4294967296+w.toNat%4294967296) (by omega),e3,aGP]
def GA (s:dB):Bool:=decide (s.1.2.2.2.1=0/\s.1.2.2.2.2.1=3/\s.2.1.length=4)&&fA s.1.2.2.1
def ab7 (s:dB):nn:=(((),aGD s.2.1 s.1.2.2.1,()),(s.2.2.1,()))
theorem aD3:∀ s:dB,GA s=true->∃ m e,aA Iy m s=some e/\(R0 ab7 s).run=some e:=by
 rintro ⟨⟨⟨⟩,⟨⟩,sm,r,i,⟨⟩⟩,⟨c1,c2,⟨⟩⟩⟩ h
 simp only [GA,Bool.and_eq_true,decide_eq_true_eq] at h
 obtain ⟨⟨rfl,rfl,hl⟩,hs⟩:=h
 have hm:=kR hs
 have hz:(!(sm==0))=true:=by rcases dO hs with rfl|rfl<;>rfl
 have:=(aR (T:=Iy) (λk r=>((((),(),sm,r,3-(k:Int),()),(c1,c2,())):dB)) (λk r=>YA r (c1.getD (3-k) 0) sm)
  (λr=>(⟨(.exit 0,yV),(((),r,()),(c2,()))⟩:aI)) 4 0 (λ_ r=>r.toNat<sm.toNat) hm (λk r hk hr=>⟨?_,?_⟩) (λr hr=> ?_)).1
 ·obtain ⟨m,hm⟩:=this
  exact ⟨m,_,hm,rfl⟩
 ·have e1:(3-(k:Int)).toNat=3-k:=by omega
  have e2:(3:Int)-(k:Int)-1=3-((k+1:Nat):Int):=by omega
  refine (OT.az (decide_eq_true (by dsimp only;omega))).trans ((aj ?_).trans ?_)
  ·simp only [e1,Nat.add_zero,hl,hz,List.all_cons,List.all_nil,Bool.and_true,Bool.true_and,Bool.and_eq_true]
   exact ⟨aM (by omega),decide_eq_true (by omega),aM (by omega),decide_eq_true (by omega),aL (by omega)⟩
  ·simp only [OT.cI,e1,e2,Nat.add_zero,aEn hs hr]
 ·rw [pB hm]
  exact Nat.mod_lt _ hm
 ·exact OT.aq (decide_eq_false (by dsimp only;omega))
def RY (s:dN):Bool:=decide (s.2.1.length=4/\s.2.2.2.1.length=4/\0<(elemOf s.2.2.2.1).nat)
def ab6 (s:dN):nl:=(((),(),()),(lst (ofN ((elemOf s.2.1).nat%(elemOf s.2.2.2.1).nat)),s.2.2.1,()))
theorem alo {M:ag} {c2:List UInt64} (hm:0<M.nat):∀ (n:Nat) (a:ag),a.nat=n->
 ∃ m,aA Ix m (((),(),(),()),(lst a,c2,lst M,()))=some ⟨(.exit 2,yU),(((),(),()),(lst (ofN (a.nat%M.nat)),c2,()))⟩:=by
 intro n
 induction n using Nat.strongRecOn with
 |_ n ih=>
  intro a hn
  rcases (Bool.eq_false_or_eq_true (Nat.blt a.nat M.nat)).symm with hb|hb
  ·have hle:M.nat<=a.nat:=by
    rcases Nat.lt_or_ge a.nat M.nat with h|h
    ·have:Nat.blt a.nat M.nat=true:=Nat.ble_eq_true_of_le h
     rw [this] at hb;cases hb
    ·exact h
   have hd:=l9 hle
   obtain ⟨m,hm2⟩:=ih (a.nat-M.nat) (by omega) (ef a M).1 hd
   rw [hd,<-Nat.mod_eq_sub_mod hle] at hm2
   refine ⟨m+1,aJ ?_ hm2⟩
   refine (aj rfl).trans ((OT.az (b:= !Nat.blt a.nat M.nat) (by rw [hb];rfl)).trans ((aj rfl).trans rfl))
  ·have hlt:=dW hb
   rw [Nat.mod_eq_of_lt hlt,tX]
   refine ⟨1,bc ?_⟩
   exact (aj rfl).trans (OT.aq (b:= !Nat.blt a.nat M.nat) (by rw [hb];rfl))
theorem aD2:∀ s:dN,RY s=true->∃ m e,aA Ix m s=some e/\(RZ ab6 s).run=some e:=by
 rintro ⟨⟨⟨⟩,⟨⟩,⟨⟩,⟨⟩⟩,⟨l,c2,l2,⟨⟩⟩⟩ h
 have h':=of_decide_eq_true h
 dsimp only at h'
 obtain ⟨h1,h2,h3⟩:=h'
 obtain ⟨a,rfl⟩:∃ a,l=lst a:=⟨elemOf l,(aP h1).symm⟩
 obtain ⟨M,rfl⟩:∃ a,l2=lst a:=⟨elemOf l2,(aP h2).symm⟩
 obtain ⟨m,hm⟩:=alo (c2:=c2) (M:=M) h3 _ a rfl
 exact ⟨m,_,hm,rfl⟩
def ofP (p:Nat) (a:ag):ag:=ofN (a.nat%p)
def aih (_:WA):Bool:=true
def aA1 (x:WA):OT k8.Y:=.br (au x.1.1) (.ok ⟨mR,((ofP (pS x.1.1) x.1.2.1,()),())⟩) (.ok ⟨mR,((⟨0,0,0,0⟩,()),())⟩)
theorem Xn {a:ag} {p:Nat} {m:UInt64} (hp:p=m.toNat) (hs:fA m=true):(⟨aGD (lst a) m,0,0,0⟩:ag)=ofP p a:=by
 have hm:=kR hs
 unfold ofP
 rw [ah3 hs,hp,rr (n:=a.nat%m.toNat) (Nat.lt_trans (Nat.mod_lt _ hm) m.toNat_lt)]
theorem aiD {s:Int} {a:ag} (h0:(s==0)=false) (h1:(s==1)=false) (hs:au s=true):(aii GA ab7 RY ab6 s a).run=some ⟨mR,((ofP (pS s) a,()),())⟩:=by
 refine (OT.aq h0).trans ((OT.aq h1).trans ((OT.az hs).trans ((aj ?_).trans rfl)))
 simp only [List.all_cons,List.all_nil,Bool.and_true,Bool.and_eq_true]
 exact ⟨decide_eq_true ⟨rfl,rfl,(rn hs).1⟩,rfl,rfl,rfl⟩
theorem arR:aa Tryz.prog 62 (k8.aD aih aA1):=arS GA ab7 RY ab6 aD3 aD2 _ _ λx oy _ ho=>by
 rw [<-ho]
 clear ho
 obtain ⟨⟨s,a,⟨⟩⟩,⟨⟩⟩:=x
 rcases (Bool.eq_false_or_eq_true (au s)).symm with hs|hs
 ·obtain ⟨h0,h1,_,_⟩:=tn hs
  exact (OT.aq h0).trans ((OT.aq h1).trans ((OT.aq hs).trans (OT.aq (b:=au s) hs).symm))
 ·refine Eq.trans ?_ (OT.az (b:=au s) hs).symm
  show _=some (⟨mR,((ofP (pS s) a,()),())⟩:k8.Y)
  rcases ca hs with rfl|rfl|rfl|rfl
  ·rw [<-Xn (a:=a) (p:=pS 0) (m:=16513537) (by decide+kernel) rfl]
   refine (OT.az rfl).trans ((aj ?_).trans rfl)
   exact rfl
  ·rw [<-Xn (a:=a) (p:=pS 1) (m:=16521217) (by decide+kernel) rfl]
   refine (OT.aq rfl).trans ((OT.az rfl).trans ((aj ?_).trans rfl))
   exact rfl
  ·exact aiD rfl rfl rfl
  ·exact aiD rfl rfl rfl
def Iu:bw:=(k8.aD aih aA1)
theorem alp:aa Tryz.prog 62 Iu:=arR
theorem aln:aC Iu:=ay
def ZW:Env:=aw 62 Iu pR
theorem LX:aK Tryz.prog ZW:=af alp lV
theorem LY:ar ZW:=ab aln AN
theorem an5:aO Tryz.prog te ZW:=aE follows al LX LY
def gv:ap:=⟨[.val false .int,.val true .elem,.val true .elem],[],true,0,false⟩
abbrev O7:Type:=((Int)×(ag)×(ag)×Unit)×(Unit)
def cF:av:=⟨[.val true .elem],[],false⟩
def W0:SV->Option av:=λ_=>some cF
def acI (a0:Int) (a1:ag) (a2:ag):OT gv.Y:=
 let z0:Bool:=au a0
 let z1:UInt64:=UL a0
 let z2:Bool:= !z1==(0:UInt64)
 let z3:Nat:=pS a0
 let z4:ag:=ofP z3 a1
 let z5:=z4.w0
 let z6:ag:=ofP z3 a2
 let z7:=z6.w0
 let z8:ag:= {w0:=(z5+z7)%z1,w1:=0,w2:=0,w3:=0}
 let z9:ag:= {w0:=(z5+(0:UInt64))%z1,w1:=0,w2:=0,w3:=0}
 let z10:ag:= {w0:=((0:UInt64)+z7)%z1,w1:=0,w2:=0,w3:=0}
 let z11:ag:= {w0:=0%z1,w1:=0,w2:=0,w3:=0}
 let z12:ag:= {w0:=0,w1:=0,w2:=0,w3:=0}
 (.br (a0==(0:Int))
 (.br (z0)
  (.br (z0)
   (gd [z2] (.ok ⟨cF,((z8,()),())⟩))
   (gd [z2] (.ok ⟨cF,((z9,()),())⟩)))
  (.br (z0)
   (gd [z2] (.ok ⟨cF,((z10,()),())⟩))
   (gd [z2] (.ok ⟨cF,((z11,()),())⟩))))
 (.br (a0==(1:Int))
  (.br (z0)
   (.br (z0)
    (gd [z2] (.ok ⟨cF,((z8,()),())⟩))
    (gd [z2] (.ok ⟨cF,((z9,()),())⟩)))
   (.br (z0)
    (gd [z2] (.ok ⟨cF,((z10,()),())⟩))
    (gd [z2] (.ok ⟨cF,((z11,()),())⟩))))
  (.br (z0)
   (.br (z0)
    (.br (z0)
     (.ok ⟨cF,((ofP z3 (oE z4 z6).fst,()),())⟩)
     (.ok ⟨cF,((z12,()),())⟩))
    (.br (z0)
     (.ok ⟨cF,((ofP z3 (oE z4 z12).fst,()),())⟩)
     (.ok ⟨cF,((z12,()),())⟩)))
   (.br (z0)
    (.br (z0)
     (.ok ⟨cF,((ofP z3 (oE z12 z6).fst,()),())⟩)
     (.ok ⟨cF,((z12,()),())⟩))
    (.br (z0)
     (.ok ⟨cF,((ofP z3 z12,()),())⟩)
     (.ok ⟨cF,((z12,()),())⟩))))))
theorem aEc (x:O7) (Q:gv.Y->Prop):wpf te ZW ax 1000 Tryz.f134 (gv.inp.inj x).tm (gv.inp.inj x).hp (fnK gv W0 Q) (λ_ _=>False)=(acI (x.1.1) (x.1.2.1) (x.1.2.2.1)).wpR Q:=by kernel_rfl
theorem alI (pre:O7->Bool) (F:O7->OT gv.Y) (hF:∀ (x:O7) oy,pre x=true->(F x).run=some oy->(acI (x.1.1) (x.1.2.1) (x.1.2.2.1)).run=some oy):aa Tryz.prog 134 (gv.aD pre F):=
 aB al LX an5 (f:=134) (fn:=Tryz.f134) (c:=ak Tryz.f134) (by kernel_rfl) (by kernel_rfl) (by kernel_rfl) (S:=gv) (k:=0) (by kernel_rfl) (λR hR=>ae) (n:=1000) (sel:=W0) (λv o h=>by cases h;rfl) (pre:=pre) (F:=F) (T:=λx=>acI (x.1.1) (x.1.2.1) (x.1.2.2.1)) (λx Q=>aEc x Q) hF
theorem zk {s:Int} (h:s=0\/s=1):pS s=(UL s).toNat/\0<(UL s).toNat/\(UL s).toNat<=16521217/\(!(UL s==0))=true:=by
 rcases h with rfl|rfl<;>exact ⟨by decide+kernel,by decide+kernel,by decide+kernel,rfl⟩
theorem anQ {s:Int} (h:s=0\/s=1) (a b:ag):(⟨((ofP (pS s) a).w0+(ofP (pS s) b).w0)%UL s,0,0,0⟩:ag)=vh (pS s) a b:=by
 obtain ⟨hp,h0,h1,_⟩:=zk h
 rw [hp]
 generalize UL s=m at*
 have ha:=Nat.mod_lt a.nat h0
 have hb:=Nat.mod_lt b.nat h0
 have hc:=Nat.mod_lt (a.nat+b.nat) h0
 unfold vh
 rw [rr (by omega)]
 have e:((ofP m.toNat a).w0+(ofP m.toNat b).w0)%m=UInt64.ofNat ((a.nat+b.nat)%m.toNat):=by
  show (UInt64.ofNat (a.nat%m.toNat)+UInt64.ofNat (b.nat%m.toNat))%m=_
  rw [<-UInt64.toNat_inj,UInt64.toNat_mod,UInt64.toNat_add,UInt64.toNat_ofNat',UInt64.toNat_ofNat',UInt64.toNat_ofNat',Nat.mod_eq_of_lt (a:=a.nat%m.toNat) (by omega),Nat.mod_eq_of_lt (a:=b.nat%m.toNat) (by omega),
   Nat.mod_eq_of_lt (a:=a.nat%m.toNat+b.nat%m.toNat) (by omega),Nat.mod_eq_of_lt (a:=(a.nat+b.nat)%m.toNat) (by omega),<-Nat.add_mod]
 rw [e]
def IX (x:O7):Bool:=au x.1.1
def ar7 (x:O7):OT gv.Y:=.ok ⟨cF,((vh (pS x.1.1) x.1.2.1 x.1.2.2.1,()),())⟩
theorem ayL:aa Tryz.prog 134 (gv.aD IX ar7):=alI _ _ λx oy hp ho=>by
 rw [<-ho]
 clear ho
 obtain ⟨⟨s,a,b,⟨⟩⟩,⟨⟩⟩:=x
 have hs:au s=true:=hp
 show _=some (⟨cF,((vh (pS s) a b,()),())⟩:gv.Y)
 have little:(s=0\/s=1)->(gd [!(UL s==0)] (.ok ⟨cF,((⟨((ofP (pS s) a).w0+(ofP (pS s) b).w0)%UL s,0,0,0⟩,()),())⟩):OT gv.Y).run=some (⟨cF,((vh (pS s) a b,()),())⟩:gv.Y):=λh=>by
  obtain ⟨_,_,_,hz⟩:=zk h
  rw [anQ h]
  exact aj (by simp only [hz,List.all_cons,List.all_nil,Bool.and_true])
 by_cases h0:s=0
 ·exact (OT.az (by simpa using h0)).trans ((OT.az hs).trans ((OT.az hs).trans (little (.inl h0))))
 ·refine (OT.aq (by simpa using h0)).trans ?_
  by_cases h1:s=1
  ·exact (OT.az (by simpa using h1)).trans ((OT.az hs).trans ((OT.az hs).trans (little (.inr h1))))
  ·refine (OT.aq (by simpa using h1)).trans ((OT.az hs).trans ((OT.az hs).trans ((OT.az hs).trans ?_)))
   have e:ofP (pS s) (oE (ofP (pS s) a) (ofP (pS s) b)).1=vh (pS s) a b:=avg (rn hs) a b
   show some (⟨cF,((ofP (pS s) (oE (ofP (pS s) a) (ofP (pS s) b)).1,()),())⟩:gv.Y)=_
   rw [e]
def CD:bw:=(gv.aD IX ar7)
theorem acH:aa Tryz.prog 134 CD:=ayL
theorem acG:aC CD:=ay
def L8:Env:=aw 134 CD ZW
theorem Ea:aK Tryz.prog L8:=af acH LX
theorem FM:ar L8:=ab acG LY
theorem ae2:aO Tryz.prog te L8:=aE follows al Ea FM
def jM:ap:=⟨[.val false .int,.val true .elem],[],true,0,false⟩
abbrev OV:Type:=((Int)×(ag)×Unit)×(Unit)
def mg:av:=⟨[.val true .elem],[],false⟩
def WB:SV->Option av:=λ_=>some mg
def acf (a0:Int) (a1:ag):OT jM.Y:=
 let z0:Bool:=au a0
 let z1:Nat:=pS a0
 let z2:ag:=(aS (Int.toNat a0)).fst
 let z3:ag:= {w0:=0,w1:=0,w2:=0,w3:=0}
 (.br (z0)
 (.br (z0)
  (.br (z0)
   (.ok ⟨mg,((ofP z1 (ef z2 (ofP z1 a1)).fst,()),())⟩)
   (.ok ⟨mg,((z3,()),())⟩))
  (.br (z0)
   (.ok ⟨mg,((ofP z1 (ef z2 z3).fst,()),())⟩)
   (.ok ⟨mg,((z3,()),())⟩)))
 (.ok ⟨mg,((z3,()),())⟩))
theorem aD6 (x:OV) (Q:jM.Y->Prop):wpf te L8 ax 1000 Tryz.f96 (jM.inp.inj x).tm (jM.inp.inj x).hp (fnK jM WB Q) (λ_ _=>False)=(acf (x.1.1) (x.1.2.1)).wpR Q:=by kernel_rfl
theorem alr (pre:OV->Bool) (F:OV->OT jM.Y) (hF:∀ (x:OV) oy,pre x=true->(F x).run=some oy->(acf (x.1.1) (x.1.2.1)).run=some oy):aa Tryz.prog 96 (jM.aD pre F):=
 aB al Ea ae2 (f:=96) (fn:=Tryz.f96) (c:=ak Tryz.f96) (by kernel_rfl) (by kernel_rfl) (by kernel_rfl) (S:=jM) (k:=0) (by kernel_rfl) (λR hR=>ae) (n:=1000) (sel:=WB) (λv o h=>by cases h;rfl) (pre:=pre) (F:=F) (T:=λx=>acf (x.1.1) (x.1.2.1)) (λx Q=>aD6 x Q) hF
theorem neg_eq {s:Int} (hs:au s=true) (a:ag):ofP (pS s) (ef (aS s.toNat).1 (ofP (pS s) a)).1=Pq (pS s) a:=by
 have hp:=rn hs
 have hlt:=Nat.mod_lt a.nat hp.1
 have e:(ofP (pS s) a).nat=a.nat%pS s:=df hp
 unfold Pq
 have e2:(ef (aS s.toNat).1 (ofP (pS s) a)).1.nat=pS s-a.nat%pS s:=by
  rw [l9 (by rw [e];exact Nat.le_of_lt hlt),e]
  rfl
 show ofN (_%_)=_
 rw [e2]
def nt (x:OV):Bool:=au x.1.1
def arT (x:OV):OT jM.Y:=.ok ⟨mg,((Pq (pS x.1.1) x.1.2.1,()),())⟩
theorem ayz:aa Tryz.prog 96 (jM.aD nt arT):=alr _ _ λx oy hp ho=>by
 rw [<-ho]
 clear ho
 obtain ⟨⟨s,a,⟨⟩⟩,⟨⟩⟩:=x
 have hs:au s=true:=hp
 show _=some (⟨mg,((Pq (pS s) a,()),())⟩:jM.Y)
 rw [<-neg_eq hs]
 exact (OT.az hs).trans ((OT.az hs).trans ((OT.az hs).trans rfl))
def Cq:bw:=(jM.aD nt arT)
theorem ace:aa Tryz.prog 96 Cq:=ayz
theorem acd:aC Cq:=ay
def D4:Env:=aw 96 Cq L8
theorem uX:aK Tryz.prog D4:=af ace Ea
theorem FF:ar D4:=ab acd FM
theorem LZ:aO Tryz.prog te D4:=aE follows al uX FF
def gu:ap:=⟨[.val false .int,.val true .elem,.val true .elem],[],true,0,false⟩
abbrev OW:Type:=((Int)×(ag)×(ag)×Unit)×(Unit)
def yW:Shape:=⟨80,[(4,.ptr 0 0 0),(5,.ptr 1 0 0),(6,.ptr 2 0 0),(7,.ptr 3 0 0),(9,.ptr 4 0 0),(10,.val false .int)],[(0,.row .u64),(1,.row .u64),(2,.row .u64),(3,.row .u64),(4,.row .u64)],0,true⟩
abbrev bZ:Type:=((Unit)×(Unit)×(Unit)×(Unit)×(Unit)×(Int)×Unit)×((List (UInt64))×(List (UInt64))×(List (UInt64))×(List (UInt64))×(List (UInt64))×Unit)
def tE:Shape:=⟨80,[(6,.ptr 0 0 0),(9,.ptr 1 0 0)],[(0,.row .u64),(1,.row .u64)],0,true⟩
abbrev lb:Type:=((Unit)×(Unit)×Unit)×((List (UInt64))×(List (UInt64))×Unit)
def aij:SE->Option Shape:=gI [(0,tE)] none
def R5 (a10:Int) (c0:List (UInt64)) (c1:List (UInt64)) (c2:List (UInt64)) (c3:List (UInt64)) (c4:List (UInt64)):OT (Sum bZ aI):=
 let z0:Nat:=List.length c4
 let z1:Bool:=decide (4<=z0)
 let z2:ag:= {w0:=List.getD c4 0 0,w1:=List.getD c4 1 0,w2:=List.getD c4 2 0,w3:=List.getD c4 3 0}
 let z3:=(oE z2 z2).fst
 let z4:List UInt64:=List.set (List.set (List.set (List.set c4 0 z3.w0) 1 z3.w1) 2 z3.w2) 3 z3.w3
 let z5:Nat:=List.length z4
 let z6:Bool:=decide (4<=z5)
 let z7:Bool:=decide (4<=List.length c3)
 let z8:ag:= {w0:=List.getD z4 0 0,w1:=List.getD z4 1 0,w2:=List.getD z4 2 0,w3:=List.getD z4 3 0}
 let z9:ag:= {w0:=List.getD c3 0 0,w1:=List.getD c3 1 0,w2:=List.getD c3 2 0,w3:=List.getD c3 3 0}
 let z10:Nat:=ag.nat z9
 let z11:Int:=Int.tdiv a10 (64:Int)
 let z12:Bool:=true&&inR z11
 let z13:Bool:=inB z11 4
 let z14:Bool:=decide (Int.toNat z11+0<List.length c1)
 let z15:=(ef z8 z9).fst
 let z16:List UInt64:=List.set (List.set (List.set (List.set z4 0 z15.w0) 1 z15.w1) 2 z15.w2) 3 z15.w3
 let z17:Nat:=List.length z16
 let z18:Bool:=decide (4<=List.length c0)
 let z19:ag:= {w0:=List.getD c0 0 0,w1:=List.getD c0 1 0,w2:=List.getD c0 2 0,w3:=List.getD c0 3 0}
 let z20:ag:=(oE {w0:=List.getD z16 0 0,w1:=List.getD z16 1 0,w2:=List.getD z16 2 0,w3:=List.getD z16 3 0} z19).fst
 let z21:List UInt64:=List.set (List.set (List.set (List.set z16 0 z20.w0) 1 z20.w1) 2 z20.w2) 3 z20.w3
 let z22:Nat:=List.length z21
 let z23:Bool:=decide (4<=z22)
 let z24:ag:= {w0:=List.getD z21 0 0,w1:=List.getD z21 1 0,w2:=List.getD z21 2 0,w3:=List.getD z21 3 0}
 let z25:Bool:=inR (a10-(1:Int))
 let z26:=(ef z24 z9).fst
 let z27:=(oE z8 z19).fst
 let z28:List UInt64:=List.set (List.set (List.set (List.set z4 0 z27.w0) 1 z27.w1) 2 z27.w2) 3 z27.w3
 let z29:Nat:=List.length z28
 let z30:Bool:=decide (4<=z29)
 let z31:ag:= {w0:=List.getD z28 0 0,w1:=List.getD z28 1 0,w2:=List.getD z28 2 0,w3:=List.getD z28 3 0}
 let z32:=(ef z31 z9).fst
 (.br (decide ((0:Int)<=a10))
 (gd [z1,z1,decide ((4/1:Nat)+0<=z0),z6,z7] (.br (!Nat.blt (ag.nat z8) z10)
  (gd [z6,z7,decide ((4/1:Nat)+0<=z5),z12,z13,z14] (.br (aZ (List.getD c1 (Int.toNat z11+0) (0:UInt64)) (↑(UInt64.toNat (i2u (Int.tmod a10 (64:Int)))):Int)&&&(1:UInt64)==(1:UInt64))
   (gd [decide (4<=z17),z18,decide ((4/1:Nat)+0<=z17),z23,z7] (.br (!Nat.blt (ag.nat z24) z10)
    (gd [z23,z7,decide ((4/1:Nat)+0<=z22),z25] (.ok (.inl (((),((),((),((),((),(a10-(1:Int),())))))),(c0,(c1,(c2,(c3,(List.set (List.set (List.set (List.set z21 0 z26.w0) 1 z26.w1) 2 z26.w2) 3 z26.w3,())))))))))
    (gd [z25] (.ok (.inl (((),((),((),((),((),(a10-(1:Int),())))))),(c0,(c1,(c2,(c3,(z21,())))))))))))
   (gd [z25] (.ok (.inl (((),((),((),((),((),(a10-(1:Int),())))))),(c0,(c1,(c2,(c3,(z16,())))))))))))
  (gd [z12,z13,z14] (.br (aZ (List.getD c1 (Int.toNat z11+0) (0:UInt64)) (↑(UInt64.toNat (i2u (Int.tmod a10 (64:Int)))):Int)&&&(1:UInt64)==(1:UInt64))
   (gd [z6,z18,decide ((4/1:Nat)+0<=z5),z30,z7] (.br (!Nat.blt (ag.nat z31) z10)
    (gd [z30,z7,decide ((4/1:Nat)+0<=z29),z25] (.ok (.inl (((),((),((),((),((),(a10-(1:Int),())))))),(c0,(c1,(c2,(c3,(List.set (List.set (List.set (List.set z28 0 z32.w0) 1 z32.w1) 2 z32.w2) 3 z32.w3,())))))))))
    (gd [z25] (.ok (.inl (((),((),((),((),((),(a10-(1:Int),())))))),(c0,(c1,(c2,(c3,(z28,())))))))))))
   (gd [z25] (.ok (.inl (((),((),((),((),((),(a10-(1:Int),())))))),(c0,(c1,(c2,(c3,(z4,())))))))))))))
 (.ok (.inr ⟨(.exit 0,tE),(((),((),())),(c2,(c4,())))⟩)))
def tF (s:bZ):OT (Sum bZ aI):=R5 (s.1.2.2.2.2.2.1) (s.2.1) (s.2.2.1) (s.2.2.2.1) (s.2.2.2.2.1) (s.2.2.2.2.2.1)
theorem ayA (s:bZ) (Q:Sum bZ aI->Prop):wps te D4 ax 1000 (bg (ak Tryz.f113) 0) (yW.inj s) (cz yW aij (Q:Sum yW.T aI->Prop))=(tF s).wpR Q:=by kernel_rfl
def GB (g0_0:bZ->lb) (s:bZ):OT aI:=(.ok ⟨(.exit 0,tE),g0_0 s⟩)
def dg:av:=⟨[.val true .elem],[],false⟩
def WC:SV->Option av:=λ_=>some dg
def aci (ok0:bZ->Bool) (g0_0:bZ->lb) (a0:Int) (a1:ag) (a2:ag):OT gu.Y:=
 let z0:Bool:=au a0
 let z1:UInt64:=UL a0
 let z2:Bool:= !z1==(0:UInt64)
 let z3:Nat:=pS a0
 let z4:ag:=ofP z3 a1
 let z5:=z4.w0
 let z6:ag:=ofP z3 a2
 let z7:=z6.w0
 let z8:ag:= {w0:=z5*z7%z1,w1:=0,w2:=0,w3:=0}
 let z9:ag:= {w0:=z5*(0:UInt64)%z1,w1:=0,w2:=0,w3:=0}
 let z10:ag:= {w0:=0*z7%z1,w1:=0,w2:=0,w3:=0}
 let z11:ag:= {w0:=0%z1,w1:=0,w2:=0,w3:=0}
 let z12:PUnit×PUnit×PUnit×PUnit×PUnit×Int×PUnit:=((),(),(),(),(),(255:Int),())
 let z13:ag:=(aS (Int.toNat a0)).fst
 let z14:List UInt64×List UInt64×List UInt64×PUnit:=([(0:UInt64),(0:UInt64),(0:UInt64),(0:UInt64)],[z13.w0,z13.w1,z13.w2,z13.w3],[(0:UInt64),(0:UInt64),(0:UInt64),(0:UInt64)],())
 let z15:List UInt64×List UInt64×List UInt64×List UInt64×PUnit:=([z7,z6.w1,z6.w2,z6.w3],z14)
 let z16:(PUnit×PUnit×PUnit×PUnit×PUnit×Int×PUnit)×List UInt64×List UInt64×List UInt64×List UInt64×List UInt64×PUnit:=(z12,[z5,z4.w1,z4.w2,z4.w3],z15)
 let z17:=(g0_0 z16).snd
 let z18:=z17.snd.fst
 let z19:=z17.fst
 let z20:List UInt64:=lay z19 z18 4 (0:UInt64)
 let z21:List UInt64×List UInt64×List UInt64×List UInt64×PUnit:=([(0:UInt64),(0:UInt64),(0:UInt64),(0:UInt64)],z14)
 let z22:(PUnit×PUnit×PUnit×PUnit×PUnit×Int×PUnit)×List UInt64×List UInt64×List UInt64×List UInt64×List UInt64×PUnit:=(z12,[z5,z4.w1,z4.w2,z4.w3],z21)
 let z23:=(g0_0 z22).snd
 let z24:=z23.snd.fst
 let z25:=z23.fst
 let z26:List UInt64:=lay z25 z24 4 (0:UInt64)
 let z27:(PUnit×PUnit×PUnit×PUnit×PUnit×Int×PUnit)×List UInt64×List UInt64×List UInt64×List UInt64×List UInt64×PUnit:=(z12,[(0:UInt64),(0:UInt64),(0:UInt64),(0:UInt64)],z15)
 let z28:=(g0_0 z27).snd
 let z29:=z28.snd.fst
 let z30:=z28.fst
 let z31:List UInt64:=lay z30 z29 4 (0:UInt64)
 let z32:(PUnit×PUnit×PUnit×PUnit×PUnit×Int×PUnit)×List UInt64×List UInt64×List UInt64×List UInt64×List UInt64×PUnit:=(z12,[(0:UInt64),(0:UInt64),(0:UInt64),(0:UInt64)],z21)
 let z33:=(g0_0 z32).snd
 let z34:=z33.snd.fst
 let z35:=z33.fst
 let z36:List UInt64:=lay z35 z34 4 (0:UInt64)
 (.br (a0==(0:Int))
 (.br (z0)
  (.br (z0)
   (gd [z2] (.ok ⟨dg,((z8,()),())⟩))
   (gd [z2] (.ok ⟨dg,((z9,()),())⟩)))
  (.br (z0)
   (gd [z2] (.ok ⟨dg,((z10,()),())⟩))
   (gd [z2] (.ok ⟨dg,((z11,()),())⟩))))
 (.br (a0==(1:Int))
  (.br (z0)
   (.br (z0)
    (gd [z2] (.ok ⟨dg,((z8,()),())⟩))
    (gd [z2] (.ok ⟨dg,((z9,()),())⟩)))
   (.br (z0)
    (gd [z2] (.ok ⟨dg,((z10,()),())⟩))
    (gd [z2] (.ok ⟨dg,((z11,()),())⟩))))
  (.br (z0)
   (.br (z0)
    (.br (z0)
     (gd [ok0 z16,decide (4<=List.length z18),decide ((4/1:Nat)+0<=List.length z19),decide (4<=List.length z20)] (.ok ⟨dg,(({w0:=List.getD z20 0 0,w1:=List.getD z20 1 0,w2:=List.getD z20 2 0,w3:=List.getD z20 3 0},()),())⟩))
     (gd [ok0 z22,decide (4<=List.length z24),decide ((4/1:Nat)+0<=List.length z25),decide (4<=List.length z26)] (.ok ⟨dg,(({w0:=List.getD z26 0 0,w1:=List.getD z26 1 0,w2:=List.getD z26 2 0,w3:=List.getD z26 3 0},()),())⟩)))
    (.br (z0)
     (gd [ok0 z27,decide (4<=List.length z29),decide ((4/1:Nat)+0<=List.length z30),decide (4<=List.length z31)] (.ok ⟨dg,(({w0:=List.getD z31 0 0,w1:=List.getD z31 1 0,w2:=List.getD z31 2 0,w3:=List.getD z31 3 0},()),())⟩))
     (gd [ok0 z32,decide (4<=List.length z34),decide ((4/1:Nat)+0<=List.length z35),decide (4<=List.length z36)] (.ok ⟨dg,(({w0:=List.getD z36 0 0,w1:=List.getD z36 1 0,w2:=List.getD z36 2 0,w3:=List.getD z36 3 0},()),())⟩))))
   (.ok ⟨dg,(({w0:=0,w1:=0,w2:=0,w3:=0},()),())⟩))))
theorem aD7 (ok0:bZ->Bool) (g0_0:bZ->lb) (x:OW) (Q:gu.Y->Prop):wpf te D4 (be 0 (cE yW 0 ok0 (GB g0_0)) ax) 1000 Tryz.f113 (gu.inp.inj x).tm (gu.inp.inj x).hp (fnK gu WC Q) (λ_ _=>False)=(aci ok0 g0_0 (x.1.1) (x.1.2.1) (x.1.2.2.1)).wpR Q:=by kernel_rfl
theorem als (ok0:bZ->Bool) (g0_0:bZ->lb) (h0:∀ s:bZ,ok0 s=true->∃ m e,aA (tF) m s=some e/\(GB g0_0 s).run=some e) (pre:OW->Bool) (F:OW->OT gu.Y) (hF:∀ (x:OW) oy,pre x=true->(F x).run=some oy->(aci ok0 g0_0 (x.1.1) (x.1.2.1) (x.1.2.2.1)).run=some oy):aa Tryz.prog 113 (gu.aD pre F):=
 aB al uX LZ (f:=113) (fn:=Tryz.f113) (c:=ak Tryz.f113) (by kernel_rfl) (by kernel_rfl) (by kernel_rfl) (S:=gu) (k:=0) (by kernel_rfl) (λR hR=>(aG (c:=(ak Tryz.f113)) (by kernel_rfl) (id:=0) (by kernel_rfl) (ba al uX LZ (sh:=yW) hR (xs:=aij) (aF (by kernel_rfl) (by kernel_rfl) hR) aN ae (n:=1000) (T:=tF) (λs Q=>ayA s Q) (ok:=ok0) (f:=GB g0_0) h0) ae)) (n:=1000) (sel:=WC) (λv o h=>by cases h;rfl) (pre:=pre) (F:=F) (T:=λx=>aci ok0 g0_0 (x.1.1) (x.1.2.1) (x.1.2.2.1)) (λx Q=>aD7 ok0 g0_0 x Q) hF
theorem al9 {s:Int} (h:s=0\/s=1) (a b:ag):(⟨(ofP (pS s) a).w0*(ofP (pS s) b).w0%UL s,0,0,0⟩:ag)=dI (pS s) a b:=by
 obtain ⟨hp,h0,h1,_⟩:=zk h
 rw [hp]
 generalize UL s=m at*
 have ha:=Nat.mod_lt a.nat h0
 have hb:=Nat.mod_lt b.nat h0
 have hc:=Nat.mod_lt (a.nat*b.nat) h0
 have hab:a.nat%m.toNat*(b.nat%m.toNat)<18446744073709551616:=by
  have:a.nat%m.toNat*(b.nat%m.toNat)<=16521217*16521217:=Nat.mul_le_mul (by omega) (by omega)
  omega
 unfold dI
 rw [rr (n:=a.nat*b.nat%m.toNat) (by omega)]
 have e:(ofP m.toNat a).w0*(ofP m.toNat b).w0%m=UInt64.ofNat (a.nat*b.nat%m.toNat):=by
  show UInt64.ofNat (a.nat%m.toNat)*UInt64.ofNat (b.nat%m.toNat)%m=_
  rw [<-UInt64.toNat_inj,UInt64.toNat_mod,UInt64.toNat_mul,UInt64.toNat_ofNat',UInt64.toNat_ofNat',UInt64.toNat_ofNat',Nat.mod_eq_of_lt (a:=a.nat%m.toNat) (by omega),Nat.mod_eq_of_lt (a:=b.nat%m.toNat) (by omega),
   Nat.mod_eq_of_lt (a:=a.nat%m.toNat*(b.nat%m.toNat)) (by omega),Nat.mod_eq_of_lt (a:=a.nat*b.nat%m.toNat) (by omega),<-Nat.mul_mod]
 rw [e]
def zJ (p a b:Nat) (n o:Nat):Nat:=cond (anM b (255-n)) ((2*o%p+a)%p) (2*o%p)
theorem aue (p a b:Nat) (hb:b<2^256):∀ n,n<=256->upto (zJ p a b) 0 n=a*(b/2^(256-n))%p
 |0,_=>by
  show 0=_
  rw [Nat.div_eq_of_lt (by exact hb),Nat.mul_zero,Nat.zero_mod]
 |n+1,hn=>by
  show zJ p a b n (upto (zJ p a b) 0 n)=_
  rw [aue p a b hb n (by omega)]
  have e1:256-n=(255-n)+1:=by omega
  have e2:256-(n+1)=255-n:=by omega
  rw [e1,e2,Nat.pow_succ,<-Nat.div_div_eq_div_mul]
  unfold zJ anM
  generalize b/2^(255-n)=q
  have hd:2*(a*(q/2)%p)%p=a*(2*(q/2))%p:=by
   rw [Nat.mul_mod,Nat.mod_mod,<-Nat.mul_mod,Nat.mul_left_comm]
  cases hq:Nat.beq (q%2) 1
  ·simp only [cond_false]
   have:¬q%2=1:=λe=>by rw [e] at hq;cases hq
   rw [hd,show 2*(q/2)=q by omega]
  ·have hq:=Nat.eq_of_beq_eq_true hq
   simp only [cond_true]
   rw [hd,Nat.mod_add_mod]
   have e3:a*(2*(q/2))+a=a*q:=by
    rw [<-Nat.mul_succ,show (2*(q/2)).succ=q by omega]
   rw [e3]
theorem aGF {z M:ag} (h:Nat.blt z.nat M.nat=true):z=ofN (z.nat%M.nat):=by
 rw [Nat.mod_eq_of_lt (dW h),tX]
theorem aEs {n m:Nat} (h:Nat.blt n m=false):m<=n:=by
 rcases Nat.lt_or_ge n m with h'|h'
 ·have:Nat.blt n m=true:=Nat.ble_eq_true_of_le h'
  rw [this] at h;cases h
 ·exact h'
theorem aGE {z M:ag} (h:Nat.blt z.nat M.nat=false) (h2:z.nat<2*M.nat):(ef z M).1=ofN (z.nat%M.nat):=by
 have hle:=aEs h
 have hz:=iQ z
 apply ph
 rw [l9 hle,Nat.mod_eq_sub_mod hle,Nat.mod_eq_of_lt (by omega),jR (by omega)]
theorem sum_nat {a b:ag} (h:a.nat+b.nat<115792089237316195423570985008687907853269984665640564039457584007913129639936):(oE a b).1.nat=a.nat+b.nat:=jR h
theorem JD {k:Nat} (hk:k<64):(((i2u (k:Int)).toNat:Nat):Int)=(k:Int):=by
 unfold i2u
 rw [UInt64.toNat_ofNat']
 omega
theorem aBo {b:ag} {n:Nat} (hn:n<256):(aZ (List.getD (lst b) (Int.toNat (Int.tdiv (255-(n:Int)) 64)+0) 0) (((i2u (Int.tmod (255-(n:Int)) 64)).toNat:Nat):Int)&&&1==1)=anM b.nat (255-n):=by
 have t0:(255:Int)-(n:Int)=((255-n:Nat):Int):=by omega
 rw [t0]
 generalize hk:255-n=k
 have hk2:k<256:=by omega
 have t1:Int.tdiv (k:Int) 64=((k/64:Nat):Int):=by rw [Int.tdiv_eq_ediv_of_nonneg (by omega)];omega
 have t2:Int.tmod (k:Int) 64=((k%64:Nat):Int):=by rw [Int.tmod_eq_emod_of_nonneg (by omega)];omega
 rw [t1,t2,JD (by omega),aep,fm _ _ (by omega),Int.toNat_natCast,Nat.add_zero]
 have:=uz (a:=b) (q:=k/64) (r:=k%64) (by omega) (by omega)
 rw [show 64*(k/64)+k%64=k by omega] at this
 unfold anM
 rw [<-this]
theorem aFF (e f:ag):List.set (List.set (List.set (List.set (lst e) 0 f.w0) 1 f.w1) 2 f.w2) 3 f.w3=lst f:=rfl
theorem aFP (e:ag):(⟨List.getD (lst e) 0 0,List.getD (lst e) 1 0,List.getD (lst e) 2 0,List.getD (lst e) 3 0⟩:ag)=e:=rfl
def auf (A B:ag) (c2:List UInt64) (M:ag) (n o:Nat):bZ:=(((),(),(),(),(),255-(n:Int),()),(lst A,lst B,c2,lst M,lst (ofN o),()))
theorem aFj {A B M:ag} {c2:List UInt64} {n o:Nat} (hn:n<256) (hA:A.nat<M.nat) (ho:o<M.nat) (hM:2*M.nat<=115792089237316195423570985008687907853269984665640564039457584007913129639936):
 (tF (auf A B c2 M n o)).run=some (.inl (auf A B c2 M (n+1) (zJ M.nat A.nat B.nat n o))):=by
 have e2:(255:Int)-(n:Int)-1=255-((n+1:Nat):Int):=by omega
 have hO:(ofN o).nat=o:=jR (by omega)
 have hz:(oE (ofN o) (ofN o)).1.nat=2*o:=by rw [sum_nat (by omega),hO];omega
 have hbit:=aBo (b:=B) hn
 have t0:(255:Int)-(n:Int)=((255-n:Nat):Int):=by omega
 have t1:Int.tdiv (255-(n:Int)) 64=(((255-n)/64:Nat):Int):=by rw [t0,Int.tdiv_eq_ediv_of_nonneg (by omega)];omega
 have gb:∀ z:OT (Sum bZ aI),(gd [true&&inR (Int.tdiv (255-(n:Int)) 64),inB (Int.tdiv (255-(n:Int)) 64) 4,decide (Int.toNat (Int.tdiv (255-(n:Int)) 64)+0<(lst B).length)] z).run=z.run:=λz=>aj (by
  simp only [t1,Int.toNat_natCast,Nat.add_zero,cr,List.all_cons,List.all_nil,Bool.and_true,Bool.true_and,Bool.and_eq_true]
  exact ⟨aL (by omega),aM (by omega),decide_eq_true (by omega)⟩)
 have gb2:∀ z:OT (Sum bZ aI),(gd [true,true,true,true&&inR (Int.tdiv (255-(n:Int)) 64),inB (Int.tdiv (255-(n:Int)) 64) 4,decide (Int.toNat (Int.tdiv (255-(n:Int)) 64)+0<(lst B).length)] z).run=z.run:=λz=>aj (by
  simp only [t1,Int.toNat_natCast,Nat.add_zero,cr,List.all_cons,List.all_nil,Bool.and_true,Bool.true_and,Bool.and_eq_true]
  exact ⟨aL (by omega),aM (by omega),decide_eq_true (by omega)⟩)
 have hi:inR ((255:Int)-(n:Int)-1)=true:=aL (by omega)
 have gi:∀ z:OT (Sum bZ aI),(gd [inR ((255:Int)-(n:Int)-1)] z).run=z.run:=λz=>aj (by simp only [hi,List.all_cons,List.all_nil,Bool.and_true])
 have gi2:∀ z:OT (Sum bZ aI),(gd [true,true,true,inR ((255:Int)-(n:Int)-1)] z).run=z.run:=λz=>aj (by simp only [hi,List.all_cons,List.all_nil,Bool.and_true])
 --behind the doubling
 have tail:∀ D:ag,D=ofN (2*o%M.nat)->
  (OT.br (aZ (List.getD (lst B) (Int.toNat (Int.tdiv (255-(n:Int)) 64)+0) 0) (((i2u (Int.tmod (255-(n:Int)) 64)).toNat:Nat):Int)&&&1==1)
   (gd [true,true,true,true,true] (OT.br (!Nat.blt (oE D A).1.nat M.nat)
    (gd [true,true,true,inR ((255:Int)-(n:Int)-1)] (.ok (.inl (((),(),(),(),(),(255:Int)-(n:Int)-1,()),(lst A,lst B,c2,lst M,lst (ef (oE D A).1 M).1,())))))
    (gd [inR ((255:Int)-(n:Int)-1)] (.ok (.inl (((),(),(),(),(),(255:Int)-(n:Int)-1,()),(lst A,lst B,c2,lst M,lst (oE D A).1,())))))))
   (gd [inR ((255:Int)-(n:Int)-1)] (.ok (.inl (((),(),(),(),(),(255:Int)-(n:Int)-1,()),(lst A,lst B,c2,lst M,lst D,()))))):OT (Sum bZ aI)).run
  =some (.inl (auf A B c2 M (n+1) (zJ M.nat A.nat B.nat n o))):=λD hD=>by
  rw [hbit,e2]
  rw [e2] at gi gi2
  have hlt:=Nat.mod_lt (2*o) (show 0<M.nat by omega)
  have hDn:D.nat=2*o%M.nat:=by rw [hD];exact jR (by omega)
  have hw:(oE D A).1.nat=2*o%M.nat+A.nat:=by rw [sum_nat (by omega),hDn]
  unfold zJ
  rcases (Bool.eq_false_or_eq_true (anM B.nat (255-n))).symm with hb|hb
  ·rw [hb,hD]
   exact (OT.aq rfl).trans (gi _)
  ·rw [hb]
   refine (OT.az rfl).trans ((aj rfl).trans ?_)
   rcases (Bool.eq_false_or_eq_true (Nat.blt (oE D A).1.nat M.nat)).symm with hc|hc
   ·have er:=aGE hc (by omega)
    rw [hw] at er
    refine (OT.az (by rw [hc];rfl)).trans ((gi2 _).trans ?_)
    rw [er]
    rfl
   ·have er:=aGF hc
    rw [hw] at er
    refine (OT.aq (by rw [hc];rfl)).trans ((gi _).trans ?_)
    rw [er]
    rfl
 show (R5 (255-(n:Int)) (lst A) (lst B) c2 (lst M) (lst (ofN o))).run=_
 unfold R5
 simp only [aFF,aFP,cr]
 refine (OT.az (decide_eq_true (by omega))).trans ((aj rfl).trans ?_)
 rcases (Bool.eq_false_or_eq_true (Nat.blt (oE (ofN o) (ofN o)).1.nat M.nat)).symm with hc|hc
 ·have er:=aGE hc (by omega)
  rw [hz] at er
  exact (OT.az (b:= !Nat.blt (oE (ofN o) (ofN o)).1.nat M.nat) (by rw [hc];rfl)).trans ((gb2 _).trans (tail _ er))
 ·have er:=aGF hc
  rw [hz] at er
  exact (OT.aq (b:= !Nat.blt (oE (ofN o) (ofN o)).1.nat M.nat) (by rw [hc];rfl)).trans ((gb _).trans (tail _ er))
def WD (s:bZ):Bool:=decide (s.1.2.2.2.2.2.1=255/\s.2.1.length=4/\s.2.2.1.length=4/\s.2.2.2.2.1.length=4/\s.2.2.2.2.2.1= [0,0,0,0]/\(elemOf s.2.1).nat<(elemOf s.2.2.2.2.1).nat/\2*(elemOf s.2.2.2.2.1).nat<=115792089237316195423570985008687907853269984665640564039457584007913129639936)
def aik (s:bZ):lb:=(((),(),()),(s.2.2.2.1,lst (ofN ((elemOf s.2.1).nat*(elemOf s.2.2.1).nat%(elemOf s.2.2.2.2.1).nat)),()))
theorem ayC:∀ s:bZ,WD s=true->∃ m e,aA tF m s=some e/\(GB aik s).run=some e:=by
 rintro ⟨⟨⟨⟩,⟨⟩,⟨⟩,⟨⟩,⟨⟩,i,⟨⟩⟩,⟨l0,l1,c2,l3,l4,⟨⟩⟩⟩ h
 have h':=of_decide_eq_true h
 dsimp only at h'
 obtain ⟨rfl,h0,h1,h3,rfl,hA,hM⟩:=h'
 obtain ⟨A,rfl⟩:∃ a,l0=lst a:=⟨elemOf l0,(aP h0).symm⟩
 obtain ⟨B,rfl⟩:∃ a,l1=lst a:=⟨elemOf l1,(aP h1).symm⟩
 obtain ⟨M,rfl⟩:∃ a,l3=lst a:=⟨elemOf l3,(aP h3).symm⟩
 have hA:A.nat<M.nat:=hA
 have:=(aR (T:=tF) (auf A B c2 M) (zJ M.nat A.nat B.nat)
  (λo=>(⟨(.exit 0,tE),(((),(),()),(c2,lst (ofN o),()))⟩:aI)) 256 0 (λ_ o=>o<M.nat) (by omega) (λn o hn ho=>⟨aFj hn hA ho hM,?_⟩) (λo ho=> ?_)).1
 ·rw [aue M.nat A.nat B.nat (iQ B) 256 (by omega),Nat.sub_self,Nat.pow_zero,Nat.div_one] at this
  obtain ⟨m,hm⟩:=this
  exact ⟨m,_,hm,rfl⟩
 ·unfold zJ
  cases anM B.nat (255-n)
  ·exact Nat.mod_lt _ (by omega)
  ·exact Nat.mod_lt _ (by omega)
 ·exact OT.aq (decide_eq_false (by dsimp only [auf];omega))
def eS (x:OW):Bool:=au x.1.1
def arU (x:OW):OT gu.Y:=.ok ⟨dg,((dI (pS x.1.1) x.1.2.1 x.1.2.2.1,()),())⟩
theorem asB {s:Int} (hs:au s=true) (a b:ag):ofN ((ofP (pS s) a).nat*(ofP (pS s) b).nat%pS s)=dI (pS s) a b:=by
 have hp:=rn hs
 unfold ofP dI
 rw [df hp,df hp,<-Nat.mul_mod]
theorem ayB:aa Tryz.prog 113 (gu.aD eS arU):=als WD aik ayC _ _ λx oy hp ho=>by
 rw [<-ho]
 clear ho
 obtain ⟨⟨s,a,b,⟨⟩⟩,⟨⟩⟩:=x
 have hs:au s=true:=hp
 show _=some (⟨dg,((dI (pS s) a b,()),())⟩:gu.Y)
 have little:(s=0\/s=1)->(gd [!(UL s==0)] (.ok ⟨dg,((⟨(ofP (pS s) a).w0*(ofP (pS s) b).w0%UL s,0,0,0⟩,()),())⟩):OT gu.Y).run=some (⟨dg,((dI (pS s) a b,()),())⟩:gu.Y):=λh=>by
  obtain ⟨_,_,_,hz⟩:=zk h
  rw [al9 h]
  exact aj (by simp only [hz,List.all_cons,List.all_nil,Bool.and_true])
 by_cases h0:s=0
 ·exact (OT.az (by simpa using h0)).trans ((OT.az hs).trans ((OT.az hs).trans (little (.inl h0))))
 ·refine (OT.aq (by simpa using h0)).trans ?_
  by_cases h1:s=1
  ·exact (OT.az (by simpa using h1)).trans ((OT.az hs).trans ((OT.az hs).trans (little (.inr h1))))
  ·refine (OT.aq (by simpa using h1)).trans ((OT.az hs).trans ((OT.az hs).trans ((OT.az hs).trans ?_)))
   have hpp:=rn hs
   have hA:(ofP (pS s) a).nat<pS s:=by
    show (ofN _).nat<_
    rw [df hpp]
    exact Nat.mod_lt _ hpp.1
   refine (aj ?_).trans ?_
   ·simp only [List.all_cons,List.all_nil,Bool.and_true,Bool.and_eq_true]
    exact ⟨decide_eq_true ⟨rfl,rfl,rfl,rfl,rfl,hA,(by show 2*pS s<=_;omega)⟩,rfl,rfl,rfl⟩
   ·rw [<-asB hs]
    show some (⟨dg,((elemOf (lay [0,0,0,0] (lst (ofN ((ofP (pS s) a).nat*(ofP (pS s) b).nat%pS s))) 4 0),()),())⟩:gu.Y)=_
    rw [aFL _ _ rfl rfl]
    rfl
def Cr:bw:=(gu.aD eS arU)
theorem ach:aa Tryz.prog 113 Cr:=ayB
theorem acg:aC Cr:=ay
def xk:Env:=aw 113 Cr D4
theorem om:aK Tryz.prog xk:=af ach uX
theorem FG:ar xk:=ab acg FF
theorem xj:aO Tryz.prog te xk:=aE follows al om FG
def iX:ap:=⟨[.val false .int,.val true .elem,.val true .elem],[],true,0,false⟩
abbrev O4:Type:=((Int)×(ag)×(ag)×Unit)×(Unit)
def y0:Shape:=⟨53,[(0,.val false .int),(4,.ptr 0 0 0),(5,.ptr 1 0 0),(6,.ptr 2 0 0),(7,.ptr 3 0 0),(8,.val false .int)],[(0,.row .u64),(1,.row .u64),(2,.row .u64),(3,.row .u64)],0,true⟩
abbrev cJ:Type:=((Int)×(Unit)×(Unit)×(Unit)×(Unit)×(Int)×Unit)×((List (UInt64))×(List (UInt64))×(List (UInt64))×(List (UInt64))×Unit)
def nz:Shape:=⟨53,[(0,.val false .int),(4,.ptr 0 0 0),(5,.ptr 1 0 0),(6,.ptr 2 0 0),(7,.ptr 3 0 0),(8,.val false .int)],[(0,.row .u64),(1,.row .u64),(2,.row .u64),(3,.row .u64)],0,true⟩
abbrev li:Type:=((Int)×(Unit)×(Unit)×(Unit)×(Unit)×(Int)×Unit)×((List (UInt64))×(List (UInt64))×(List (UInt64))×(List (UInt64))×Unit)
def aiq:SE->Option Shape:=gI [(0,nz)] none
def ayK (a0:Int) (a8:Int) (c0:List (UInt64)) (c1:List (UInt64)) (c2:List (UInt64)) (c3:List (UInt64)):OT (Sum cJ aI):=
 let z0:Int:=Int.tdiv a8 (64:Int)
 (.br (decide ((0:Int)<=a8))
 (gd [true&&inR z0,inB z0 4,decide (Int.toNat z0+0<List.length c1)] (.br (aZ (List.getD c1 (Int.toNat z0+0) (0:UInt64)) (↑(UInt64.toNat (i2u (Int.tmod a8 (64:Int)))):Int)&&&(1:UInt64)==(0:UInt64))
  (gd [inR (a8-(1:Int))] (.ok (.inl ((a0,((),((),((),((),(a8-(1:Int),())))))),(c0,(c1,(c2,(c3,()))))))))
  (.ok (.inr ⟨(.exit 0,nz),((a0,((),((),((),((),(a8,())))))),(c0,(c1,(c2,(c3,())))))⟩))))
 (.ok (.inr ⟨(.exit 0,nz),((a0,((),((),((),((),(a8,())))))),(c0,(c1,(c2,(c3,())))))⟩)))
def y4 (s:cJ):OT (Sum cJ aI):=ayK (s.1.1) (s.1.2.2.2.2.2.1) (s.2.1) (s.2.2.1) (s.2.2.2.1) (s.2.2.2.2.1)
theorem ayG (s:cJ) (Q:Sum cJ aI->Prop):wps te xk ax 1000 (bg (ak Tryz.f129) 0) (y0.inj s) (cz y0 aiq (Q:Sum y0.T aI->Prop))=(y4 s).wpR Q:=by kernel_rfl
def GD (g0_0:cJ->li) (s:cJ):OT aI:=(.ok ⟨(.exit 0,nz),g0_0 s⟩)
def yZ:Shape:=⟨53,[(0,.val false .int),(4,.ptr 0 0 0),(5,.ptr 1 0 0),(6,.ptr 2 0 0),(7,.ptr 3 0 0),(9,.val false .int)],[(0,.row .u64),(1,.row .u64),(2,.row .u64),(3,.row .u64)],0,true⟩
abbrev cT:Type:=((Int)×(Unit)×(Unit)×(Unit)×(Unit)×(Int)×Unit)×((List (UInt64))×(List (UInt64))×(List (UInt64))×(List (UInt64))×Unit)
def tJ:Shape:=⟨53,[(6,.ptr 0 0 0),(7,.ptr 1 0 0)],[(0,.row .u64),(1,.row .u64)],0,true⟩
abbrev lh:Type:=((Unit)×(Unit)×Unit)×((List (UInt64))×(List (UInt64))×Unit)
def aip:SE->Option Shape:=gI [(2,tJ)] none
def Sa (a0:Int) (a9:Int) (c0:List (UInt64)) (c1:List (UInt64)) (c2:List (UInt64)) (c3:List (UInt64)):OT (Sum cT aI):=
 let z0:Nat:=List.length c3
 let z1:Bool:=decide (4<=z0)
 let z2:ag:= {w0:=List.getD c3 0 0,w1:=List.getD c3 1 0,w2:=List.getD c3 2 0,w3:=List.getD c3 3 0}
 let z3:Int:=Int.tdiv a9 (64:Int)
 let z4:Nat:=pS a0
 let z5:ag:=dI z4 z2 z2
 let z6:List UInt64:=List.set (List.set (List.set (List.set c3 0 z5.w0) 1 z5.w1) 2 z5.w2) 3 z5.w3
 let z7:Nat:=List.length z6
 let z8:ag:= {w0:=List.getD z6 0 0,w1:=List.getD z6 1 0,w2:=List.getD z6 2 0,w3:=List.getD z6 3 0}
 let z9:ag:= {w0:=List.getD c0 0 0,w1:=List.getD c0 1 0,w2:=List.getD c0 2 0,w3:=List.getD c0 3 0}
 let z10:Bool:=inR (a9-(1:Int))
 let z11:ag:=dI z4 z8 z9
 (.br (decide ((0:Int)<=a9))
 (gd [z1,z1,eS ((a0,z2,z2,()),()),decide ((4/1:Nat)+0<=z0),true&&inR z3,inB z3 4,decide (Int.toNat z3+0<List.length c1)] (.br (aZ (List.getD c1 (Int.toNat z3+0) (0:UInt64)) (↑(UInt64.toNat (i2u (Int.tmod a9 (64:Int)))):Int)&&&(1:UInt64)==(1:UInt64))
  (gd [decide (4<=z7),decide (4<=List.length c0),eS ((a0,z8,z9,()),()),decide ((4/1:Nat)+0<=z7),z10] (.ok (.inl ((a0,((),((),((),((),(a9-(1:Int),())))))),(c0,(c1,(c2,(List.set (List.set (List.set (List.set z6 0 z11.w0) 1 z11.w1) 2 z11.w2) 3 z11.w3,()))))))))
  (gd [z10] (.ok (.inl ((a0,((),((),((),((),(a9-(1:Int),())))))),(c0,(c1,(c2,(z6,()))))))))))
 (.ok (.inr ⟨(.exit 2,tJ),(((),((),())),(c2,(c3,())))⟩)))
def tK (s:cT):OT (Sum cT aI):=Sa (s.1.1) (s.1.2.2.2.2.2.1) (s.2.1) (s.2.2.1) (s.2.2.2.1) (s.2.2.2.2.1)
theorem ayF (s:cT) (Q:Sum cT aI->Prop):wps te xk ax 1000 (bg (ak Tryz.f129) 2) (yZ.inj s) (cz yZ aip (Q:Sum yZ.T aI->Prop))=(tK s).wpR Q:=by kernel_rfl
def GC (g2_2:cT->lh) (s:cT):OT aI:=(.ok ⟨(.exit 2,tJ),g2_2 s⟩)
def tI:av:=⟨[.val true .elem],[],false⟩
def WR:SV->Option av:=λ_=>some tI
def acy (ok0:cJ->Bool) (g0_0:cJ->li) (ok2:cT->Bool) (g2_2:cT->lh) (a0:Int) (a1:ag) (a2:ag):OT iX.Y:=
 let z0:Int×PUnit×PUnit×PUnit×PUnit×Int×PUnit:=(a0,(),(),(),(),(255:Int),())
 let z1:ag:=ofP (pS a0) {w0:=1,w1:=0,w2:=0,w3:=0}
 let z2:(Int×PUnit×PUnit×PUnit×PUnit×Int×PUnit)×List UInt64×List UInt64×List UInt64×List UInt64×PUnit:=(z0,[a1.w0,a1.w1,a1.w2,a1.w3],[a2.w0,a2.w1,a2.w2,a2.w3],[(0:UInt64),(0:UInt64),(0:UInt64),(0:UInt64)],[z1.w0,z1.w1,z1.w2,z1.w3],())
 let z3:(Int×PUnit×PUnit×PUnit×PUnit×Int×PUnit)×List UInt64×List UInt64×List UInt64×List UInt64×PUnit:=g0_0 z2
 let z4:=z3.fst
 let z5:=z3.snd
 let z6:=z5.snd
 let z7:=z6.snd
 let z8:(Int×PUnit×PUnit×PUnit×PUnit×Int×PUnit)×List UInt64×List UInt64×List UInt64×List UInt64×PUnit:=((z4.fst,(),(),(),(),z4.snd.snd.snd.snd.snd.fst,()),z5.fst,z6.fst,z7.fst,z7.snd.fst,())
 let z9:=(g2_2 z8).snd
 let z10:=z9.snd.fst
 let z11:=z9.fst
 let z12:List UInt64:=lay z11 z10 4 (0:UInt64)
 let z13:(Int×PUnit×PUnit×PUnit×PUnit×Int×PUnit)×List UInt64×List UInt64×List UInt64×List UInt64×PUnit:=(z0,[a1.w0,a1.w1,a1.w2,a1.w3],[a2.w0,a2.w1,a2.w2,a2.w3],[(0:UInt64),(0:UInt64),(0:UInt64),(0:UInt64)],[(0:UInt64),(0:UInt64),(0:UInt64),(0:UInt64)],())
 let z14:(Int×PUnit×PUnit×PUnit×PUnit×Int×PUnit)×List UInt64×List UInt64×List UInt64×List UInt64×PUnit:=g0_0 z13
 let z15:=z14.fst
 let z16:=z14.snd
 let z17:=z16.snd
 let z18:=z17.snd
 let z19:(Int×PUnit×PUnit×PUnit×PUnit×Int×PUnit)×List UInt64×List UInt64×List UInt64×List UInt64×PUnit:=((z15.fst,(),(),(),(),z15.snd.snd.snd.snd.snd.fst,()),z16.fst,z17.fst,z18.fst,z18.snd.fst,())
 let z20:=(g2_2 z19).snd
 let z21:=z20.snd.fst
 let z22:=z20.fst
 let z23:List UInt64:=lay z22 z21 4 (0:UInt64)
 (.br (au a0)
 (gd [ok0 z2,ok2 z8,decide (4<=List.length z10),decide ((4/1:Nat)+0<=List.length z11),decide (4<=List.length z12)] (.ok ⟨tI,(({w0:=List.getD z12 0 0,w1:=List.getD z12 1 0,w2:=List.getD z12 2 0,w3:=List.getD z12 3 0},()),())⟩))
 (gd [ok0 z13,ok2 z19,decide (4<=List.length z21),decide ((4/1:Nat)+0<=List.length z22),decide (4<=List.length z23)] (.ok ⟨tI,(({w0:=List.getD z23 0 0,w1:=List.getD z23 1 0,w2:=List.getD z23 2 0,w3:=List.getD z23 3 0},()),())⟩)))
theorem aEa (ok0:cJ->Bool) (g0_0:cJ->li) (ok2:cT->Bool) (g2_2:cT->lh) (x:O4) (Q:iX.Y->Prop):wpf te xk (be 2 (cE yZ 2 ok2 (GC g2_2)) (be 0 (cE y0 0 ok0 (GD g0_0)) ax)) 1000 Tryz.f129 (iX.inp.inj x).tm (iX.inp.inj x).hp (fnK iX WR Q) (λ_ _=>False)=(acy ok0 g0_0 ok2 g2_2 (x.1.1) (x.1.2.1) (x.1.2.2.1)).wpR Q:=by kernel_rfl
theorem alA (ok0:cJ->Bool) (g0_0:cJ->li) (ok2:cT->Bool) (g2_2:cT->lh) (h0:∀ s:cJ,ok0 s=true->∃ m e,aA (y4) m s=some e/\(GD g0_0 s).run=some e) (h2:∀ s:cT,ok2 s=true->∃ m e,aA (tK) m s=some e/\(GC g2_2 s).run=some e) (pre:O4->Bool) (F:O4->OT iX.Y) (hF:∀ (x:O4) oy,pre x=true->(F x).run=some oy->(acy ok0 g0_0 ok2 g2_2 (x.1.1) (x.1.2.1) (x.1.2.2.1)).run=some oy):aa Tryz.prog 129 (iX.aD pre F):=
 aB al om xj (f:=129) (fn:=Tryz.f129) (c:=ak Tryz.f129) (by kernel_rfl) (by kernel_rfl) (by kernel_rfl) (S:=iX) (k:=0) (by kernel_rfl) (λR hR=>(aG (c:=(ak Tryz.f129)) (by kernel_rfl) (id:=2) (by kernel_rfl) (ba al om xj (sh:=yZ) hR (xs:=aip) (aF (by kernel_rfl) (by kernel_rfl) hR) aN ae (n:=1000) (T:=tK) (λs Q=>ayF s Q) (ok:=ok2) (f:=GC g2_2) h2) (aG (c:=(ak Tryz.f129)) (by kernel_rfl) (id:=0) (by kernel_rfl) (ba al om xj (sh:=y0) hR (xs:=aiq) (aF (by kernel_rfl) (by kernel_rfl) hR) aN ae (n:=1000) (T:=y4) (λs Q=>ayG s Q) (ok:=ok0) (f:=GD g0_0) h0) ae))) (n:=1000) (sel:=WR) (λv o h=>by cases h;rfl) (pre:=pre) (F:=F) (T:=λx=>acy ok0 g0_0 ok2 g2_2 (x.1.1) (x.1.2.1) (x.1.2.2.1)) (λx Q=>aEa ok0 g0_0 ok2 g2_2 x Q) hF
theorem acQ {p:Nat}:∀ (n o x k:Nat),k<2^n->o<p->aA3 p n o x k=o*x^k%p
 |0,o,x,k,hk,ho=>by
  have:k=0:=by omega
  subst this
  show o=_
  rw [Nat.pow_zero,Nat.mul_one,Nat.mod_eq_of_lt ho]
 |n+1,o,x,k,hk,ho=>by
  unfold aA3
  rw [Nat.pow_succ] at hk
  cases h0:Nat.beq k 0
  ·simp only [cond_false]
   have hsq:(x*x%p)^(k/2)%p=x^(2*(k/2))%p:=by
    rw [<-Nat.pow_mod,Nat.pow_mul,Nat.pow_two]
   cases h1:Nat.beq (k%2) 1
   ·have h1':¬k%2=1:=λe=>by rw [e] at h1;cases h1
    simp only [cond_false]
    rw [acQ n _ _ _ (by omega) ho,Nat.mul_mod,hsq,<-Nat.mul_mod,show 2*(k/2)=k by omega]
   ·have h1:=Nat.eq_of_beq_eq_true h1
    simp only [cond_true]
    rw [acQ n _ _ _ (by omega) (Nat.mod_lt _ (by omega)),Nat.mul_mod,hsq,Nat.mod_mod,<-Nat.mul_mod,Nat.mul_assoc,<-Nat.pow_succ',show (2*(k/2)).succ=k by omega]
  ·have h0:=Nat.eq_of_beq_eq_true h0
   subst h0
   simp only [cond_true]
   rw [Nat.pow_zero,Nat.mul_one,Nat.mod_eq_of_lt ho]
theorem at0 {p:Nat} (hp:1<p) (a k:ag):gG p a k=ofN (a.nat^k.nat%p):=by
 rw [Tu (by omega),acQ 256 1 _ _ (iQ k) hp,Nat.one_mul,<-Nat.pow_mod]
theorem aIr {b:ag} {k:Nat} (hk:k<256):(aZ (List.getD (lst b) (Int.toNat (Int.tdiv (k:Int) 64)+0) 0) (((i2u (Int.tmod (k:Int) 64)).toNat:Nat):Int)&&&1==1)=anM b.nat k:=by
 have h:=aBo (b:=b) (n:=255-k) (by omega)
 rw [show (255:Int)-((255-k:Nat):Int)=(k:Int) by omega,show 255-(255-k)=k by omega] at h
 exact h
theorem aBv (x:UInt64):(x&&&1==0)= !(x&&&1==1):=by
 have h:=aep x
 have e:(x&&&1).toNat=x.toNat%2:=by
  rw [UInt64.toNat_and]
  exact Nat.and_two_pow_sub_one_eq_mod x.toNat 1
 have h2:x.toNat%2=0\/x.toNat%2=1:=by omega
 rcases h2 with h2|h2
 ·have:x&&&1=0:=UInt64.toNat_inj.1 (by rw [e,h2];rfl)
  rw [this];rfl
 ·have:x&&&1=1:=UInt64.toNat_inj.1 (by rw [e,h2];rfl)
  rw [this];rfl
def aCa (e:Nat):Nat->Int
 |0=> -1
 |n+1=>cond (anM e n) (n:Int) (aCa e n)
theorem aj2 {e n:Nat} (h:anM e n=false):e/2^n%2=0:=by
 unfold anM at h
 have:¬e/2^n%2=1:=λe=>by rw [e] at h;cases h
 omega
theorem Vu (e:Nat):∀ n,e/2^n=0->∃ t:Nat,aCa e n=(t:Int)-1/\t<=n/\e/2^t=0
 |0,h=>⟨0,rfl,Nat.le_refl _,h⟩
 |n+1,h=>by
  unfold aCa
  cases hb:anM e n
  ·simp only [cond_false]
   have h0:=aj2 hb
   have h1:e/2^n/2=0:=by rw [Nat.div_div_eq_div_mul,<-Nat.pow_succ];exact h
   obtain ⟨t,e1,e2,e3⟩:=Vu e n (by omega)
   exact ⟨t,e1,by omega,e3⟩
  ·exact ⟨n+1,by simp only [cond_true];omega,Nat.le_refl _,h⟩
def Nl (s:Int) (A B:ag) (c2:List UInt64) (O:ag) (i:Int):cJ:=((s,(),(),(),(),i,()),(lst A,lst B,c2,lst O,()))
theorem aHk {B:ag} {k:Nat} (hk:k<256) {α:Type} (z:OT α):(gd [true&&inR (Int.tdiv (k:Int) 64),inB (Int.tdiv (k:Int) 64) 4,decide (Int.toNat (Int.tdiv (k:Int) 64)+0<(lst B).length)] z).run=z.run:=by
 have t1:Int.tdiv (k:Int) 64=((k/64:Nat):Int):=by rw [Int.tdiv_eq_ediv_of_nonneg (by omega)];omega
 refine aj ?_
 simp only [t1,Int.toNat_natCast,Nat.add_zero,cr,List.all_cons,List.all_nil,Bool.and_true,Bool.true_and,Bool.and_eq_true]
 exact ⟨aL (by omega),aM (by omega),decide_eq_true (by omega)⟩
theorem ajw (s:Int) (A B:ag) (c2:List UInt64) (O:ag):∀ n:Nat,n<=256->∃ m,aA y4 m (Nl s A B c2 O ((n:Int)-1))=some ⟨(.exit 0,nz),Nl s A B c2 O (aCa B.nat n)⟩
 |0,_=>⟨1,bc (OT.aq (decide_eq_false (by dsimp only [Nl];omega)))⟩
 |n+1,hn=>by
  have e1:((n+1:Nat):Int)-1=(n:Int):=by omega
  rw [e1]
  have hb:=aIr (b:=B) (k:=n) (by omega)
  unfold aCa
  rcases (Bool.eq_false_or_eq_true (anM B.nat n)).symm with h|h
  ·obtain ⟨m,hm⟩:=ajw s A B c2 O n (by omega)
   rw [h] at hb⊢
   refine ⟨m+1,aJ ?_ hm⟩
   refine (OT.az (decide_eq_true (by dsimp only [Nl];omega))).trans ((aHk (B:=B) (k:=n) (by omega) _).trans ((OT.az ?_).trans ((aj ?_).trans rfl)))
   ·exact (aBv _).trans (congrArg Bool.not hb)
   ·simp only [List.all_cons,List.all_nil,Bool.and_true]
    exact aL (by dsimp only [Nl];omega)
  ·rw [h] at hb⊢
   refine ⟨1,bc ?_⟩
   refine (OT.az (decide_eq_true (by dsimp only [Nl];omega))).trans ((aHk (B:=B) (k:=n) (by omega) _).trans ((OT.aq ?_).trans rfl))
   exact (aBv _).trans (congrArg Bool.not hb)
def WS (s:cJ):Bool:=decide (s.1.2.2.2.2.2.1=255/\s.2.1.length=4/\s.2.2.1.length=4/\s.2.2.2.2.1.length=4)
def ais (s:cJ):li:=((s.1.1,(),(),(),(),aCa (elemOf s.2.2.1).nat 256,()),s.2)
theorem ayJ:∀ s:cJ,WS s=true->∃ m e,aA y4 m s=some e/\(GD ais s).run=some e:=by
 rintro ⟨⟨s,⟨⟩,⟨⟩,⟨⟩,⟨⟩,i,⟨⟩⟩,⟨l0,l1,c2,l3,⟨⟩⟩⟩ h
 have h':=of_decide_eq_true h
 dsimp only at h'
 obtain ⟨rfl,h0,h1,h3⟩:=h'
 obtain ⟨A,rfl⟩:∃ a,l0=lst a:=⟨elemOf l0,(aP h0).symm⟩
 obtain ⟨B,rfl⟩:∃ a,l1=lst a:=⟨elemOf l1,(aP h1).symm⟩
 obtain ⟨O,rfl⟩:∃ a,l3=lst a:=⟨elemOf l3,(aP h3).symm⟩
 obtain ⟨m,hm⟩:=ajw s A B c2 O 256 (by omega)
 exact ⟨m,_,hm,rfl⟩
theorem aFa {s:Int} (hs:au s=true) (A B:ag) (c2:List UInt64) (O:ag) {k:Nat} (hk:k<256) (hO:O=ofN (A.nat^(B.nat/2^(k+1))%pS s)):
 (tK (Nl s A B c2 O (k:Int))).run=some (.inl (Nl s A B c2 (ofN (A.nat^(B.nat/2^k)%pS s)) ((k:Int)-1))):=by
 have hp:=rn hs
 have hb:=aIr (b:=B) (k:=k) hk
 have t1:Int.tdiv (k:Int) 64=((k/64:Nat):Int):=by rw [Int.tdiv_eq_ediv_of_nonneg (by omega)];omega
 have hOn:O.nat=A.nat^(B.nat/2^(k+1))%pS s:=by rw [hO];exact df hp
 have hi:inR ((k:Int)-1)=true:=aL (by omega)
 have hpre:∀ x y,eS ((s,x,y,()),())=true:=λ_ _=>hs
 have hD:dI (pS s) O O=ofN (A.nat^(2*(B.nat/2^(k+1)))%pS s):=by
  unfold dI
  rw [hOn,<-Nat.mul_mod,<-Nat.pow_add,<-Nat.two_mul]
 have hq:B.nat/2^k/2=B.nat/2^(k+1):=by rw [Nat.div_div_eq_div_mul,<-Nat.pow_succ]
 show (Sa s (k:Int) (lst A) (lst B) c2 (lst O)).run=_
 unfold Sa
 simp only [aFF,aFP,cr,hpre,hi]
 refine (OT.az (decide_eq_true (by omega))).trans ((aj ?_).trans ?_)
 ·simp only [t1,Int.toNat_natCast,Nat.add_zero,cr,List.all_cons,List.all_nil,Bool.and_true,Bool.true_and,Bool.and_eq_true]
  exact ⟨rfl,rfl,rfl,aL (by omega),aM (by omega),decide_eq_true (by omega)⟩
 ·rcases (Bool.eq_false_or_eq_true (anM B.nat k)).symm with h|h
  ·have h0:=aj2 h
   rw [h] at hb
   refine (OT.aq hb).trans ((aj rfl).trans ?_)
   rw [hD,<-hq,show 2*(B.nat/2^k/2)=B.nat/2^k by omega]
   rfl
  ·have h0:B.nat/2^k%2=1:=Nat.eq_of_beq_eq_true h
   rw [h] at hb
   refine (OT.az hb).trans ((aj rfl).trans ?_)
   have e:dI (pS s) (dI (pS s) O O) A=ofN (A.nat^(B.nat/2^k)%pS s):=by
    have e2:(dI (pS s) O O).nat=A.nat^(2*(B.nat/2^(k+1)))%pS s:=by rw [hD];exact df hp
    show ofN (_*_%_)=_
    rw [e2,Nat.mod_mul_mod,<-Nat.pow_succ,<-hq,show (2*(B.nat/2^k/2)).succ=B.nat/2^k by omega]
   rw [e]
   rfl
theorem ajv {s:Int} (hs:au s=true) (A B:ag) (c2:List UInt64):∀ (n:Nat) (O:ag),n<=256->O=ofN (A.nat^(B.nat/2^n)%pS s)->
 ∃ m,aA tK m (Nl s A B c2 O ((n:Int)-1))=some ⟨(.exit 2,tJ),(((),(),()),(c2,lst (ofN (A.nat^B.nat%pS s)),()))⟩
 |0,O,_,hO=>by
  rw [Nat.pow_zero,Nat.div_one] at hO
  rw [<-hO]
  exact ⟨1,bc (OT.aq (decide_eq_false (by dsimp only [Nl];omega)))⟩
 |n+1,O,hn,hO=>by
  obtain ⟨m,hm⟩:=ajv hs A B c2 n (ofN (A.nat^(B.nat/2^n)%pS s)) (by omega) rfl
  rw [show ((n+1:Nat):Int)-1=(n:Int) by omega]
  exact ⟨m+1,aJ (aFa hs A B c2 O (by omega) hO) hm⟩
def II (s:cT):Bool:=au s.1.1&&decide (s.1.2.2.2.2.2.1=aCa (elemOf s.2.2.1).nat 256/\s.2.1.length=4/\s.2.2.1.length=4/\s.2.2.2.2.1=lst (ofP (pS s.1.1) ⟨1,0,0,0⟩))
def air (s:cT):lh:=(((),(),()),(s.2.2.2.1,lst (ofN ((elemOf s.2.1).nat^(elemOf s.2.2.1).nat%pS s.1.1)),()))
theorem ayI:∀ s:cT,II s=true->∃ m e,aA tK m s=some e/\(GC air s).run=some e:=by
 rintro ⟨⟨s,⟨⟩,⟨⟩,⟨⟩,⟨⟩,i,⟨⟩⟩,⟨l0,l1,c2,l3,⟨⟩⟩⟩ h
 simp only [II,Bool.and_eq_true,decide_eq_true_eq] at h
 obtain ⟨hs,rfl,h0,h1,rfl⟩:=h
 obtain ⟨A,rfl⟩:∃ a,l0=lst a:=⟨elemOf l0,(aP h0).symm⟩
 obtain ⟨B,rfl⟩:∃ a,l1=lst a:=⟨elemOf l1,(aP h1).symm⟩
 obtain ⟨t,e1,e2,e3⟩:=Vu B.nat 256 (Nat.div_eq_of_lt (iQ B))
 obtain ⟨m,hm⟩:=ajv hs A B c2 t (ofP (pS s) ⟨1,0,0,0⟩) e2 (by rw [e3,Nat.pow_zero];rfl)
 rw [<-e1] at hm
 exact ⟨m,_,hm,rfl⟩
theorem aGN {s:Int} (h:au s=true):1<pS s:=aA5 h
def ny (x:O4):Bool:=au x.1.1
def ar3 (x:O4):OT iX.Y:=.ok ⟨tI,((gG (pS x.1.1) x.1.2.1 x.1.2.2.1,()),())⟩
theorem ayH:aa Tryz.prog 129 (iX.aD ny ar3):=alA WS ais II air ayJ ayI _ _ λx oy hp ho=>by
 rw [<-ho]
 clear ho
 obtain ⟨⟨s,a,b,⟨⟩⟩,⟨⟩⟩:=x
 have hs:au s=true:=hp
 show _=some (⟨tI,((gG (pS s) a b,()),())⟩:iX.Y)
 rw [at0 (aGN hs)]
 refine (OT.az hs).trans ((aj ?_).trans ?_)
 ·simp only [List.all_cons,List.all_nil,Bool.and_true,Bool.and_eq_true]
  refine ⟨decide_eq_true ⟨rfl,rfl,rfl,rfl⟩,?_,rfl,rfl,rfl⟩
  refine (Bool.and_eq_true _ _).mpr ⟨hs,?_⟩
  exact decide_eq_true ⟨rfl,rfl,rfl,rfl⟩
 ·show some (⟨tI,((elemOf (lay [0,0,0,0] (lst (ofN (a.nat^b.nat%pS s))) 4 0),()),())⟩:iX.Y)=_
  rw [aFL _ _ rfl rfl]
  rfl
def Cx:bw:=(iX.aD ny ar3)
theorem acx:aa Tryz.prog 129 Cx:=ayH
theorem acw:aC Cx:=ay
def D8:Env:=aw 129 Cx xk
theorem u4:aK Tryz.prog D8:=af acx om
theorem FK:ar D8:=ab acw FG
theorem L5:aO Tryz.prog te D8:=aE follows al u4 FK
def gn:ap:=⟨[.val true .elem],[],true,0,false⟩
abbrev Cw:Type:=((ag)×Unit)×(Unit)
def q9:Shape:=⟨29,[(1,.ptr 0 0 0),(2,.ptr 1 0 0),(3,.ptr 2 0 0),(4,.val false .int)],[(0,.row .u64),(1,.row .u64),(2,.row .u64)],0,true⟩
abbrev ck:Type:=((Unit)×(Unit)×(Unit)×(Int)×Unit)×((List (UInt64))×(List (UInt64))×(List (UInt64))×Unit)
def o5:Shape:=⟨29,[(2,.ptr 0 0 0),(3,.ptr 1 0 0)],[(0,.row .u64),(1,.row .u64)],0,true⟩
abbrev jw:Type:=((Unit)×(Unit)×Unit)×((List (UInt64))×(List (UInt64))×Unit)
def WM:SE->Option Shape:=gI [(0,o5)] none
def ar2 (a4:Int) (c0:List (UInt64)) (c1:List (UInt64)) (c2:List (UInt64)):OT (Sum ck aI):=
 let z0:Bool:=inB a4 4
 let z1:Nat:=List.length c0
 let z2:List UInt64:=List.set c2 (Int.toNat a4+0) (aZ (List.getD c0 (Int.toNat a4+0) (0:UInt64)) (1:Int))
 let z3:Bool:=decide (Int.toNat a4+0<List.length z2)
 let z4:Bool:=inR (a4+(1:Int))
 (.br (decide (a4<(4:Int)))
 (gd [z0,decide (Int.toNat a4+0<z1),z0,decide (Int.toNat a4+0<List.length c2)] (.br (decide (a4<(3:Int)))
  (gd [z0,z3,z4,inB (a4+(1:Int)) 4,decide (Int.toNat (a4+(1:Int))+0<z1),z0,z3,z4] (.ok (.inl (((),((),((),(a4+(1:Int),())))),(c0,(c1,(List.set z2 (Int.toNat a4+0) (List.getD z2 (Int.toNat a4+0) (0:UInt64)|||bH (List.getD c0 (Int.toNat (a4+(1:Int))+0) (0:UInt64)) (63:Int)),())))))))
  (gd [z4] (.ok (.inl (((),((),((),(a4+(1:Int),())))),(c0,(c1,(z2,())))))))))
 (.ok (.inr ⟨(.exit 0,o5),(((),((),())),(c1,(c2,())))⟩)))
def ib (s:ck):OT (Sum ck aI):=ar2 (s.1.2.2.2.1) (s.2.1) (s.2.2.1) (s.2.2.2.1)
theorem arZ (s:ck) (Q:Sum ck aI->Prop):wps te D8 ax 1000 (bg (ak Tryz.f130) 0) (q9.inj s) (cz q9 WM (Q:Sum q9.T aI->Prop))=(ib s).wpR Q:=by kernel_rfl
def yY (g0_0:ck->jw) (s:ck):OT aI:=(.ok ⟨(.exit 0,o5),g0_0 s⟩)
def ra:av:=⟨[.val true .elem],[],false⟩
def O1:SV->Option av:=λ_=>some ra
def R9 (ok0:ck->Bool) (g0_0:ck->jw) (a0:ag):OT gn.Y:=
 let z0:(PUnit×PUnit×PUnit×Int×PUnit)×List UInt64×List UInt64×List UInt64×PUnit:=(((),(),(),(0:Int),()),[a0.w0,a0.w1,a0.w2,a0.w3],[(0:UInt64),(0:UInt64),(0:UInt64),(0:UInt64)],[(0:UInt64),(0:UInt64),(0:UInt64),(0:UInt64)],())
 let z1:=(g0_0 z0).snd
 let z2:=z1.snd.fst
 let z3:=z1.fst
 let z4:List UInt64:=lay z3 z2 4 (0:UInt64)
 (gd [ok0 z0,decide (4<=List.length z2),decide ((4/1:Nat)+0<=List.length z3),decide (4<=List.length z4)] (.ok ⟨ra,(({w0:=List.getD z4 0 0,w1:=List.getD z4 1 0,w2:=List.getD z4 2 0,w3:=List.getD z4 3 0},()),())⟩))
theorem ayE (ok0:ck->Bool) (g0_0:ck->jw) (x:Cw) (Q:gn.Y->Prop):wpf te D8 (be 0 (cE q9 0 ok0 (yY g0_0)) ax) 1000 Tryz.f130 (gn.inp.inj x).tm (gn.inp.inj x).hp (fnK gn O1 Q) (λ_ _=>False)=(R9 ok0 g0_0 (x.1.1)).wpR Q:=by kernel_rfl
theorem acv (ok0:ck->Bool) (g0_0:ck->jw) (h0:∀ s:ck,ok0 s=true->∃ m e,aA (ib) m s=some e/\(yY g0_0 s).run=some e) (pre:Cw->Bool) (F:Cw->OT gn.Y) (hF:∀ (x:Cw) oy,pre x=true->(F x).run=some oy->(R9 ok0 g0_0 (x.1.1)).run=some oy):aa Tryz.prog 130 (gn.aD pre F):=
 aB al u4 L5 (f:=130) (fn:=Tryz.f130) (c:=ak Tryz.f130) (by kernel_rfl) (by kernel_rfl) (by kernel_rfl) (S:=gn) (k:=0) (by kernel_rfl) (λR hR=>(aG (c:=(ak Tryz.f130)) (by kernel_rfl) (id:=0) (by kernel_rfl) (ba al u4 L5 (sh:=q9) hR (xs:=WM) (aF (by kernel_rfl) (by kernel_rfl) hR) aN ae (n:=1000) (T:=ib) (λs Q=>arZ s Q) (ok:=ok0) (f:=yY g0_0) h0) ae)) (n:=1000) (sel:=O1) (λv o h=>by cases h;rfl) (pre:=pre) (F:=F) (T:=λx=>R9 ok0 g0_0 (x.1.1)) (λx Q=>ayE ok0 g0_0 x Q) hF
def pn (a:ag) (c1 l:List UInt64) (i:Int):ck:=(((),(),(),i,()),(lst a,c1,l,()))
theorem aG4 (a:ag) (c1:List UInt64):(ib (pn a c1 [0,0,0,0] 0)).run=some (.inl (pn a c1 [aZ a.w0 1|||bH a.w1 63,0,0,0] 1)):=rfl
theorem aG3 (a:ag) (c1:List UInt64) (x:UInt64):(ib (pn a c1 [x,0,0,0] 1)).run=some (.inl (pn a c1 [x,aZ a.w1 1|||bH a.w2 63,0,0] 2)):=rfl
theorem aG2 (a:ag) (c1:List UInt64) (x y:UInt64):(ib (pn a c1 [x,y,0,0] 2)).run=some (.inl (pn a c1 [x,y,aZ a.w2 1|||bH a.w3 63,0] 3)):=rfl
theorem aG1 (a:ag) (c1:List UInt64) (x y z:UInt64):(ib (pn a c1 [x,y,z,0] 3)).run=some (.inl (pn a c1 [x,y,z,aZ a.w3 1] 4)):=rfl
theorem aG0 (a:ag) (c1 l:List UInt64):(ib (pn a c1 l 4)).run=some (.inr ⟨(.exit 0,o5),(((),(),()),(c1,l,()))⟩):=rfl
def O3 (s:ck):Bool:=decide (s.1.2.2.2.1=0/\s.2.1.length=4/\s.2.2.2.1= [0,0,0,0])
def WQ (s:ck):jw:=(((),(),()),(s.2.2.1,lst (dj (elemOf s.2.1)),()))
theorem ar1:∀ s:ck,O3 s=true->∃ m e,aA ib m s=some e/\(yY WQ s).run=some e:=by
 rintro ⟨⟨⟨⟩,⟨⟩,⟨⟩,i,⟨⟩⟩,⟨l,c1,c2,⟨⟩⟩⟩ h
 have h':=of_decide_eq_true h
 dsimp only at h'
 obtain ⟨rfl,hl,rfl⟩:=h'
 obtain ⟨a,rfl⟩:∃ a,l=lst a:=⟨elemOf l,(aP hl).symm⟩
 refine ⟨_,_,aJ (aG4 a c1) (aJ (aG3 a c1 _) (aJ (aG2 a c1 _ _) (aJ (aG1 a c1 _ _ _) (bc (aG0 a c1 _))))),?_⟩
 have e: [aZ a.w0 1|||bH a.w1 63,aZ a.w1 1|||bH a.w2 63,aZ a.w2 1|||bH a.w3 63,aZ a.w3 1]=lst (dj a):=by rw [ai1];rfl
 rw [e]
 rfl
def O2 (_:Cw):Bool:=true
def aio (x:Cw):OT gn.Y:=.ok ⟨ra,((dj x.1.1,()),())⟩
theorem ar0:aa Tryz.prog 130 (gn.aD O2 aio):=acv O3 WQ ar1 _ _ λx oy hp ho=>by
 rw [<-ho]
 clear ho
 obtain ⟨⟨a,⟨⟩⟩,⟨⟩⟩:=x
 refine (aj ?_).trans ?_
 ·simp only [List.all_cons,List.all_nil,Bool.and_true,Bool.and_eq_true]
  exact ⟨decide_eq_true ⟨rfl,rfl,rfl⟩,rfl,rfl,rfl⟩
 ·show some (⟨ra,((elemOf (lay [0,0,0,0] (lst (dj a)) 4 0),()),())⟩:gn.Y)=some ⟨ra,((dj a,()),())⟩
  rw [aFL _ _ rfl rfl]
  rfl
def wo:bw:=(gn.aD O2 aio)
theorem WO:aa Tryz.prog 130 wo:=ar0
theorem WN:aC wo:=ay
def uZ:Env:=aw 130 wo D8
theorem pU:aK Tryz.prog uZ:=af WO u4
theorem AP:ar uZ:=ab WN FK
theorem FJ:aO Tryz.prog te uZ:=aE follows al pU AP
def dL:ap:=⟨[.val true .elem,.val false .int],[],true,0,false⟩
abbrev nw:Type:=((ag)×(Int)×Unit)×(Unit)
def lc:Shape:=⟨14,[(1,.val false .int),(2,.ptr 0 0 0),(4,.ptr 1 0 0),(5,.val false .int)],[(0,.row .u64),(1,.row .u64)],0,true⟩
abbrev bE:Type:=((Int)×(Unit)×(Unit)×(Int)×Unit)×((List (UInt64))×(List (UInt64))×Unit)
def j7:Shape:=⟨14,[(2,.ptr 0 0 0),(4,.ptr 1 0 0)],[(0,.row .u64),(1,.row .u64)],0,true⟩
abbrev gg:Type:=((Unit)×(Unit)×Unit)×((List (UInt64))×(List (UInt64))×Unit)
def IG:SE->Option Shape:=gI [(0,j7)] none
def acu (a1:Int) (a5:Int) (c0:List (UInt64)) (c1:List (UInt64)):OT (Sum bE aI):=
 let z0:Nat:=List.length c0
 let z1:ag:=dj {w0:=List.getD c0 0 0,w1:=List.getD c0 1 0,w2:=List.getD c0 2 0,w3:=List.getD c0 3 0}
 (.br (decide (a5<a1))
 (gd [decide (4<=z0),decide ((4/1:Nat)+0<=z0),inR (a5+(1:Int))] (.ok (.inl ((a1,((),((),(a5+(1:Int),())))),(List.set (List.set (List.set (List.set c0 0 z1.w0) 1 z1.w1) 2 z1.w2) 3 z1.w3,(c1,()))))))
 (.ok (.inr ⟨(.exit 0,j7),(((),((),())),(c0,(c1,())))⟩)))
def lg (s:bE):OT (Sum bE aI):=acu (s.1.1) (s.1.2.2.2.1) (s.2.1) (s.2.2.1)
theorem acq (s:bE) (Q:Sum bE aI->Prop):wps te uZ ax 1000 (bg (ak Tryz.f132) 0) (lc.inj s) (cz lc IG (Q:Sum lc.T aI->Prop))=(lg s).wpR Q:=by kernel_rfl
def o4 (g0_0:bE->gg) (s:bE):OT aI:=(.ok ⟨(.exit 0,j7),g0_0 s⟩)
def lf:av:=⟨[.val true .elem],[],false⟩
def EK:SV->Option av:=λ_=>some lf
def Cv (ok0:bE->Bool) (g0_0:bE->gg) (a0:ag) (a1:Int):OT dL.Y:=
 let z0:(Int×PUnit×PUnit×Int×PUnit)×List UInt64×List UInt64×PUnit:=((a1,(),(),(0:Int),()),[a0.w0,a0.w1,a0.w2,a0.w3],[(0:UInt64),(0:UInt64),(0:UInt64),(0:UInt64)],())
 let z1:=(g0_0 z0).snd
 let z2:=z1.fst
 let z3:=z1.snd.fst
 let z4:List UInt64:=lay z3 z2 4 (0:UInt64)
 (gd [ok0 z0,decide (4<=List.length z2),decide ((4/1:Nat)+0<=List.length z3),decide (4<=List.length z4)] (.ok ⟨lf,(({w0:=List.getD z4 0 0,w1:=List.getD z4 1 0,w2:=List.getD z4 2 0,w3:=List.getD z4 3 0},()),())⟩))
theorem alz (ok0:bE->Bool) (g0_0:bE->gg) (x:nw) (Q:dL.Y->Prop):wpf te uZ (be 0 (cE lc 0 ok0 (o4 g0_0)) ax) 1000 Tryz.f132 (dL.inp.inj x).tm (dL.inp.inj x).hp (fnK dL EK Q) (λ_ _=>False)=(Cv ok0 g0_0 (x.1.1) (x.1.2.1)).wpR Q:=by kernel_rfl
theorem R8 (ok0:bE->Bool) (g0_0:bE->gg) (h0:∀ s:bE,ok0 s=true->∃ m e,aA (lg) m s=some e/\(o4 g0_0 s).run=some e) (pre:nw->Bool) (F:nw->OT dL.Y) (hF:∀ (x:nw) oy,pre x=true->(F x).run=some oy->(Cv ok0 g0_0 (x.1.1) (x.1.2.1)).run=some oy):aa Tryz.prog 132 (dL.aD pre F):=
 aB al pU FJ (f:=132) (fn:=Tryz.f132) (c:=ak Tryz.f132) (by kernel_rfl) (by kernel_rfl) (by kernel_rfl) (S:=dL) (k:=0) (by kernel_rfl) (λR hR=>(aG (c:=(ak Tryz.f132)) (by kernel_rfl) (id:=0) (by kernel_rfl) (ba al pU FJ (sh:=lc) hR (xs:=IG) (aF (by kernel_rfl) (by kernel_rfl) hR) aN ae (n:=1000) (T:=lg) (λs Q=>acq s Q) (ok:=ok0) (f:=o4 g0_0) h0) ae)) (n:=1000) (sel:=EK) (λv o h=>by cases h;rfl) (pre:=pre) (F:=F) (T:=λx=>Cv ok0 g0_0 (x.1.1) (x.1.2.1)) (λx Q=>alz ok0 g0_0 x Q) hF
def EL (s:bE):Bool:=decide (s.1.2.2.2.1=0/\0<=s.1.1/\s.1.1<=1000000/\s.2.1.length=4)
def IH (s:bE):gg:=(((),(),()),(lst (dK (elemOf s.2.1) s.1.1.toNat),s.2.2.1,()))
theorem acs:∀ s:bE,EL s=true->∃ m e,aA lg m s=some e/\(o4 IH s).run=some e:=by
 rintro ⟨⟨k,⟨⟩,⟨⟩,i,⟨⟩⟩,⟨l,o,⟨⟩⟩⟩ h
 have h':=of_decide_eq_true h
 dsimp only at h'
 obtain ⟨rfl,h0,h1,hl⟩:=h'
 obtain ⟨a,rfl⟩:∃ a,l=lst a:=⟨elemOf l,(aP hl).symm⟩
 have:=(aR (T:=lg) (λi a=>(((k,(),(),(i:Int),()),(lst a,o,())):bE)) (λ_ e=>dj e)
  (λa=>(⟨(.exit 0,j7),(((),(),()),(lst a,o,()))⟩:aI)) k.toNat a (λ_ _=>True) trivial (λi a hi _=>⟨?_,trivial⟩) (λa _=> ?_)).1
 ·rw [wH] at this
  obtain ⟨m,hm⟩:=this
  exact ⟨m,_,hm,rfl⟩
 ·refine (OT.az (decide_eq_true (by dsimp only;omega))).trans ((aj ?_).trans rfl)
  simp only [List.all_cons,List.all_nil,Bool.and_true,Bool.and_eq_true]
  exact ⟨rfl,rfl,aL (by omega)⟩
 ·exact OT.aq (decide_eq_false (by dsimp only;omega))
def q8 (x:nw):Bool:=decide (0<=x.1.2.1/\x.1.2.1<=1000000)
def O0 (x:nw):OT dL.Y:=.ok ⟨lf,((dK x.1.1 x.1.2.1.toNat,()),())⟩
theorem acr:aa Tryz.prog 132 (dL.aD q8 O0):=R8 EL IH acs _ _ λx oy hp ho=>by
 rw [<-ho]
 clear ho
 obtain ⟨⟨a,k,⟨⟩⟩,⟨⟩⟩:=x
 have hp':0<=k/\k<=1000000:=of_decide_eq_true hp
 refine (aj ?_).trans ?_
 ·simp only [List.all_cons,List.all_nil,Bool.and_true,Bool.and_eq_true]
  exact ⟨decide_eq_true ⟨rfl,hp'.1,hp'.2,rfl⟩,rfl,rfl,rfl⟩
 ·show some (⟨lf,((elemOf (lay [0,0,0,0] (lst (dK a k.toNat)) 4 0),()),())⟩:dL.Y)=some ⟨lf,((dK a k.toNat,()),())⟩
  rw [aFL _ _ rfl rfl]
  rfl
def o3:bw:=(dL.aD q8 O0)
theorem M5:aa Tryz.prog 132 o3:=acr
theorem M4:aC o3:=ay
def D7:Env:=aw 132 o3 uZ
theorem Uv:aK Tryz.prog D7:=af M5 pU
theorem L4:ar D7:=ab M4 AP
end Go.Proofs.YtohjofabochgfaaGreat

namespace Go.Proofs.YtohjofabochgfaaGreat
namespace Sx
open Go Go.RowKit Go.ChangeShapes Go.WideShapes Go.ChangeAt
section
variable {H:Type} {enc:TypeId×Value->H} {P:Program} {te:TE} (hte:l7 P te) {w:World} {sp:Nat->Bool}
include hte
theorem HR {T e:TypeId} {ti ei:TI} (hT:te T=some ti) (hd:ti.desc=.slice e) (hei:te e=some ei) {ad:Option Addr} {n cap:Nat} {d:DataW H} {ps:List MemPlace}
 (h:DataW.Trod enc P w 0 sp true T (.slice ad n cap) d ps) (hw:∀ n ∈ d.weights P T,n<=reachBytes):n*ei.bytes<=reachBytes:=by
 obtain ⟨fuel,hr⟩:=h
 obtain ⟨ds,hu,hds⟩:=(hte T ti hT).desc
 rw [hd] at hds
 simp only at hds
 subst hds
 cases fuel with
 |zero=>simp [DataW.trod] at hr
 |succ fuel=>
  have hone:(Value.slice ad n cap).cells.toList= [.slice ad n cap]:=rfl
  rw [hone] at hr
  simp only [DataW.trod,hu] at hr
  cases ad with
  |none=>
   rcases n with _|n
   ·rw [Nat.zero_mul];exact Nat.zero_le _
   ·cases cap<;>cases hr
  |some a=>
   simp only at hr
   split at hr
   ·simp only [Option.bind_eq_some_iff,Option.map_eq_some_iff] at hr
    obtain ⟨elems,hm,rest,_,hx⟩:=hr
    cases hx
    obtain ⟨m1,_⟩:=CR hm
    rw [List.length_range] at m1
    have hwt:=hw ((elems.length+rest.length)*P.bytesOf e) (by simp [DataW.weights,hu])
    rw [Qk hte hei] at hwt
    refine Nat.le_trans (Nat.mul_le_mul_right _ ?_) hwt
    omega
   ·cases hr
end
end Sx
end Go.Proofs.YtohjofabochgfaaGreat

namespace Go.Proofs.YtohjofabochgfaaGreat
namespace Sx
open Go
theorem OT.T7 {α β:Type} {f:α->OT β}:∀ {t:OT α} {a:α} {b:β},t.run=some a->(f a).run=some b->(t.bind f).run=some b
 |.ok x,a,b,h,h2=>by
  cases h
  exact h2
 |.br c x y,a,b,h,h2=>by
  cases c
  ·exact OT.T7 (t:=y) h h2
  ·exact OT.T7 (t:=x) h h2
 |.fail,a,b,h,_=>by cases h
theorem fj {P:Program} {n:FuncId} {S:ap} {pre pre':S.T->Bool} {F F':S.T->OT S.Y} (h:aa P n (S.aD pre F))
 (hw:∀ x oy,pre' x=true->(F' x).run=some oy->pre x=true/\(F x).run=some oy):aa P n (S.aD pre' F'):=by
 refine ⟨λR w d args vs out hm hr hrun=>h.calls R w d args vs out hm hr ?_⟩
 simp only [ap.aD] at hrun⊢
 split at hrun
 ·cases hrun
 ·rename_i x hx
  obtain ⟨hp,hrun⟩:=OT.aH hrun
  obtain ⟨oy,h1,h2⟩:=OT.run_bind hrun
  obtain ⟨h3,h4⟩:=hw x oy hp h1
  rw [h3]
  exact OT.T7 h4 h2
end Sx
end Go.Proofs.YtohjofabochgfaaGreat

namespace Go.Proofs.YtohjofabochgfaaGreat
open Sx Go
set_option maxRecDepth 100000
abbrev ail:ap:=hZ
def ki (x:EJ):Bool:=au x.1.1
def aim (x:EJ):OT hZ.Y:=.ok ⟨j6,(((aS x.1.1.toNat).1,((0:Int),())),())⟩
theorem arV:aa Tryz.prog 92 (ail.aD ki aim):=fj (S:=hZ) ain λx oy hp ho=>⟨rfl,(OT.az (b:=au x.1.1) hp).trans ho⟩
def wm:bw:=(ail.aD ki aim)
theorem WG:aa Tryz.prog 92 wm:=arV
theorem WE:aC wm:=ay
def Uu:Env:=aw 92 wm D7
theorem aeY:aK Tryz.prog Uu:=af WG Uv
theorem Ut:ar Uu:=ab WE L4
abbrev ait:ap:=ij
def CB (x:EP):Bool:=au x.1.1
def aiu (x:EP):OT ij.Y:=.ok ⟨pb,(((aS x.1.1.toNat).2.1,((0:Int),())),())⟩
theorem ar5:aa Tryz.prog 131 (ait.aD CB aiu):=fj (S:=ij) aiv λx oy hp ho=>⟨rfl,(OT.az (b:=au x.1.1) hp).trans ho⟩
def wu:bw:=(ait.aD CB aiu)
theorem WX:aa Tryz.prog 131 wu:=ar5
theorem WW:aC wu:=ay
def Ux:Env:=aw 131 wu Uu
theorem ae0:aK Tryz.prog Ux:=af WX aeY
theorem Uw:ar Ux:=ab WW Ut
abbrev arN:ap:=k8
def q6 (x:WA):Bool:=au x.1.1
def arO (x:WA):OT k8.Y:=.ok ⟨mR,((ofP (pS x.1.1) x.1.2.1,()),())⟩
theorem ayy:aa Tryz.prog 62 (arN.aD q6 arO):=fj (S:=k8) arR λx oy hp ho=>⟨rfl,(OT.az (b:=au x.1.1) hp).trans ho⟩
def Cp:bw:=(arN.aD q6 arO)
theorem ab5:aa Tryz.prog 62 Cp:=ayy
theorem ab4:aC Cp:=ay
def LW:Env:=aw 62 Cp Ux
theorem D3:aK Tryz.prog LW:=af ab5 ae0
theorem FE:ar LW:=ab ab4 Uw
theorem aeX:aO Tryz.prog te LW:=aE follows al D3 FE
def k6:ap:=⟨[],[],true,0,false⟩
abbrev OK:Type:=(Unit)×(Unit)
def RQ:av:=⟨[.val true (.prod .elem (.prod .elem .bool))],[],false⟩
def Wl:SV->Option av:=λ_=>some RQ
def abX:OT k6.Y:=
 let z0:ag:= {w0:=0,w1:=0,w2:=0,w3:=0}
 (.ok ⟨RQ,(((z0,z0,true),()),())⟩)
theorem aDY (x:OK) (Q:k6.Y->Prop):wpf te LW ax 1000 Tryz.f93 (k6.inp.inj x).tm (k6.inp.inj x).hp (fnK k6 Wl Q) (λ_ _=>False)=(abX).wpR Q:=by kernel_rfl
theorem alk (pre:OK->Bool) (F:OK->OT k6.Y) (hF:∀ (x:OK) oy,pre x=true->(F x).run=some oy->(abX).run=some oy):aa Tryz.prog 93 (k6.aD pre F):=
 aB al D3 aeX (f:=93) (fn:=Tryz.f93) (c:=ak Tryz.f93) (by kernel_rfl) (by kernel_rfl) (by kernel_rfl) (S:=k6) (k:=0) (by kernel_rfl) (λR hR=>ae) (n:=1000) (sel:=Wl) (λv o h=>by cases h;rfl) (pre:=pre) (F:=F) (T:=λx=>abX) (λx Q=>aDY x Q) hF
def Wm (_:OK):Bool:=true
def arw (_:OK):OT k6.Y:=.ok ⟨RQ,((aiU,()),())⟩
theorem ays:aa Tryz.prog 93 (k6.aD Wm arw):=alk _ _ λx oy _ ho=>ho
def Ci:bw:=(k6.aD Wm arw)
theorem abW:aa Tryz.prog 93 Ci:=ays
theorem abV:aC Ci:=ay
def LS:Env:=aw 93 Ci LW
theorem D1:aK Tryz.prog LS:=af abW D3
theorem FD:ar LS:=ab abV FE
theorem aeW:aO Tryz.prog te LS:=aE follows al D1 FD
def Iq:ap:=⟨[.val false .int],[],true,0,false⟩
abbrev aFH:Type:=((Int)×Unit)×(Unit)
def arA:av:=⟨[.val true .elem],[],false⟩
def arz:SV->Option av:=λ_=>some arA
def aDZ (a0:Int):OT Iq.Y:=
 (gd [inB a0 4,decide (Int.toNat a0+0<4)] (.ok ⟨arA,(({w0:=List.getD [(23:UInt64),(21:UInt64),(5:UInt64),(5:UInt64)] (Int.toNat a0+0) (0:UInt64),w1:=0,w2:=0,w3:=0},()),())⟩))
theorem aHZ (x:aFH) (Q:Iq.Y->Prop):wpf te LS ax 1000 Tryz.f135 (Iq.inp.inj x).tm (Iq.inp.inj x).hp (fnK Iq arz Q) (λ_ _=>False)=(aDZ (x.1.1)).wpR Q:=by kernel_rfl
theorem ayu (pre:aFH->Bool) (F:aFH->OT Iq.Y) (hF:∀ (x:aFH) oy,pre x=true->(F x).run=some oy->(aDZ (x.1.1)).run=some oy):aa Tryz.prog 135 (Iq.aD pre F):=
 aB al D1 aeW (f:=135) (fn:=Tryz.f135) (c:=ak Tryz.f135) (by kernel_rfl) (by kernel_rfl) (by kernel_rfl) (S:=Iq) (k:=0) (by kernel_rfl) (λR hR=>ae) (n:=1000) (sel:=arz) (λv o h=>by cases h;rfl) (pre:=pre) (F:=F) (T:=λx=>aDZ (x.1.1)) (λx Q=>aHZ x Q) hF
def abZ (x:aFH):Bool:=au x.1.1
def aGH (x:aFH):OT Iq.Y:=.ok ⟨arA,((bS x.1.1,()),())⟩
theorem aGG:aa Tryz.prog 135 (Iq.aD abZ aGH):=ayu _ _ λx oy hp ho=>by
 rw [<-ho]
 clear ho
 obtain ⟨⟨s,⟨⟩⟩,⟨⟩⟩:=x
 rcases ca hp with h|h|h|h
 all_goals
  have h:s=_:=h
  subst h
  rfl
def RU:bw:=(Iq.aD abZ aGH)
theorem arB:aa Tryz.prog 135 RU:=aGG
theorem ary:aC RU:=ay
def avl:Env:=aw 135 RU LS
theorem Us:aK Tryz.prog avl:=af arB D1
theorem QH:ar avl:=ab ary FD
theorem avk:aO Tryz.prog te avl:=aE follows al Us QH
def gl:ap:=⟨[.val false .int,.val true .elem],[],true,0,false⟩
abbrev Cj:Type:=((Int)×(ag)×Unit)×(Unit)
def yP:av:=⟨[.val true .elem],[],false⟩
def OM:SV->Option av:=λ_=>some yP
def RT (a0:Int) (a1:ag):OT gl.Y:=
 let z0:Nat:=pS a0
 let z1:ag:=dI z0 a1 a1
 let z2:ag:=dI z0 a1 z1
 let z3:ag:=bS a0
 (gd [eS ((a0,a1,a1,()),()),eS ((a0,a1,z1,()),()),abZ ((a0,()),()),IX ((a0,z2,z3,()),())] (.ok ⟨yP,((vh z0 z2 z3,()),())⟩))
theorem ayt (x:Cj) (Q:gl.Y->Prop):wpf te avl ax 1000 Tryz.f95 (gl.inp.inj x).tm (gl.inp.inj x).hp (fnK gl OM Q) (λ_ _=>False)=(RT (x.1.1) (x.1.2.1)).wpR Q:=by kernel_rfl
theorem abY (pre:Cj->Bool) (F:Cj->OT gl.Y) (hF:∀ (x:Cj) oy,pre x=true->(F x).run=some oy->(RT (x.1.1) (x.1.2.1)).run=some oy):aa Tryz.prog 95 (gl.aD pre F):=
 aB al Us avk (f:=95) (fn:=Tryz.f95) (c:=ak Tryz.f95) (by kernel_rfl) (by kernel_rfl) (by kernel_rfl) (S:=gl) (k:=0) (by kernel_rfl) (λR hR=>ae) (n:=1000) (sel:=OM) (λv o h=>by cases h;rfl) (pre:=pre) (F:=F) (T:=λx=>RT (x.1.1) (x.1.2.1)) (λx Q=>ayt x Q) hF
theorem asC (p:Nat) (a b:ag):dI p a b=dI p b a:=by unfold dI;rw [Nat.mul_comm]
def tC (x:Cj):Bool:=au x.1.1
def aic (x:Cj):OT gl.Y:=.ok ⟨yP,((Gf (pS x.1.1) x.1.2.1 (bS x.1.1),()),())⟩
theorem arx:aa Tryz.prog 95 (gl.aD tC aic):=abY _ _ λx oy hp ho=>by
 rw [<-ho]
 clear ho
 obtain ⟨⟨s,a,⟨⟩⟩,⟨⟩⟩:=x
 have hs:au s=true:=hp
 show _=some (⟨yP,((Gf (pS s) a (bS s),()),())⟩:gl.Y)
 unfold Gf
 rw [asC _ (dI (pS s) a a) a]
 refine (aj ?_).trans rfl
 simp only [List.all_cons,List.all_nil,Bool.and_true,Bool.and_eq_true]
 exact ⟨hs,hs,hs,hs⟩
def wi:bw:=(gl.aD tC aic)
theorem Wp:aa Tryz.prog 95 wi:=arx
theorem Wo:aC wi:=ay
def pQ:Env:=aw 95 wi avl
theorem lU:aK Tryz.prog pQ:=af Wp Us
theorem AH:ar pQ:=ab Wo QH
theorem sL:aO Tryz.prog te pQ:=aE follows al lU AH
def gm:ap:=⟨[.val false .int,.val true .elem],[],true,0,false⟩
abbrev Cn:Type:=((Int)×(ag)×Unit)×(Unit)
def qW:Shape:=⟨114,[(0,.val false .int),(4,.ptr 0 0 0),(10,.ptr 1 0 0),(14,.ptr 2 0 0),(15,.ptr 3 0 0),(16,.ptr 4 0 0),(17,.val false .int)],[(0,.row .u64),(1,.row .u64),(2,.row .u64),(3,.row .u64),(4,.row .u64)],0,true⟩
abbrev cj:Type:=((Int)×(Unit)×(Unit)×(Unit)×(Unit)×(Unit)×(Int)×Unit)×((List (UInt64))×(List (UInt64))×(List (UInt64))×(List (UInt64))×(List (UInt64))×Unit)
def qV:Shape:=⟨114,[(0,.val false .int),(4,.ptr 0 0 0),(10,.ptr 1 0 0),(14,.ptr 2 0 0),(15,.ptr 3 0 0),(16,.ptr 4 0 0),(17,.val false .int),(18,.ptr 5 0 0),(19,.val false .int)],[(0,.row .u64),(1,.row .u64),(2,.row .u64),(3,.row .u64),(4,.row .u64),(5,.row .u64)],0,true⟩
abbrev bz:Type:=((Int)×(Unit)×(Unit)×(Unit)×(Unit)×(Unit)×(Int)×(Unit)×(Int)×Unit)×((List (UInt64))×(List (UInt64))×(List (UInt64))×(List (UInt64))×(List (UInt64))×(List (UInt64))×Unit)
def oW:Shape:=⟨114,[(0,.val false .int),(4,.ptr 0 0 0),(10,.ptr 1 0 0),(14,.ptr 2 0 0),(15,.ptr 3 0 0),(16,.ptr 4 0 0),(17,.val false .int),(18,.ptr 5 0 0)],[(0,.row .u64),(1,.row .u64),(2,.row .u64),(3,.row .u64),(4,.row .u64),(5,.row .u64)],0,true⟩
abbrev eI:Type:=((Int)×(Unit)×(Unit)×(Unit)×(Unit)×(Unit)×(Int)×(Unit)×Unit)×((List (UInt64))×(List (UInt64))×(List (UInt64))×(List (UInt64))×(List (UInt64))×(List (UInt64))×Unit)
def Ws:SE->Option Shape:=gI [(2,oW)] none
def arI (a0:Int) (a17:Int) (a19:Int) (c0:List (UInt64)) (c1:List (UInt64)) (c2:List (UInt64)) (c3:List (UInt64)) (c4:List (UInt64)) (c5:List (UInt64)):OT (Sum bz aI):=
 let z0:Nat:=List.length c5
 let z1:Bool:=decide (4<=z0)
 let z2:ag:= {w0:=List.getD c5 0 0,w1:=List.getD c5 1 0,w2:=List.getD c5 2 0,w3:=List.getD c5 3 0}
 let z3:ag:=dI (pS a0) z2 z2
 (.br (decide (a19<a17))
 (gd [z1,z1,eS ((a0,z2,z2,()),()),decide ((4/1:Nat)+0<=z0),inR (a19+(1:Int))] (.ok (.inl ((a0,((),((),((),((),((),(a17,((),(a19+(1:Int),()))))))))),(c0,(c1,(c2,(c3,(c4,(List.set (List.set (List.set (List.set c5 0 z3.w0) 1 z3.w1) 2 z3.w2) 3 z3.w3,()))))))))))
 (.ok (.inr ⟨(.exit 2,oW),((a0,((),((),((),((),((),(a17,((),())))))))),(c0,(c1,(c2,(c3,(c4,(c5,())))))))⟩)))
def qX (s:bz):OT (Sum bz aI):=arI (s.1.1) (s.1.2.2.2.2.2.2.1) (s.1.2.2.2.2.2.2.2.2.1) (s.2.1) (s.2.2.1) (s.2.2.2.1) (s.2.2.2.2.1) (s.2.2.2.2.2.1) (s.2.2.2.2.2.2.1)
theorem arD (s:bz) (Q:Sum bz aI->Prop):wps te pQ ax 1000 (bg (bg (ak Tryz.f94) 0) 2) (qV.inj s) (cz qV Ws (Q:Sum qV.T aI->Prop))=(qX s).wpR Q:=by kernel_rfl
def yR (g2_2:bz->eI) (s:bz):OT aI:=(.ok ⟨(.exit 2,oW),g2_2 s⟩)
def oX:Shape:=⟨114,[(0,.val false .int),(4,.ptr 0 0 0),(14,.ptr 1 0 0)],[(0,.row .u64),(1,.row .u64)],0,true⟩
abbrev ju:Type:=((Int)×(Unit)×(Unit)×Unit)×((List (UInt64))×(List (UInt64))×Unit)
def Wt:SE->Option Shape:=gI [(0,oX)] none
def Is (ok2:bz->Bool) (g2_2:bz->eI) (a0:Int) (a17:Int) (c0:List (UInt64)) (c1:List (UInt64)) (c2:List (UInt64)) (c3:List (UInt64)) (c4:List (UInt64)):OT (Sum cj aI):=
 let z0:(Int×PUnit×PUnit×PUnit×PUnit×PUnit×Int×PUnit×Int×PUnit)×List UInt64×List UInt64×List UInt64×List UInt64×List UInt64×List UInt64×PUnit:=((a0,(),(),(),(),(),a17,(),(1:Int),()),c0,c1,c2,c3,c4,[List.getD c3 0 0,List.getD c3 1 0,List.getD c3 2 0,List.getD c3 3 0],())
 let z1:(Int×PUnit×PUnit×PUnit×PUnit×PUnit×Int×PUnit×PUnit)×List UInt64×List UInt64×List UInt64×List UInt64×List UInt64×List UInt64×PUnit:=g2_2 z0
 let z2:=z1.snd
 let z3:=z2.snd
 let z4:=z3.snd
 let z5:=z4.snd
 let z6:=z5.snd
 let z7:=z6.snd.fst
 let z8:=z3.fst
 let z9:=z4.fst
 let z10:Nat:=List.length z9
 let z11:=z6.fst
 let z12:Nat:=List.length z11
 let z13:Bool:=decide (4<=z12)
 let z14:=z1.fst
 let z15:=z14.fst
 let z16:ag:= {w0:=List.getD z9 0 0,w1:=List.getD z9 1 0,w2:=List.getD z9 2 0,w3:=List.getD z9 3 0}
 let z17:ag:= {w0:=List.getD z11 0 0,w1:=List.getD z11 1 0,w2:=List.getD z11 2 0,w3:=List.getD z11 3 0}
 let z18:ag×PUnit:=(z17,())
 let z19:=z5.fst
 let z20:Nat:=List.length z19
 let z21:Bool:=eS ((z15,z17,z18),())
 let z22:ag:= {w0:=List.getD z19 0 0,w1:=List.getD z19 1 0,w2:=List.getD z19 2 0,w3:=List.getD z19 3 0}
 let z23:Nat:=pS z15
 let z24:ag:=dI z23 z17 z17
 let z25:Bool:=decide ((4/1:Nat)+0<=z12)
 let z26:Bool:=inR (z14.snd.snd.snd.snd.snd.snd.fst-(1:Int))
 let z27:=z2.fst
 let z28:ag:=dI z23 z16 z17
 let z29:ag:=dI z23 z22 z24
 let z30:List UInt64:=List.set (List.set (List.set (List.set z11 0 z24.w0) 1 z24.w1) 2 z24.w2) 3 z24.w3
 (.br (decide ((1:Int)<=a17))
 (gd [decide (4<=List.length c3),ok2 z0,decide (4<=List.length z7),decide (4<=List.length z8)] (.br (!(List.getD z7 0 0==List.getD z8 0 0&&(List.getD z7 1 0==List.getD z8 1 0&&(List.getD z7 2 0==List.getD z8 2 0&&(List.getD z7 3 0==List.getD z8 3 0&&true)))))
  (gd [decide (4<=z10),z13,eS ((z15,z16,z18),()),decide ((4/1:Nat)+0<=z10),decide (4<=z20),z13,z13,z21,eS ((z15,z22,z24,()),()),decide ((4/1:Nat)+0<=z20),z13,z13,z21,z25,z26] (.ok (.inl ((z15,((),((),((),((),((),(z14.snd.snd.snd.snd.snd.snd.fst-(1:Int),()))))))),(z27,(z8,(List.set (List.set (List.set (List.set z9 0 z28.w0) 1 z28.w1) 2 z28.w2) 3 z28.w3,(List.set (List.set (List.set (List.set z19 0 z29.w0) 1 z29.w1) 2 z29.w2) 3 z29.w3,(z30,())))))))))
  (gd [z13,z13,z21,z25,z26] (.ok (.inl ((z15,((),((),((),((),((),(z14.snd.snd.snd.snd.snd.snd.fst-(1:Int),()))))))),(z27,(z8,(z9,(z19,(z30,())))))))))))
 (.ok (.inr ⟨(.exit 0,oX),((a0,((),((),()))),(c0,(c2,())))⟩)))
def nk (ok2:bz->Bool) (g2_2:bz->eI) (s:cj):OT (Sum cj aI):=Is ok2 g2_2 (s.1.1) (s.1.2.2.2.2.2.2.1) (s.2.1) (s.2.2.1) (s.2.2.2.1) (s.2.2.2.2.1) (s.2.2.2.2.2.1)
theorem arE (ok2:bz->Bool) (g2_2:bz->eI) (s:cj) (Q:Sum cj aI->Prop):wps te pQ (be 2 (cE qV 2 ok2 (yR g2_2)) ax) 1000 (bg (ak Tryz.f94) 0) (qW.inj s) (cz qW Wt (Q:Sum qW.T aI->Prop))=(nk ok2 g2_2 s).wpR Q:=by kernel_rfl
def yS (g0_0:cj->ju) (s:cj):OT aI:=(.ok ⟨(.exit 0,oX),g0_0 s⟩)
def fu:av:=⟨[.val true .elem,.val false .int],[],false⟩
def OO:SV->Option av:=λ_=>some fu
def RV (ok2:bz->Bool) (g2_2:bz->eI) (ok0:cj->Bool) (g0_0:cj->ju) (a0:Int) (a1:ag):OT gm.Y:=
 let z0:Int×PUnit:=(a0,())
 let z1:Nat:=pS a0
 let z2:ag:=ofP z1 a1
 let z3:ag:= {w0:=0,w1:=0,w2:=0,w3:=0}
 let z4:ag×Int×UInt64×UInt64×ag:=aS (Int.toNat a0)
 let z5:ag:= {w0:=1,w1:=0,w2:=0,w3:=0}
 let z6:ag:=(ef z4.fst z5).fst
 let z7:ag:=dj z6
 let z8:ag:=gG z1 z2 z7
 let z9:=z4.snd.fst
 let z10:ag:=dK z6 (Int.toNat z9)
 let z11:ag:=dj (oE z10 z5).fst
 let z12:ag×PUnit:=(z10,())
 let z13:ag:= {w0:=5,w1:=0,w2:=0,w3:=0}
 let z14:ag:=gG z1 z2 z11
 let z15:ag:=gG z1 z2 z10
 let z16:ag:=gG z1 z13 z10
 let z17:(Int×PUnit×PUnit×PUnit×PUnit×PUnit×Int×PUnit)×List UInt64×List UInt64×List UInt64×List UInt64×List UInt64×PUnit:=((a0,(),(),(),(),(),z9-(1:Int),()),[(0:UInt64),(0:UInt64),(0:UInt64),(0:UInt64)],[(1:UInt64),(0:UInt64),(0:UInt64),(0:UInt64)],[z14.w0,z14.w1,z14.w2,z14.w3],[z15.w0,z15.w1,z15.w2,z15.w3],[z16.w0,z16.w1,z16.w2,z16.w3],())
 let z18:(Int×PUnit×PUnit×PUnit)×List UInt64×List UInt64×PUnit:=g0_0 z17
 let z19:=z18.snd
 let z20:=z19.snd.fst
 let z21:Nat:=List.length z20
 let z22:UInt64:=List.getD z20 0 0
 let z23:Bool:=decide (4<=z21)
 let z24:=z18.fst.fst
 let z25:ag:= {w0:=z22,w1:=List.getD z20 1 0,w2:=List.getD z20 2 0,w3:=List.getD z20 3 0}
 let z26:ag:=Pq (pS z24) z25
 let z27:List UInt64:=List.set (List.set (List.set (List.set z20 0 z26.w0) 1 z26.w1) 2 z26.w2) 3 z26.w3
 let z28:=z19.fst
 let z29:Nat:=List.length z28
 let z30:List UInt64:=lay z28 z27 4 (0:UInt64)
 let z31:List UInt64:=lay z28 z20 4 (0:UInt64)
 (gd [ki (z0,()),q6 ((a0,a1,()),())] (.br (z2.w0==(0:UInt64)&&(z2.w1==(0:UInt64)&&(z2.w2==(0:UInt64)&&(z2.w3==(0:UInt64)&&true))))
 (.ok ⟨fu,((z3,((0:Int),())),())⟩)
 (gd [ny ((a0,z2,z7,()),())] (.br (!(z8.w0==(1:UInt64)&&(z8.w1==(0:UInt64)&&(z8.w2==(0:UInt64)&&(z8.w3==(0:UInt64)&&true)))))
  (.ok ⟨fu,((z3,((22:Int),())),())⟩)
  (gd [CB (z0,()),q8 ((z6,z9,()),()),ny ((a0,z2,z11,()),()),ny ((a0,z2,z12),()),ny ((a0,z13,z12),()),inR (z9-(1:Int)),ok0 z17,decide (0<z21)] (.br (z22%(2:UInt64)==(1:UInt64))
   (gd [z23,nt ((z24,z25,()),()),decide ((4/1:Nat)+0<=z21),decide (4<=List.length z27),decide ((4/1:Nat)+0<=z29),decide (4<=List.length z30)] (.ok ⟨fu,(({w0:=List.getD z30 0 0,w1:=List.getD z30 1 0,w2:=List.getD z30 2 0,w3:=List.getD z30 3 0},((0:Int),())),())⟩))
   (gd [z23,decide ((4/1:Nat)+0<=z29),decide (4<=List.length z31)] (.ok ⟨fu,(({w0:=List.getD z31 0 0,w1:=List.getD z31 1 0,w2:=List.getD z31 2 0,w3:=List.getD z31 3 0},((0:Int),())),())⟩))))))))
theorem ayw (ok2:bz->Bool) (g2_2:bz->eI) (ok0:cj->Bool) (g0_0:cj->ju) (x:Cn) (Q:gm.Y->Prop):wpf te pQ (be 0 (cE qW 0 ok0 (yS g0_0)) ax) 1000 Tryz.f94 (gm.inp.inj x).tm (gm.inp.inj x).hp (fnK gm OO Q) (λ_ _=>False)=(RV ok2 g2_2 ok0 g0_0 (x.1.1) (x.1.2.1)).wpR Q:=by kernel_rfl
theorem ab2 (ok2:bz->Bool) (g2_2:bz->eI) (ok0:cj->Bool) (g0_0:cj->ju) (h2:∀ s:bz,ok2 s=true->∃ m e,aA (qX) m s=some e/\(yR g2_2 s).run=some e) (h0:∀ s:cj,ok0 s=true->∃ m e,aA (nk ok2 g2_2) m s=some e/\(yS g0_0 s).run=some e) (pre:Cn->Bool) (F:Cn->OT gm.Y) (hF:∀ (x:Cn) oy,pre x=true->(F x).run=some oy->(RV ok2 g2_2 ok0 g0_0 (x.1.1) (x.1.2.1)).run=some oy):aa Tryz.prog 94 (gm.aD pre F):=
 aB al lU sL (f:=94) (fn:=Tryz.f94) (c:=ak Tryz.f94) (by kernel_rfl) (by kernel_rfl) (by kernel_rfl) (S:=gm) (k:=0) (by kernel_rfl) (λR hR=>(aG (c:=(ak Tryz.f94)) (by kernel_rfl) (id:=0) (by kernel_rfl) (ba al lU sL (sh:=qW) hR (xs:=Wt) (aF (by kernel_rfl) (by kernel_rfl) hR) aN (aG (c:=(bg (ak Tryz.f94) 0)) (by kernel_rfl) (id:=2) (by kernel_rfl) (ba al lU sL (sh:=qV) hR (xs:=Ws) (aF (by kernel_rfl) (by kernel_rfl) hR) aN ae (n:=1000) (T:=qX) (λs Q=>arD s Q) (ok:=ok2) (f:=yR g2_2) h2) ae) (n:=1000) (T:=nk ok2 g2_2) (λs Q=>arE ok2 g2_2 s Q) (ok:=ok0) (f:=yS g0_0) h0) ae)) (n:=1000) (sel:=OO) (λv o h=>by cases h;rfl) (pre:=pre) (F:=F) (T:=λx=>RV ok2 g2_2 ok0 g0_0 (x.1.1) (x.1.2.1)) (λx Q=>ayw ok2 g2_2 ok0 g0_0 x Q) hF
def eZ:ag:=⟨1,0,0,0⟩
def sqN (p:Nat) (b:ag) (n:Nat):ag:=upto (λ_ e=>dI p e e) b n
def gz (s:bz):Bool:=au s.1.1&&decide (s.1.2.2.2.2.2.2.2.2.1=1/\s.1.2.2.2.2.2.2.1<=1000/\s.2.2.2.2.2.2.1.length=4)
def k7 (s:bz):eI:=((s.1.1,(),(),(),(),(),s.1.2.2.2.2.2.2.1,(),()),(s.2.1,s.2.2.1,s.2.2.2.1,s.2.2.2.2.1,s.2.2.2.2.2.1,lst (sqN (pS s.1.1) (elemOf s.2.2.2.2.2.2.1) (s.1.2.2.2.2.2.2.1-1).toNat),()))
theorem arG:∀ s:bz,gz s=true->∃ m e,aA qX m s=some e/\(yR k7 s).run=some e:=by
 rintro ⟨⟨s,⟨⟩,⟨⟩,⟨⟩,⟨⟩,⟨⟩,i,⟨⟩,j,⟨⟩⟩,⟨c0,c1,c2,c3,c4,c5,⟨⟩⟩⟩ h
 simp only [gz,Bool.and_eq_true,decide_eq_true_eq] at h
 obtain ⟨hs,rfl,hi,hl⟩:=h
 obtain ⟨t,rfl⟩:∃ a,c5=lst a:=⟨elemOf c5,(aP hl).symm⟩
 have:=(aR (T:=qX) (λk t=>(((s,(),(),(),(),(),i,(),1+(k:Int),()),(c0,c1,c2,c3,c4,lst t,())):bz)) (λ_ e=>dI (pS s) e e)
  (λt=>(⟨(.exit 2,oW),((s,(),(),(),(),(),i,(),()),(c0,c1,c2,c3,c4,lst t,()))⟩:aI)) (i-1).toNat t (λ_ _=>True) trivial (λk t hk _=>⟨?_,trivial⟩) (λt _=> ?_)).1
 ·obtain ⟨m,hm⟩:=this
  exact ⟨m,_,hm,rfl⟩
 ·have e2:(1:Int)+(k:Int)+1=1+((k+1:Nat):Int):=by omega
  rw [<-e2]
  refine (OT.az (decide_eq_true (by dsimp only;omega))).trans ((aj ?_).trans rfl)
  simp only [List.all_cons,List.all_nil,Bool.and_true,Bool.and_eq_true]
  exact ⟨rfl,rfl,hs,rfl,aL (by omega)⟩
 ·exact OT.aq (decide_eq_false (by dsimp only;omega))
abbrev Ton:Type:=ag×ag×ag
def vR (p m:Nat) (k:Nat) (w:Ton):Ton:=cond (eqE (sqN p w.2.1 (m-k-1)) eZ) (w.1,w.2.1,dI p w.2.2 w.2.2) (dI p w.1 w.2.2,dI p w.2.1 (dI p w.2.2 w.2.2),dI p w.2.2 w.2.2)
def Vv (s:Int) (c0:List UInt64) (i:Int) (w:Ton):cj:=((s,(),(),(),(),(),i,()),(c0,lst eZ,lst w.1,lst w.2.1,lst w.2.2,()))
theorem avV {s:Int} (hs:au s=true) (c0:List UInt64) {m k:Nat} (hm:m<=1000) (hk:k<m) (w:Ton):
 (nk gz k7 (Vv s c0 ((m:Int)-(k:Int)) w)).run=some (.inl (Vv s c0 ((m:Int)-((k+1:Nat):Int)) (vR (pS s) m k w))):=by
 obtain ⟨x,b,z⟩:=w
 have e2:(m:Int)-((k+1:Nat):Int)=(m:Int)-(k:Int)-1:=by omega
 have hi:inR ((m:Int)-(k:Int)-1)=true:=aL (by omega)
 have hk2:((m:Int)-(k:Int)-1).toNat=m-k-1:=by omega
 have hg:k7 ((s,(),(),(),(),(),(m:Int)-(k:Int),(),1,()),(c0,lst eZ,lst x,lst b,lst z,lst b,()))=((s,(),(),(),(),(),(m:Int)-(k:Int),(),()),(c0,lst eZ,lst x,lst b,lst z,lst (sqN (pS s) b (m-k-1)),())):=by
  show ((s,(),(),(),(),(),(m:Int)-(k:Int),(),()),(c0,lst eZ,lst x,lst b,lst z,lst (sqN (pS s) b ((m:Int)-(k:Int)-1).toNat),()))=_
  rw [hk2]
 have hok:gz ((s,(),(),(),(),(),(m:Int)-(k:Int),(),1,()),(c0,lst eZ,lst x,lst b,lst z,lst b,()))=true:=
  (Bool.and_eq_true _ _).mpr ⟨hs,decide_eq_true (p:=(1:Int)=1/\(m:Int)-(k:Int)<=1000/\(lst b).length=4) ⟨rfl,by omega,rfl⟩⟩
 have hb: [List.getD (lst b) 0 0,List.getD (lst b) 1 0,List.getD (lst b) 2 0,List.getD (lst b) 3 0]=lst b:=rfl
 have hpre:∀ x y,eS ((s,x,y,()),())=true:=λ_ _=>hs
 show (Is gz k7 s ((m:Int)-(k:Int)) c0 (lst eZ) (lst x) (lst b) (lst z)).run=_
 unfold Is
 simp only [hb,hg,hok]
 refine (OT.az (decide_eq_true (by omega))).trans ((aj rfl).trans ?_)
 unfold vR
 dsimp only
 rw [e2]
 generalize sqN (pS s) b (m-k-1)=t
 rcases (Bool.eq_false_or_eq_true (eqE t eZ)).symm with h|h
 ·refine (OT.az (b:= !eqE t eZ) (by rw [h];rfl)).trans ((aj ?_).trans ?_)
  ·simp only [aFF,aFP,cr,hpre,hi,List.all_cons,List.all_nil,Bool.and_true,Bool.and_eq_true]
   exact ⟨rfl,rfl,trivial,rfl,rfl,rfl,rfl,trivial,trivial,rfl,rfl,rfl,trivial,rfl⟩
  ·rw [h]
   simp only [aFF,aFP]
   rfl
 ·refine (OT.aq (b:= !eqE t eZ) (by rw [h];rfl)).trans ((aj ?_).trans ?_)
  ·simp only [aFF,aFP,cr,hpre,hi,List.all_cons,List.all_nil,Bool.and_true,Bool.and_eq_true]
   exact ⟨rfl,rfl,trivial,rfl⟩
  ·rw [h]
   simp only [aFF,aFP]
   rfl
def avW (p m:Nat) (w:Ton):Ton:=upto (vR p m) w m
def Cm (s:cj):Bool:=au s.1.1&&decide (0<=s.1.2.2.2.2.2.2.1/\s.1.2.2.2.2.2.2.1<=1000/\s.2.2.1= [1,0,0,0]/\s.2.2.2.1.length=4/\s.2.2.2.2.1.length=4/\s.2.2.2.2.2.1.length=4)
def Ir (s:cj):ju:=((s.1.1,(),(),()),(s.2.1,lst (avW (pS s.1.1) s.1.2.2.2.2.2.2.1.toNat (elemOf s.2.2.2.1,elemOf s.2.2.2.2.1,elemOf s.2.2.2.2.2.1)).1,()))
theorem arH:∀ s:cj,Cm s=true->∃ m e,aA (nk gz k7) m s=some e/\(yS Ir s).run=some e:=by
 rintro ⟨⟨s,⟨⟩,⟨⟩,⟨⟩,⟨⟩,⟨⟩,i,⟨⟩⟩,⟨c0,c1,c2,c3,c4,⟨⟩⟩⟩ h
 simp only [Cm,Bool.and_eq_true,decide_eq_true_eq] at h
 obtain ⟨hs,h0,h1,rfl,h2,h3,h4⟩:=h
 obtain ⟨x,rfl⟩:∃ a,c2=lst a:=⟨elemOf c2,(aP h2).symm⟩
 obtain ⟨b,rfl⟩:∃ a,c3=lst a:=⟨elemOf c3,(aP h3).symm⟩
 obtain ⟨z,rfl⟩:∃ a,c4=lst a:=⟨elemOf c4,(aP h4).symm⟩
 obtain ⟨m,rfl⟩:∃ m:Nat,i=(m:Int):=⟨i.toNat,by omega⟩
 have:=(aR (T:=nk gz k7) (λk w=>Vv s c0 ((m:Int)-(k:Int)) w) (vR (pS s) m)
  (λw=>(⟨(.exit 0,oX),((s,(),(),()),(c0,lst w.1,()))⟩:aI)) m (x,b,z) (λ_ _=>True) trivial (λk w hk _=>⟨avV hs c0 (by omega) hk w,trivial⟩) (λw _=> ?_)).1
 ·obtain ⟨n,hn⟩:=this
  refine ⟨n,_,?_,rfl⟩
  have e:Vv s c0 ((m:Int)-((0:Nat):Int)) (x,b,z)=((s,(),(),(),(),(),(m:Int),()),(c0,[1,0,0,0],lst x,lst b,lst z,())):=by
   rw [show (m:Int)-((0:Nat):Int)=(m:Int) by omega]
   rfl
  rw [e] at hn
  exact hn
 ·exact OT.aq (decide_eq_false (by dsimp only [Vv];omega))
def vZ (s:Int) (a:ag):ag:=(avW (pS s) ((aS s.toNat).2.1-1).toNat
 (gG (pS s) a (dj (oE (dK (ef (aS s.toNat).1 eZ).1 (aS s.toNat).2.1.toNat) eZ).1),gG (pS s) a (dK (ef (aS s.toNat).1 eZ).1 (aS s.toNat).2.1.toNat),gG (pS s) ⟨5,0,0,0⟩ (dK (ef (aS s.toNat).1 eZ).1 (aS s.toNat).2.1.toNat))).1
def l5 (p:Nat) (x:ag):ag:=cond (x.w0%2==1) (Pq p x) x
def tD (x:Cn):Bool:=au x.1.1
def aie (x:Cn):OT gm.Y:=.br (dl (ofP (pS x.1.1) x.1.2.1)) (.ok ⟨fu,((⟨0,0,0,0⟩,((0:Int),())),())⟩)
 (.br (eqE (gG (pS x.1.1) (ofP (pS x.1.1) x.1.2.1) (dj (ef (aS x.1.1.toNat).1 eZ).1)) eZ) (.ok ⟨fu,((l5 (pS x.1.1) (vZ x.1.1 (ofP (pS x.1.1) x.1.2.1)),((0:Int),())),())⟩) (.ok ⟨fu,((⟨0,0,0,0⟩,((22:Int),())),())⟩))
theorem avf {s:Int} (hs:au s=true):1<=(aS s.toNat).2.1/\(aS s.toNat).2.1<=32:=by
 rcases ca hs with rfl|rfl|rfl|rfl<;>decide
theorem arF:aa Tryz.prog 94 (gm.aD tD aie):=ab2 gz k7 Cm Ir arG arH _ _ λx oy hp ho=>by
 rw [<-ho]
 clear ho
 obtain ⟨⟨s,a,⟨⟩⟩,⟨⟩⟩:=x
 have hs:au s=true:=hp
 have had:=avf hs
 show _=(OT.br (dl (ofP (pS s) a)) (.ok ⟨fu,((⟨0,0,0,0⟩,((0:Int),())),())⟩) (.br (eqE (gG (pS s) (ofP (pS s) a) (dj (ef (aS s.toNat).1 eZ).1)) eZ) (.ok ⟨fu,((l5 (pS s) (vZ s (ofP (pS s) a)),((0:Int),())),())⟩) (.ok ⟨fu,((⟨0,0,0,0⟩,((22:Int),())),())⟩)):OT gm.Y).run
 refine (aj ?_).trans ?_
 ·simp only [List.all_cons,List.all_nil,Bool.and_true,Bool.and_eq_true]
  exact ⟨hs,hs⟩
 generalize hA:ofP (pS s) a=A
 rcases (Bool.eq_false_or_eq_true (dl A)).symm with hz|hz
 ·refine Eq.trans ?_ (OT.aq (b:=dl A) hz).symm
  refine (OT.aq hz).trans ((aj ?_).trans ?_)
  ·simp only [List.all_cons,List.all_nil,Bool.and_true]
   exact hs
  ·rcases (Bool.eq_false_or_eq_true (eqE (gG (pS s) A (dj (ef (aS s.toNat).1 eZ).1)) eZ)).symm with h1|h1
   ·refine Eq.trans ?_ (OT.aq h1).symm
    exact OT.az (b:= !eqE (gG (pS s) A (dj (ef (aS s.toNat).1 eZ).1)) eZ) (by rw [h1];rfl)
   ·refine Eq.trans ?_ (OT.az h1).symm
    refine (OT.aq (b:= !eqE (gG (pS s) A (dj (ef (aS s.toNat).1 eZ).1)) eZ) (by rw [h1];rfl)).trans ((aj ?_).trans ?_)
    ·simp only [List.all_cons,List.all_nil,Bool.and_true,Bool.and_eq_true]
     refine ⟨hs,decide_eq_true ⟨(by show 0<=(aS s.toNat).2.1;omega),(by show (aS s.toNat).2.1<=1000000;omega)⟩,hs,hs,hs,aL (by omega),(Bool.and_eq_true _ _).mpr ⟨hs,?_⟩,rfl⟩
     exact decide_eq_true ⟨(by show 0<=(aS s.toNat).2.1-1;omega),(by show (aS s.toNat).2.1-1<=1000;omega),rfl,rfl,rfl,rfl⟩
    ·have hg:∀ w x b z:ag,(Ir ((s,(),(),(),(),(),(aS s.toNat).2.1-1,()),([0,0,0,0],[1,0,0,0],[x.w0,x.w1,x.w2,x.w3],[b.w0,b.w1,b.w2,b.w3],[z.w0,z.w1,z.w2,z.w3],())))=((s,(),(),()),([0,0,0,0],lst (avW (pS s) ((aS s.toNat).2.1-1).toNat (x,b,z)).1,())):=λ_ _ _ _=>rfl
     simp only [hg eZ]
     have hR:(avW (pS s) ((aS s.toNat).2.1-1).toNat (gG (pS s) A (dj (oE (dK (ef (aS s.toNat).1 ⟨1,0,0,0⟩).1 (aS s.toNat).2.1.toNat) ⟨1,0,0,0⟩).1),gG (pS s) A (dK (ef (aS s.toNat).1 ⟨1,0,0,0⟩).1 (aS s.toNat).2.1.toNat),gG (pS s) ⟨5,0,0,0⟩ (dK (ef (aS s.toNat).1 ⟨1,0,0,0⟩).1 (aS s.toNat).2.1.toNat))).1=vZ s A:=rfl
     simp only [hR]
     generalize vZ s A=R
     rcases (Bool.eq_false_or_eq_true (R.w0%2==1)).symm with h2|h2
     ·have e:l5 (pS s) R=R:=by unfold l5;rw [h2];rfl
      rw [e]
      exact (OT.aq h2).trans ((aj rfl).trans rfl)
     ·have e:l5 (pS s) R=Pq (pS s) R:=by unfold l5;rw [h2];rfl
      rw [e]
      refine (OT.az h2).trans ((aj ?_).trans rfl)
      simp only [List.all_cons,List.all_nil,Bool.and_true,Bool.and_eq_true]
      exact ⟨rfl,hs,rfl,rfl,rfl,rfl⟩
 ·exact (OT.az hz).trans (OT.az (b:=dl A) hz).symm
def wk:bw:=(gm.aD tD aie)
theorem Wv:aa Tryz.prog 94 wk:=arF
theorem Wu:aC wk:=ay
def AM:Env:=aw 94 wk pQ
theorem xi:aK Tryz.prog AM:=af Wv lU
theorem AL:ar AM:=ab Wu AH
theorem ZV:aO Tryz.prog te AM:=aE follows al xi AL
def kI:ap:=⟨[.val false (.list .u8)],[],true,0,false⟩
abbrev N7:Type:=((List (UInt8))×Unit)×(Unit)
def Q8:av:=⟨[.own 0],[(0,.row .u8)],false⟩
def Vk:SV->Option av:=λ_=>some Q8
def aaT (a0:List (UInt8)):OT kI.Y:=
 (gd [decide ((0+List.length a0)*1<=140737488355328)] (.ok ⟨Q8,(((),()),([]++a0,()))⟩))
theorem aBZ (x:N7) (Q:kI.Y->Prop):wpf te AM ax 1000 Tryz.f32 (kI.inp.inj x).tm (kI.inp.inj x).hp (fnK kI Vk Q) (λ_ _=>False)=(aaT (x.1.1)).wpR Q:=by kernel_rfl
theorem akO (pre:N7->Bool) (F:N7->OT kI.Y) (hF:∀ (x:N7) oy,pre x=true->(F x).run=some oy->(aaT (x.1.1)).run=some oy):aa Tryz.prog 32 (kI.aD pre F):=
 aB al xi ZV (f:=32) (fn:=Tryz.f32) (c:=ak Tryz.f32) (by kernel_rfl) (by kernel_rfl) (by kernel_rfl) (S:=kI) (k:=0) (by kernel_rfl) (λR hR=>ae) (n:=1000) (sel:=Vk) (λv o h=>by cases h;rfl) (pre:=pre) (F:=F) (T:=λx=>aaT (x.1.1)) (λx Q=>aBZ x Q) hF
def mZ (x:N7):Bool:=decide (x.1.1.length<=140737488355328)
def ao2 (x:N7):OT kI.Y:=.ok ⟨Q8,(((),()),(x.1.1,()))⟩
theorem avP:aa Tryz.prog 32 (kI.aD mZ ao2):=akO _ _ λx oy hp ho=>by
 rw [<-ho]
 have hp':x.1.1.length<=140737488355328:=of_decide_eq_true hp
 refine (aj ?_).trans rfl
 simp only [List.all_cons,List.all_nil,Bool.and_true]
 exact decide_eq_true (by omega)
def BK:bw:=(kI.aD mZ ao2)
theorem aaS:aa Tryz.prog 32 BK:=avP
theorem aaR:aC BK:=ay
def DN:Env:=aw 32 BK AM
theorem uU:aK Tryz.prog DN:=af aaS xi
theorem Fp:ar DN:=ab aaR AL
theorem Lx:aO Tryz.prog te DN:=aE follows al uU Fp
def gM:ap:=⟨[.val false (.list .u8)],[],true,0,false⟩
abbrev BD:Type:=((List (UInt8))×Unit)×(Unit)
def qv:Shape:=⟨18,[(3,.own 0),(4,.val false .int)],[(0,.row .u8)],0,true⟩
abbrev cc:Type:=((Unit)×(Int)×Unit)×((List (UInt8))×Unit)
def oI:Shape:=⟨18,[(3,.own 0)],[(0,.row .u8)],0,true⟩
abbrev jn:Type:=((Unit)×Unit)×((List (UInt8))×Unit)
def U5:SE->Option Shape:=gI [(0,oI)] none
def aoR (a4:Int) (c0:List (UInt8)):OT (Sum cc aI):=
 (.br (decide (a4<(8:Int)))
 (gd [inR ((201:Int)+a4),decide ((List.length c0+1)*1<=140737488355328),inR (a4+(1:Int))] (.ok (.inl (((),(a4+(1:Int),())),(c0++ [i2b ((201:Int)+a4)],())))))
 (.ok (.inr ⟨(.exit 0,oI),(((),()),(c0,()))⟩)))
def qw (s:cc):OT (Sum cc aI):=aoR (s.1.2.1) (s.2.1)
theorem aoO (s:cc) (Q:Sum cc aI->Prop):wps te DN ax 1000 (bg (ak Tryz.f12) 0) (qv.inj s) (cz qv U5 (Q:Sum qv.T aI->Prop))=(qw s).wpR Q:=by kernel_rfl
def xK (g0_0:cc->jn) (s:cc):OT aI:=(.ok ⟨(.exit 0,oI),g0_0 s⟩)
def Hq:av:=⟨[.own 0],[(0,.row .u8)],false⟩
def NO:SV->Option av:=λ_=>some Hq
def Q4 (ok0:cc->Bool) (g0_0:cc->jn) (a0:List (UInt8)):OT gM.Y:=
 let z0:(PUnit×Int×PUnit)×List UInt8×PUnit:=(((),(0:Int),()),a0,())
 (gd [mZ ((a0,()),()),ok0 z0] (.ok ⟨Hq,(((),()),((g0_0 z0).snd.fst,()))⟩))
theorem avG (ok0:cc->Bool) (g0_0:cc->jn) (x:BD) (Q:gM.Y->Prop):wpf te DN (be 0 (cE qv 0 ok0 (xK g0_0)) ax) 1000 Tryz.f12 (gM.inp.inj x).tm (gM.inp.inj x).hp (fnK gM NO Q) (λ_ _=>False)=(Q4 ok0 g0_0 (x.1.1)).wpR Q:=by kernel_rfl
theorem aaF (ok0:cc->Bool) (g0_0:cc->jn) (h0:∀ s:cc,ok0 s=true->∃ m e,aA (qw) m s=some e/\(xK g0_0 s).run=some e) (pre:BD->Bool) (F:BD->OT gM.Y) (hF:∀ (x:BD) oy,pre x=true->(F x).run=some oy->(Q4 ok0 g0_0 (x.1.1)).run=some oy):aa Tryz.prog 12 (gM.aD pre F):=
 aB al uU Lx (f:=12) (fn:=Tryz.f12) (c:=ak Tryz.f12) (by kernel_rfl) (by kernel_rfl) (by kernel_rfl) (S:=gM) (k:=0) (by kernel_rfl) (λR hR=>(aG (c:=(ak Tryz.f12)) (by kernel_rfl) (id:=0) (by kernel_rfl) (ba al uU Lx (sh:=qv) hR (xs:=U5) (aF (by kernel_rfl) (by kernel_rfl) hR) aN ae (n:=1000) (T:=qw) (λs Q=>aoO s Q) (ok:=ok0) (f:=xK g0_0) h0) ae)) (n:=1000) (sel:=NO) (λv o h=>by cases h;rfl) (pre:=pre) (F:=F) (T:=λx=>Q4 ok0 g0_0 (x.1.1)) (λx Q=>avG ok0 g0_0 x Q) hF
def fk (b:List UInt8):List UInt8:=upto (λk l=>l++ [i2b (201+(k:Int))]) b 8
def NP (s:cc):Bool:=decide (s.1.2.1=0/\s.2.1.length<=140737488355320)
def U8 (s:cc):jn:=(((),()),(fk s.2.1,()))
theorem aoQ:∀ s:cc,NP s=true->∃ m e,aA qw m s=some e/\(xK U8 s).run=some e:=by
 rintro ⟨⟨⟨⟩,i,⟨⟩⟩,⟨b,⟨⟩⟩⟩ h
 have h':=of_decide_eq_true h
 dsimp only at h'
 obtain ⟨rfl,hl⟩:=h'
 have:=(aR (T:=qw) (λi l=>((((),(i:Int),()),(l,())):cc)) (λk l=>l++ [i2b (201+(k:Int))])
  (λl=>(⟨(.exit 0,oI),(((),()),(l,()))⟩:aI)) 8 b (λk l=>l.length=b.length+k) rfl (λi l hi hl'=>⟨?_,by simp [hl'];omega⟩) (λl hl'=> ?_)).1
 ·obtain ⟨m,hm⟩:=this
  exact ⟨m,_,hm,rfl⟩
 ·refine (OT.az (decide_eq_true (by dsimp only;omega))).trans ((aj ?_).trans rfl)
  simp only [hl',List.all_cons,List.all_nil,Bool.and_true,Bool.and_eq_true]
  exact ⟨aL (by omega),decide_eq_true (by omega),aL (by omega)⟩
 ·exact OT.aq (decide_eq_false (by dsimp only;omega))
def gx (x:BD):Bool:=decide (x.1.1.length<=140737488355320)
def afz (x:BD):OT gM.Y:=.ok ⟨Hq,(((),()),(fk x.1.1,()))⟩
theorem aoP:aa Tryz.prog 12 (gM.aD gx afz):=aaF NP U8 aoQ _ _ λx oy hp ho=>by
 rw [<-ho]
 have hp':x.1.1.length<=140737488355320:=of_decide_eq_true hp
 refine (aj ?_).trans rfl
 simp only [List.all_cons,List.all_nil,Bool.and_true,Bool.and_eq_true]
 exact ⟨decide_eq_true (show x.1.1.length<=140737488355328 by omega),decide_eq_true ⟨rfl,hp'⟩⟩
def vO:bw:=(gM.aD gx afz)
theorem U7:aa Tryz.prog 12 vO:=aoP
theorem U6:aC vO:=ay
def uS:Env:=aw 12 vO DN
theorem pO:aK Tryz.prog uS:=af U7 uU
theorem Aj:ar uS:=ab U6 Fp
theorem Fk:aO Tryz.prog te uS:=aE follows al pO Aj
def kA:ap:=⟨[.val false (.list .u8),.val false (.list .u8)],[],true,0,false⟩
abbrev NR:Type:=((List (UInt8))×(List (UInt8))×Unit)×(Unit)
def xL:Shape:=⟨26,[(0,.val false (.list .u8)),(1,.val false (.list .u8)),(5,.val false .int)],[],0,true⟩
abbrev bB:Type:=((List (UInt8))×(List (UInt8))×(Int)×Unit)×(Unit)
def s6:Shape:=⟨26,[(4,.val false .bool)],[],0,true⟩
abbrev ky:Type:=((Bool)×Unit)×(Unit)
def s7:Shape:=⟨26,[],[],0,true⟩
abbrev kz:Type:=(Unit)×(Unit)
def afA:SE->Option Shape:=gI [(0,s7)] (some s6)
def avK (a0:List (UInt8)) (a1:List (UInt8)) (a5:Int):OT (Sum bB aI):=
 let z0:Nat:=List.length a0
 let z1:Nat:=Int.toNat a5
 (.br (decide (a5<(↑z0:Int)))
 (gd [inB a5 z0,inB a5 (List.length a1)] (.br (!List.getD a0 z1 (0:UInt8)==List.getD a1 z1 (0:UInt8))
  (.ok (.inr ⟨(.ret,s6),((false,()),())⟩))
  (gd [inR (a5+(1:Int))] (.ok (.inl ((a0,(a1,(a5+(1:Int),()))),()))))))
 (.ok (.inr ⟨(.exit 0,s7),((),())⟩)))
def xN (s:bB):OT (Sum bB aI):=avK (s.1.1) (s.1.2.1) (s.1.2.2.1)
theorem avH (s:bB) (Q:Sum bB aI->Prop):wps te uS ax 1000 (bg (ak Tryz.f27) 0) (xL.inj s) (cz xL afA (Q:Sum xL.T aI->Prop))=(xN s).wpR Q:=by kernel_rfl
def s5 (g0_r:bB->ky) (c0_r:bB->Bool) (g0_0:bB->kz) (s:bB):OT aI:=(.br (c0_r s) (.ok ⟨(.ret,s6),g0_r s⟩) (.ok ⟨(.exit 0,s7),g0_0 s⟩))
def xM:av:=⟨[.val false .bool],[],false⟩
def U9:SV->Option av:=λ_=>some xM
def aaI (ok0:bB->Bool) (g0_r:bB->ky) (c0_r:bB->Bool) (g0_0:bB->kz) (a0:List (UInt8)) (a1:List (UInt8)):OT kA.Y:=
 let z0:(List UInt8×List UInt8×Int×PUnit)×PUnit:=((a0,a1,(0:Int),()),())
 (.br (!(↑(List.length a0):Int)==(↑(List.length a1):Int))
 (.ok ⟨xM,((false,()),())⟩)
 (gd [ok0 z0] (.br (c0_r z0)
  (.ok ⟨xM,(((g0_r z0).fst.fst,()),())⟩)
  (.ok ⟨xM,((true,()),())⟩))))
theorem aBR (ok0:bB->Bool) (g0_r:bB->ky) (c0_r:bB->Bool) (g0_0:bB->kz) (x:NR) (Q:kA.Y->Prop):wpf te uS (be 0 (cE xL 0 ok0 (s5 g0_r c0_r g0_0)) ax) 1000 Tryz.f27 (kA.inp.inj x).tm (kA.inp.inj x).hp (fnK kA U9 Q) (λ_ _=>False)=(aaI ok0 g0_r c0_r g0_0 (x.1.1) (x.1.2.1)).wpR Q:=by kernel_rfl
theorem akE (ok0:bB->Bool) (g0_r:bB->ky) (c0_r:bB->Bool) (g0_0:bB->kz) (h0:∀ s:bB,ok0 s=true->∃ m e,aA (xN) m s=some e/\(s5 g0_r c0_r g0_0 s).run=some e) (pre:NR->Bool) (F:NR->OT kA.Y) (hF:∀ (x:NR) oy,pre x=true->(F x).run=some oy->(aaI ok0 g0_r c0_r g0_0 (x.1.1) (x.1.2.1)).run=some oy):aa Tryz.prog 27 (kA.aD pre F):=
 aB al pO Fk (f:=27) (fn:=Tryz.f27) (c:=ak Tryz.f27) (by kernel_rfl) (by kernel_rfl) (by kernel_rfl) (S:=kA) (k:=0) (by kernel_rfl) (λR hR=>(aG (c:=(ak Tryz.f27)) (by kernel_rfl) (id:=0) (by kernel_rfl) (ba al pO Fk (sh:=xL) hR (xs:=afA) (aF (by kernel_rfl) (by kernel_rfl) hR) aN ae (n:=1000) (T:=xN) (λs Q=>avH s Q) (ok:=ok0) (f:=s5 g0_r c0_r g0_0) h0) ae)) (n:=1000) (sel:=U9) (λv o h=>by cases h;rfl) (pre:=pre) (F:=F) (T:=λx=>aaI ok0 g0_r c0_r g0_0 (x.1.1) (x.1.2.1)) (λx Q=>aBR ok0 g0_r c0_r g0_0 x Q) hF
def Va (s:bB):Bool:=decide (s.1.2.2.1=0/\s.1.1.length=s.1.2.1.length/\s.1.1.length<=140737488355328)
def Vb (_:bB):ky:=((false,()),())
def s8 (s:bB):Bool:= !decide (s.1.1=s.1.2.1)
def afB (_:bB):kz:=((),())
theorem NQ {a b:List UInt8} (hab:a.length=b.length) (hl:a.length<=140737488355328):∀ d i,i+d=a.length->
 ∃ m,aA xN m ((a,b,(i:Int),()),())=some (cond (decide (a.drop i=b.drop i)) ⟨(.exit 0,s7),((),())⟩ ⟨(.ret,s6),((false,()),())⟩)
 |0,i,h=>by
  refine ⟨1,?_⟩
  have h1:a.drop i= []:=List.drop_eq_nil_of_le (by omega)
  have h2:b.drop i= []:=List.drop_eq_nil_of_le (by omega)
  rw [h1,h2,decide_eq_true rfl]
  exact bc (OT.aq (decide_eq_false (by dsimp only;omega)))
 |d+1,i,h=>by
  have hi:i<a.length:=by omega
  have hi':i<b.length:=by omega
  have e1:a.drop i=a[i]::a.drop (i+1):=List.drop_eq_getElem_cons hi
  have e2:b.drop i=b[i]::b.drop (i+1):=List.drop_eq_getElem_cons hi'
  have g1:a.getD i 0=a[i]:=by simp [List.getD_eq_getElem?_getD,hi]
  have g2:b.getD i 0=b[i]:=by simp [List.getD_eq_getElem?_getD,hi']
  have hg:∀ x:OT (Sum bB aI),(gd [inB (i:Int) a.length,inB (i:Int) b.length] x).run=x.run:=λx=>aj (by simp only [List.all_cons,List.all_nil,Bool.and_true,Bool.and_eq_true];exact ⟨aM (by omega),aM (by omega)⟩)
  by_cases hx:a[i]=b[i]
  ·obtain ⟨m,hm⟩:=NQ hab hl d (i+1) (by omega)
   refine ⟨m+1,aJ (s':=((a,b,((i+1:Nat):Int),()),())) ?_ ?_⟩
   ·refine (OT.az (decide_eq_true (by dsimp only;omega))).trans ((hg _).trans ((OT.aq ?_).trans ((aj ?_).trans rfl)))
    ·simp only [Int.toNat_natCast,g1,g2,hx]
     simp
    ·simp only [List.all_cons,List.all_nil,Bool.and_true]
     exact aL (by omega)
   ·rw [hm,e1,e2,hx]
    simp only [List.cons.injEq,true_and]
  ·refine ⟨1,?_⟩
   have:decide (a.drop i=b.drop i)=false:=decide_eq_false (by rw [e1,e2];intro h;exact hx (List.cons.inj h).1)
   rw [this]
   refine bc ((OT.az (decide_eq_true (by dsimp only;omega))).trans ((hg _).trans ((OT.az ?_).trans rfl)))
   simp only [Int.toNat_natCast,g1,g2]
   simp [hx]
theorem avJ:∀ s:bB,Va s=true->∃ m e,aA xN m s=some e/\(s5 Vb s8 afB s).run=some e:=by
 rintro ⟨⟨a,b,i,⟨⟩⟩,⟨⟩⟩ h
 have h':=of_decide_eq_true h
 dsimp only at h'
 obtain ⟨rfl,hab,hl⟩:=h'
 obtain ⟨m,hm⟩:=NQ hab hl a.length 0 (by omega)
 refine ⟨m,_,hm,?_⟩
 simp only [List.drop_zero]
 by_cases hx:a=b
 ·simp only [s5,s8,hx,decide_true,Bool.not_true]
  rfl
 ·have:decide (a=b)=false:=decide_eq_false hx
  simp only [s5,s8,this,Bool.not_false]
  rfl
def kx (x:NR):Bool:=decide (x.1.1.length<=140737488355328)
def Hr (x:NR):OT kA.Y:=.ok ⟨xM,((decide (x.1.1=x.1.2.1),()),())⟩
theorem avI:aa Tryz.prog 27 (kA.aD kx Hr):=akE Va Vb s8 afB avJ _ _ λx oy hp ho=>by
 rw [<-ho]
 clear ho
 obtain ⟨⟨a,b,⟨⟩⟩,⟨⟩⟩:=x
 have hp':a.length<=140737488355328:=of_decide_eq_true hp
 by_cases hab:a.length=b.length
 ·refine (OT.aq (by simp [hab])).trans ((aj ?_).trans ?_)
  ·simp only [List.all_cons,List.all_nil,Bool.and_true]
   exact decide_eq_true ⟨rfl,hab,hp'⟩
  ·by_cases hx:a=b
   ·refine (OT.aq (by simp [s8,hx])).trans ?_
    simp only [Hr,hx,decide_true]
   ·refine (OT.az (by simp [s8,hx])).trans ?_
    have:decide (a=b)=false:=decide_eq_false hx
    simp only [Hr,this]
    rfl
 ·refine (OT.az (by simp;omega)).trans ?_
  have:decide (a=b)=false:=decide_eq_false λe=>hab (by rw [e])
  simp only [Hr,this]
def BE:bw:=(kA.aD kx Hr)
theorem aaH:aa Tryz.prog 27 BE:=avI
theorem aaG:aC BE:=ay
def DK:Env:=aw 27 BE uS
theorem uT:aK Tryz.prog DK:=af aaH pO
theorem Fl:ar DK:=ab aaG Aj
theorem Lm:aO Tryz.prog te DK:=aE follows al uT Fl
def fD:ap:=⟨[.val false (.list .u8)],[],true,0,false⟩
abbrev ul:Type:=((List (UInt8))×Unit)×(Unit)
def nY:Shape:=⟨27,[(2,.ptr 0 0 0),(3,.ptr 1 0 0),(6,.val false (.list .u8)),(7,.val false .int),(8,.val false .int)],[(0,.row .u64),(1,.row .u64)],0,true⟩
abbrev bx:Type:=((Unit)×(Unit)×(List (UInt8))×(Int)×(Int)×Unit)×((List (UInt64))×(List (UInt64))×Unit)
def mz:Shape:=⟨27,[(2,.ptr 0 0 0),(3,.ptr 1 0 0)],[(0,.row .u64),(1,.row .u64)],0,true⟩
abbrev fW:Type:=((Unit)×(Unit)×Unit)×((List (UInt64))×(List (UInt64))×Unit)
def PU:SE->Option Shape:=gI [(0,mz)] none
def amH (a6:List (UInt8)) (a7:Int) (a8:Int) (c0:List (UInt64)) (c1:List (UInt64)):OT (Sum bx aI):=
 let z0:Int:=Int.tdiv a8 (8:Int)
 let z1:Bool:=inB z0 4
 let z2:Bool:=decide (Int.toNat z0+0<List.length c1)
 let z3:Int:=(8:Int)*Int.tmod a8 (8:Int)
 (.br (decide (a8<a7))
 (gd [inB a8 (List.length a6),true&&inR z0,z1,z2,inR z3,decide ((0:Int)<=z3),z1,z2,inR (a8+(1:Int))] (.ok (.inl (((),((),(a6,(a7,(a8+(1:Int),()))))),(c0,(List.set c1 (Int.toNat z0+0) (List.getD c1 (Int.toNat z0+0) (0:UInt64)|||bH (UInt8.toUInt64 (List.getD a6 (Int.toNat a8) (0:UInt8))) z3),()))))))
 (.ok (.inr ⟨(.exit 0,mz),(((),((),())),(c0,(c1,())))⟩)))
def nZ (s:bx):OT (Sum bx aI):=amH (s.1.2.2.1) (s.1.2.2.2.1) (s.1.2.2.2.2.1) (s.2.1) (s.2.2.1)
theorem amE (s:bx) (Q:Sum bx aI->Prop):wps te DK ax 1000 (bg (ak Tryz.f101) 0) (nY.inj s) (cz nY PU (Q:Sum nY.T aI->Prop))=(nZ s).wpR Q:=by kernel_rfl
def uk (g0_0:bx->fW) (s:bx):OT aI:=(.ok ⟨(.exit 0,mz),g0_0 s⟩)
def uj:av:=⟨[.val true .elem],[],false⟩
def J4:SV->Option av:=λ_=>some uj
def rQ (ok0:bx->Bool) (g0_0:bx->fW) (a0:List (UInt8)):OT fD.Y:=
 let z0:(PUnit×PUnit×List UInt8×Int×Int×PUnit)×List UInt64×List UInt64×PUnit:=(((),(),a0,(↑(List.length a0):Int),(0:Int),()),[(0:UInt64),(0:UInt64),(0:UInt64),(0:UInt64)],[(0:UInt64),(0:UInt64),(0:UInt64),(0:UInt64)],())
 let z1:=(g0_0 z0).snd
 let z2:=z1.snd.fst
 let z3:=z1.fst
 let z4:List UInt64:=lay z3 z2 4 (0:UInt64)
 (gd [ok0 z0,decide (4<=List.length z2),decide ((4/1:Nat)+0<=List.length z3),decide (4<=List.length z4)] (.ok ⟨uj,(({w0:=List.getD z4 0 0,w1:=List.getD z4 1 0,w2:=List.getD z4 2 0,w3:=List.getD z4 3 0},()),())⟩))
theorem atu (ok0:bx->Bool) (g0_0:bx->fW) (x:ul) (Q:fD.Y->Prop):wpf te DK (be 0 (cE nY 0 ok0 (uk g0_0)) ax) 1000 Tryz.f101 (fD.inp.inj x).tm (fD.inp.inj x).hp (fnK fD J4 Q) (λ_ _=>False)=(rQ ok0 g0_0 (x.1.1)).wpR Q:=by kernel_rfl
theorem Ya (ok0:bx->Bool) (g0_0:bx->fW) (h0:∀ s:bx,ok0 s=true->∃ m e,aA (nZ) m s=some e/\(uk g0_0 s).run=some e) (pre:ul->Bool) (F:ul->OT fD.Y) (hF:∀ (x:ul) oy,pre x=true->(F x).run=some oy->(rQ ok0 g0_0 (x.1.1)).run=some oy):aa Tryz.prog 101 (fD.aD pre F):=
 aB al uT Lm (f:=101) (fn:=Tryz.f101) (c:=ak Tryz.f101) (by kernel_rfl) (by kernel_rfl) (by kernel_rfl) (S:=fD) (k:=0) (by kernel_rfl) (λR hR=>(aG (c:=(ak Tryz.f101)) (by kernel_rfl) (id:=0) (by kernel_rfl) (ba al uT Lm (sh:=nY) hR (xs:=PU) (aF (by kernel_rfl) (by kernel_rfl) hR) aN ae (n:=1000) (T:=nZ) (λs Q=>amE s Q) (ok:=ok0) (f:=uk g0_0) h0) ae)) (n:=1000) (sel:=J4) (λv o h=>by cases h;rfl) (pre:=pre) (F:=F) (T:=λx=>rQ ok0 g0_0 (x.1.1)) (λx Q=>atu ok0 g0_0 x Q) hF
def SA (b:List UInt8) (k:Nat) (l:List UInt64):List UInt64:=l.set (k/8) (l.getD (k/8) 0|||bH (UInt8.toUInt64 (b.getD k 0)) (8*((k%8:Nat):Int)))
def aFJ (b:List UInt8) (n:Nat):List UInt64:=upto (SA b) [0,0,0,0] n
def zc (b:List UInt8):ag:=elemOf (aFJ b 32)
theorem wC (b:List UInt8):∀ n,(aFJ b n).length=4
 |0=>rfl
 |n+1=>(List.length_set ..).trans (wC b n)
def J5 (s:bx):Bool:=decide (s.1.2.2.1.length=32/\s.1.2.2.2.1=32/\s.1.2.2.2.2.1=0/\s.2.2.1= [0,0,0,0])
def PV (s:bx):fW:=(((),(),()),(s.2.1,aFJ s.1.2.2.1 32,()))
theorem aEq (i:Nat):Int.tdiv (i:Int) 8=((i/8:Nat):Int):=by rw [Int.tdiv_eq_ediv_of_nonneg (by omega)];omega
theorem aEr (i:Nat):Int.tmod (i:Int) 8=((i%8:Nat):Int):=by rw [Int.tmod_eq_emod_of_nonneg (by omega)];omega
theorem amG:∀ s:bx,J5 s=true->∃ m e,aA nZ m s=some e/\(uk PV s).run=some e:=by
 rintro ⟨⟨⟨⟩,⟨⟩,b,n,i,⟨⟩⟩,⟨c0,c1,⟨⟩⟩⟩ h
 have h':=of_decide_eq_true h
 dsimp only at h'
 obtain ⟨hb,rfl,rfl,rfl⟩:=h'
 have:=(aR (T:=nZ) (λi o=>((((),(),b,(32:Int),(i:Int),()),(c0,o,())):bx)) (SA b)
  (λo=>(⟨(.exit 0,mz),(((),(),()),(c0,o,()))⟩:aI)) 32 [0,0,0,0] (λ_ o=>o.length=4) rfl (λi o hi ho=>⟨?_,(List.length_set ..).trans ho⟩) (λo ho=> ?_)).1
 ·obtain ⟨m,hm⟩:=this
  exact ⟨m,_,hm,rfl⟩
 ·have t1:=aEq i
  have t2:=aEr i
  refine (OT.az (decide_eq_true (by dsimp only;omega))).trans ((aj ?_).trans ?_)
  ·simp only [t1,t2,ho,hb,Int.toNat_natCast,List.all_cons,List.all_nil,Bool.and_true,Bool.true_and,Bool.and_eq_true]
   exact ⟨aM (by omega),aL (by omega),aM (by omega),decide_eq_true (by omega),aL (by omega),decide_eq_true (by omega),aM (by omega),decide_eq_true (by omega),aL (by omega)⟩
  ·simp only [OT.cI,t1,t2,Int.toNat_natCast,Nat.add_zero]
   rfl
 ·exact OT.aq (decide_eq_false (by dsimp only;omega))
def je (x:ul):Bool:=decide (x.1.1.length=32)
def Yc (x:ul):OT fD.Y:=.ok ⟨uj,((zc x.1.1,()),())⟩
abbrev X9 (b:List UInt8):bx:=(((),(),b,(b.length:Int),0,()),([0,0,0,0],[0,0,0,0],()))
theorem Yb {ok0:bx->Bool} {g0:bx->fW} {b:List UInt8} {L:List UInt64} (hok:ok0 (X9 b)=true)
 (hg:g0 (X9 b)=(((),(),()),([0,0,0,0],L,()))) (hL:L.length=4):(rQ ok0 g0 b).run=some ⟨uj,((elemOf L,()),())⟩:=by
 have e:lay [0,0,0,0] L 4 0=L:=vo rfl hL
 unfold rQ
 simp only [hg]
 refine (aj ?_).trans ?_
 ·simp only [e,hL,List.all_cons,List.all_nil,Bool.and_true,Bool.and_eq_true]
  exact ⟨hok,rfl,rfl,rfl⟩
 ·rw [e]
  rfl
theorem amF:aa Tryz.prog 101 (fD.aD je Yc):=Ya J5 PV amG _ _ λx oy hp ho=>by
 rw [<-ho]
 clear ho
 obtain ⟨⟨b,⟨⟩⟩,⟨⟩⟩:=x
 have hb:b.length=32:=of_decide_eq_true hp
 exact Yb (b:=b) (L:=aFJ b 32) (decide_eq_true ⟨hb,by show ((b.length:Nat):Int)=32;omega,rfl,rfl⟩) rfl (wC b 32)
def rO:bw:=(fD.aD je Yc)
theorem Te:aa Tryz.prog 101 rO:=amF
theorem Td:aC rO:=ay
def sT:Env:=aw 101 rO DK
theorem sS:aK Tryz.prog sT:=af Te uT
theorem vG:ar sT:=ab Td Fl
theorem UA:aO Tryz.prog te sT:=aE follows al sS vG
def jU:ap:=⟨[.val false .int,.val false (.list .u8)],[],true,0,false⟩
abbrev PN:Type:=((Int)×(List (UInt8))×Unit)×(Unit)
def iz:av:=⟨[.val true .elem,.val false .int],[],false⟩
def XT:SV->Option av:=λ_=>some iz
def JS (a0:Int) (a1:List (UInt8)):OT jU.Y:=
 let z0:Nat:=List.length a1
 let z1:Int:=(↑z0:Int)
 let z2:ag:= {w0:=0,w1:=0,w2:=0,w3:=0}
 let z3:List UInt8:=List.drop 0 (List.take 32 a1)
 let z4:List UInt8:=List.drop 32 a1
 let z5:ag:=(aS (Int.toNat a0)).fst
 (.br (au a0)
 (.br (!z1==(64:Int))
  (.ok ⟨iz,((z2,((21:Int),())),())⟩)
  (gd [bj (0:Int) (32:Int) z0,je ((z3,()),()),bj (32:Int) z1 z0,je ((z4,()),())] (.br (mu z5)
   (.ok ⟨iz,((z2,((10:Int),())),())⟩)
   (.ok ⟨iz,((ayk (zc z3) (zc z4) z5,((0:Int),())),())⟩))))
 (.ok ⟨iz,((z2,((20:Int),())),())⟩))
theorem aEI (x:PN) (Q:jU.Y->Prop):wpf te sT ax 1000 Tryz.f69 (jU.inp.inj x).tm (jU.inp.inj x).hp (fnK jU XT Q) (λ_ _=>False)=(JS (x.1.1) (x.1.2.1)).wpR Q:=by kernel_rfl
theorem amt (pre:PN->Bool) (F:PN->OT jU.Y) (hF:∀ (x:PN) oy,pre x=true->(F x).run=some oy->(JS (x.1.1) (x.1.2.1)).run=some oy):aa Tryz.prog 69 (jU.aD pre F):=
 aB al sS UA (f:=69) (fn:=Tryz.f69) (c:=ak Tryz.f69) (by kernel_rfl) (by kernel_rfl) (by kernel_rfl) (S:=jU) (k:=0) (by kernel_rfl) (λR hR=>ae) (n:=1000) (sel:=XT) (λv o h=>by cases h;rfl) (pre:=pre) (F:=F) (T:=λx=>JS (x.1.1) (x.1.2.1)) (λx Q=>aEI x Q) hF
def vf (b:List UInt8):Bool:=(b.length:Int)==64
def vM (s:Int) (b:List UInt8):ag:=ayk (zc (b.take 32)) (zc (b.drop 32)) (aS s.toNat).1
def XU (_:PN):Bool:=true
def ati (x:PN):OT jU.Y:=.br (au x.1.1) (.br (vf x.1.2.1) (.ok ⟨iz,((vM x.1.1 x.1.2.1,((0:Int),())),())⟩) (.ok ⟨iz,((⟨0,0,0,0⟩,((21:Int),())),())⟩)) (.ok ⟨iz,((⟨0,0,0,0⟩,((20:Int),())),())⟩)
theorem zl {b:List UInt8}:vf b=true ↔ b.length=64:=by
 unfold vf
 rw [beq_iff_eq]
 omega
theorem aiE {s:Int} (h:au s=true):mu (aS s.toNat).1=false:=by
 rcases ca h with rfl|rfl|rfl|rfl<;>rfl
theorem amu {s:Int} {b:List UInt8} {W:ag} (hW:ayk (zc (List.drop 0 (b.take 32))) (zc (b.drop 32)) (aS s.toNat).1=W):(JS s b).run=(OT.br (au s) (.br (vf b) (.ok ⟨iz,((W,((0:Int),())),())⟩) (.ok ⟨iz,((⟨0,0,0,0⟩,((21:Int),())),())⟩)) (.ok ⟨iz,((⟨0,0,0,0⟩,((20:Int),())),())⟩):OT jU.Y).run:=by
 unfold JS
 simp only [hW]
 rcases (Bool.eq_false_or_eq_true (au s)).symm with hs|hs
 ·exact (OT.aq hs).trans (OT.aq (b:=au s) hs).symm
 ·refine (OT.az hs).trans (Eq.trans ?_ (OT.az (b:=au s) hs).symm)
  rcases (Bool.eq_false_or_eq_true (vf b)).symm with hl|hl
  ·exact (OT.az (b:= !vf b) (by rw [hl];rfl)).trans (OT.aq (b:=vf b) hl).symm
  ·have hb:b.length=64:=zl.1 hl
   refine (OT.aq (b:= !vf b) (by rw [hl];rfl)).trans (Eq.trans ?_ (OT.az (b:=vf b) hl).symm)
   refine (aj ?_).trans (OT.aq (aiE hs))
   simp only [List.all_cons,List.all_nil,Bool.and_true,Bool.and_eq_true]
   exact ⟨bu (by omega),decide_eq_true (by show (List.drop 0 (b.take 32)).length=32;rw [List.drop_zero,List.length_take];omega),bu (by omega),decide_eq_true (by show (List.drop 32 b).length=32;rw [List.length_drop];omega)⟩
theorem azo:aa Tryz.prog 69 (jU.aD XU ati):=amt _ _ λx oy hp ho=>by
 rw [<-ho]
 clear ho
 obtain ⟨⟨s,b,⟨⟩⟩,⟨⟩⟩:=x
 exact amu rfl
def C5:bw:=(jU.aD XU ati)
theorem adp:aa Tryz.prog 69 C5:=azo
theorem ado:aC C5:=ay
def Mi:Env:=aw 69 C5 sT
theorem Eg:aK Tryz.prog Mi:=af adp sS
theorem FV:ar Mi:=ab ado vG
theorem ae8:aO Tryz.prog te Mi:=aE follows al Eg FV
def dr:ap:=⟨[.val false .int,.val false (.list .u8)],[],true,0,false⟩
abbrev mD:Type:=((Int)×(List (UInt8))×Unit)×(Unit)
def cX:av:=⟨[.val true .elem,.val false .int],[],false⟩
def Kq:SV->Option av:=λ_=>some cX
def r6 (a0:Int) (a1:List (UInt8)):OT dr.Y:=
 let z0:ag:= {w0:=0,w1:=0,w2:=0,w3:=0}
 let z1:Bool:=je ((a1,()),())
 let z2:ag:=zc a1
 (.br (au a0)
 (.br (!(↑(List.length a1):Int)==(32:Int))
  (.ok ⟨cX,((z0,((21:Int),())),())⟩)
  (gd [z1] (.br (!Nat.blt (ag.nat z2) (ag.nat (aS (Int.toNat a0)).fst))
   (.ok ⟨cX,((z0,((21:Int),())),())⟩)
   (gd [z1] (.ok ⟨cX,((z2,((0:Int),())),())⟩)))))
 (.ok ⟨cX,((z0,((20:Int),())),())⟩))
theorem atS (x:mD) (Q:dr.Y->Prop):wpf te Mi ax 1000 Tryz.f61 (dr.inp.inj x).tm (dr.inp.inj x).hp (fnK dr Kq Q) (λ_ _=>False)=(r6 (x.1.1) (x.1.2.1)).wpR Q:=by kernel_rfl
theorem Yp (pre:mD->Bool) (F:mD->OT dr.Y) (hF:∀ (x:mD) oy,pre x=true->(F x).run=some oy->(r6 (x.1.1) (x.1.2.1)).run=some oy):aa Tryz.prog 61 (dr.aD pre F):=
 aB al Eg ae8 (f:=61) (fn:=Tryz.f61) (c:=ak Tryz.f61) (by kernel_rfl) (by kernel_rfl) (by kernel_rfl) (S:=dr) (k:=0) (by kernel_rfl) (λR hR=>ae) (n:=1000) (sel:=Kq) (λv o h=>by cases h;rfl) (pre:=pre) (F:=F) (T:=λx=>r6 (x.1.1) (x.1.2.1)) (λx Q=>atS x Q) hF
def fh (b:List UInt8):Bool:=(b.length:Int)==32
theorem nO {b:List UInt8}:fh b=true ↔ b.length=32:=by
 unfold fh
 rw [beq_iff_eq]
 omega
def Kr (_:mD):Bool:=true
def Ks (x:mD):OT dr.Y:=.br (au x.1.1) (.br (fh x.1.2.1) (.br (Nat.blt (zc x.1.2.1).nat (pS x.1.1)) (.ok ⟨cX,((zc x.1.2.1,((0:Int),())),())⟩) (.ok ⟨cX,((⟨0,0,0,0⟩,((21:Int),())),())⟩))
 (.ok ⟨cX,((⟨0,0,0,0⟩,((21:Int),())),())⟩)) (.ok ⟨cX,((⟨0,0,0,0⟩,((20:Int),())),())⟩)
theorem Yq {s:Int} {b:List UInt8} {N:ag} (hN:zc b=N):(r6 s b).run=(OT.br (au s) (.br (fh b) (.br (Nat.blt N.nat (pS s)) (.ok ⟨cX,((N,((0:Int),())),())⟩) (.ok ⟨cX,((⟨0,0,0,0⟩,((21:Int),())),())⟩))
 (.ok ⟨cX,((⟨0,0,0,0⟩,((21:Int),())),())⟩)) (.ok ⟨cX,((⟨0,0,0,0⟩,((20:Int),())),())⟩):OT dr.Y).run:=by
 unfold r6
 simp only [hN]
 rcases (Bool.eq_false_or_eq_true (au s)).symm with hs|hs
 ·exact (OT.aq hs).trans (OT.aq (b:=au s) hs).symm
 ·refine (OT.az hs).trans (Eq.trans ?_ (OT.az (b:=au s) hs).symm)
  rcases (Bool.eq_false_or_eq_true (fh b)).symm with hl|hl
  ·exact (OT.az (b:= !fh b) (by rw [hl];rfl)).trans (OT.aq (b:=fh b) hl).symm
  ·have hp:je ((b,()),())=true:=decide_eq_true (nO.1 hl)
   refine (OT.aq (b:= !fh b) (by rw [hl];rfl)).trans (Eq.trans ?_ (OT.az (b:=fh b) hl).symm)
   rw [hp]
   refine (aj rfl).trans ?_
   rcases (Bool.eq_false_or_eq_true (Nat.blt N.nat (pS s))).symm with h|h
   ·exact (OT.az (b:= !Nat.blt N.nat (pS s)) (by rw [h];rfl)).trans (OT.aq (b:=Nat.blt N.nat (pS s)) h).symm
   ·exact (OT.aq (b:= !Nat.blt N.nat (pS s)) (by rw [h];rfl)).trans ((aj rfl).trans (OT.az (b:=Nat.blt N.nat (pS s)) h).symm)
theorem P4:aa Tryz.prog 61 (dr.aD Kr Ks):=Yp _ _ λx oy hp ho=>by
 rw [<-ho]
 clear ho
 obtain ⟨⟨s,b,⟨⟩⟩,⟨⟩⟩:=x
 exact Yq rfl
def r5:bw:=(dr.aD Kr Ks)
theorem Tp:aa Tryz.prog 61 r5:=P4
theorem To:aC r5:=ay
def MA:Env:=aw 61 r5 Mi
theorem Z5:aK Tryz.prog MA:=af Tp Eg
theorem NA:ar MA:=ab To FV
abbrev atH:ap:=mB
def rY (x:Ym):Bool:=au x.1.1
def atI (x:Ym):OT mB.Y:=.ok ⟨Dd,((gG (pS x.1.1) x.1.2.1 x.1.2.2.1,()),())⟩
theorem azJ:aa Tryz.prog 137 (atH.aD rY atI):=fj (S:=mB) atK λx oy hp ho=>⟨rfl,(OT.az (b:=au x.1.1) hp).trans ho⟩
def Dc:bw:=(atH.aD rY atI)
theorem adK:aa Tryz.prog 137 Dc:=azJ
theorem adJ:aC Dc:=ay
def sV:Env:=aw 137 Dc MA
theorem kr:aK Tryz.prog sV:=af adK Z5
theorem F1:ar sV:=ab adJ NA
theorem pX:aO Tryz.prog te sV:=aE follows al kr F1
end Go.Proofs.YtohjofabochgfaaGreat

namespace Go.Proofs.YtohjofabochgfaaGreat
theorem Jg {α:Type} [BEq α] [LawfulBEq α]:∀ {l1 l2:List α},l1.Nodup->(∀ x ∈ l1,x ∈ l2)->l2.length<=l1.length->l1.Perm l2
 | [],l2,_,_,h=>by
  have:l2= []:=List.length_eq_zero_iff.1 (Nat.le_zero.1 h)
  rw [this]
 |a::t,l2,hn,hs,hl=>by
  have ha:a ∈ l2:=hs a (List.mem_cons_self ..)
  have hp:l2.Perm (a::l2.erase a):=List.perm_cons_erase ha
  rw [List.nodup_cons] at hn
  have hl2:=List.length_erase_of_mem ha
  have hpos:0<l2.length:=List.length_pos_of_mem ha
  have ih:t.Perm (l2.erase a):=Jg hn.2 (λx hx=>by
   have hne:x≠a:=λe=>hn.1 (e▸hx)
   exact (List.mem_erase_of_ne hne).2 (hs x (List.mem_cons_of_mem _ hx))) (by rw [List.length_cons] at hl;omega)
  exact (ih.cons a).trans hp.symm
def Pr (p:Nat):Prop:=2<=p/\∀ d,d∣p->d=1\/d=p
theorem Pr.pos {p:Nat} (h:Pr p):0<p:=by have:=h.1;omega
theorem Pr.cop {p a:Nat} (h:Pr p) (ha:¬p∣a):Nat.Coprime p a:=by
 rcases h.2 (Nat.gcd p a) (Nat.gcd_dvd_left ..) with e|e
 ·exact e
 ·exact absurd (e▸Nat.gcd_dvd_right p a) ha
theorem Pr.ajx {p a b:Nat} (h:Pr p) (hd:p∣a*b):p∣a\/p∣b:=by
 by_cases ha:p∣a
 ·exact .inl ha
 ·exact .inr ((h.cop ha).dvd_of_dvd_mul_left hd)
def ve:List Nat->Nat
 | []=>1
 |a::l=>a*ve l
theorem alZ {l1 l2:List Nat} (h:l1.Perm l2):ve l1=ve l2:=by
 induction h with
 |nil=>rfl
 |cons x _ ih=>simp only [ve,ih]
 |swap x y l=>simp only [ve];rw [<-Nat.mul_assoc,<-Nat.mul_assoc,Nat.mul_comm x y]
 |trans _ _ a b=>exact a.trans b
theorem Xe (p a:Nat):∀ l:List Nat,ve (l.map λx=>a*x%p)%p=a^l.length*ve l%p
 | []=>by simp [ve]
 |x::l=>by
  have ih:=Xe p a l
  simp only [List.map_cons,ve,List.length_cons]
  rw [Nat.mul_mod,Nat.mod_mod,ih,<-Nat.mul_mod,Nat.pow_succ]
  congr 1
  rw [Nat.mul_assoc,Nat.mul_assoc,Nat.mul_left_comm x]
  rw [Nat.mul_left_comm a]
theorem Xd {p:Nat} (h:Pr p):∀ l:List Nat,(∀ x ∈ l,¬p∣x)->¬p∣ve l
 | [],_,hd=>by
  have:=Nat.le_of_dvd (by decide) hd
  have:=h.1
  simp only [ve] at*
  omega
 |x::l,hx,hd=>by
  rcases h.ajx hd with h1|h1
  ·exact hx x (List.mem_cons_self ..) h1
  ·exact Xd h l (λy hy=>hx y (List.mem_cons_of_mem _ hy)) h1
theorem ama {p a b:Nat} (hab:a<=b) (h:a%p=b%p):p∣b-a:=by
 have h1:=Nat.div_add_mod a p
 have h2:=Nat.div_add_mod b p
 refine ⟨b/p-a/p,?_⟩
 rw [Nat.mul_sub]
 omega
theorem pg {p x:Nat} (h0:0<x) (h1:x<p):¬p∣x:=λh=>by
 have:=Nat.le_of_dvd h0 h
 omega
theorem asT {p a:Nat} (h:Pr p) (ha:¬p∣a) {x y:Nat} (hx:x<p) (hy:y<p) (e:a*x%p=a*y%p):x=y:=by
 have aux:∀ {x y:Nat},x<p->y<p->x<=y->a*x%p=a*y%p->x=y:=λ{x y} hx hy hxy e=>by
  have hd:=ama (Nat.mul_le_mul_left a hxy) e
  rw [<-Nat.mul_sub] at hd
  rcases h.ajx hd with h1|h1
  ·exact absurd h1 ha
  ·by_cases h0:y-x=0
   ·omega
   ·exact absurd h1 (pg (by omega) (by omega))
 rcases Nat.le_total x y with hxy|hxy
 ·exact aux hx hy hxy e
 ·exact (aux hy hx hxy e.symm).symm
theorem EU {α β:Type} {f:α->β}:∀ {l:List α},l.Nodup->(∀ x ∈ l,∀ y ∈ l,f x=f y->x=y)->(l.map f).Nodup
 | [],_,_=>List.nodup_nil
 |a::l,hn,hi=>by
  rw [List.nodup_cons] at hn
  rw [List.map_cons,List.nodup_cons]
  refine ⟨λhm=> ?_,EU hn.2 λx hx y hy=>hi x (List.mem_cons_of_mem _ hx) y (List.mem_cons_of_mem _ hy)⟩
  obtain ⟨b,hb,e⟩:=List.mem_map.1 hm
  have:=hi a (List.mem_cons_self ..) b (List.mem_cons_of_mem _ hb) e.symm
  exact hn.1 (this▸hb)
theorem atP {p a:Nat} (h:Pr p) (ha:¬p∣a):a^(p-1)%p=1:=by
 have hp:=h.1
 have hn:(List.range' 1 (p-1)).Nodup:=List.nodup_range' ..
 have hm:((List.range' 1 (p-1)).map λx=>a*x%p).Nodup:=EU hn λx hx y hy e=>by
  rw [List.mem_range'_1] at hx hy
  exact asT h ha (by omega) (by omega) e
 have hperm:=Jg (l2:=List.range' 1 (p-1)) hm (λy hy=>by
  obtain ⟨x,hx,rfl⟩:=List.mem_map.1 hy
  rw [List.mem_range'_1] at hx⊢
  have hlt:=Nat.mod_lt (a*x) h.pos
  have hne:a*x%p≠0:=λe=>by
   rcases h.ajx (Nat.dvd_of_mod_eq_zero e) with h1|h1
   ·exact ha h1
   ·exact pg (by omega) (by omega) h1
  omega) (by rw [List.length_map];exact Nat.le_refl _)
 have e:=Xe p a (List.range' 1 (p-1))
 rw [alZ hperm,List.length_range'] at e
 have hnot:¬p∣ve (List.range' 1 (p-1)):=Xd h _ λx hx=>by
  rw [List.mem_range'_1] at hx
  exact pg (by omega) (by omega)
 have hmul:∀ z,z*ve (List.range' 1 (p-1))%p=ve (List.range' 1 (p-1))*(z%p)%p:=λz=>by
  rw [Nat.mul_comm,Nat.mul_mod_mod]
 rw [hmul] at e
 have e1:ve (List.range' 1 (p-1))%p=ve (List.range' 1 (p-1))*1%p:=by rw [Nat.mul_one]
 rw [e1] at e
 exact (asT h hnot (by omega) (Nat.mod_lt _ h.pos) e).symm
theorem Jw:∀ (k n:Nat),2<=n->n<=k->∃ r,Pr r/\r∣n
 |0,n,h2,hk=>by omega
 |k+1,n,h2,hk=>by
  by_cases hp:Pr n
  ·exact ⟨n,hp,Nat.dvd_refl _⟩
  ·have:∃ d,d∣n/\d≠1/\d≠n:=by
    apply Classical.byContradiction
    intro hc
    refine hp ⟨h2,λd hd=> ?_⟩
    apply Classical.byContradiction
    intro hd2
    exact hc ⟨d,hd,λe=>hd2 (.inl e),λe=>hd2 (.inr e)⟩
   obtain ⟨d,hd,h1,h3⟩:=this
   have hle:=Nat.le_of_dvd (by omega) hd
   have h0:d≠0:=λe=>by subst e;have:=Nat.eq_zero_of_zero_dvd hd;omega
   obtain ⟨r,hr,hrd⟩:=Jw k d (by omega) (by omega)
   exact ⟨r,hr,Nat.dvd_trans hrd hd⟩
theorem VO {n:Nat} (h2:2<=n) (hp:¬Pr n):∃ r,Pr r/\r∣n/\r*r<=n:=by
 have:∃ d,d∣n/\d≠1/\d≠n:=by
  apply Classical.byContradiction
  intro hc
  refine hp ⟨h2,λd hd=> ?_⟩
  apply Classical.byContradiction
  intro hd2
  exact hc ⟨d,hd,λe=>hd2 (.inl e),λe=>hd2 (.inr e)⟩
 obtain ⟨d,⟨e,rfl⟩,h1,h3⟩:=this
 have hd0:d≠0:=λe'=>by subst e';omega
 have he0:e≠0:=λe'=>by subst e';omega
 have he1:e≠1:=λe'=>by subst e';omega
 rcases Nat.le_total d e with hde|hde
 ·obtain ⟨r,hr,hrd⟩:=Jw d d (by omega) (Nat.le_refl _)
  have hle:=Nat.le_of_dvd (by omega) hrd
  exact ⟨r,hr,Nat.dvd_trans hrd (Nat.dvd_mul_right ..),Nat.le_trans (Nat.mul_le_mul hle hle) (Nat.mul_le_mul_left d hde)⟩
 ·obtain ⟨r,hr,hrd⟩:=Jw e e (by omega) (Nat.le_refl _)
  have hle:=Nat.le_of_dvd (by omega) hrd
  exact ⟨r,hr,Nat.dvd_trans hrd (Nat.dvd_mul_left ..),Nat.le_trans (Nat.mul_le_mul hle hle) (Nat.mul_le_mul_right e hde)⟩
theorem aEg {r a:Nat} (hr:2<=r) (m k:Nat):a^m%r=1->a^k%r=1->a^Nat.gcd m k%r=1:=by
 induction m,k using Nat.gcd.induction with
 |H0 n=>intro _ h;rw [Nat.gcd_zero_left];exact h
 |H1 m n hm ih=>
  intro h1 h2
  rw [Nat.gcd_rec]
  refine ih ?_ h1
  have e:a^n%r=a^(n%m)%r:=by
   conv=>lhs;rw [<-Nat.div_add_mod n m,Nat.pow_add,Nat.pow_mul,Nat.mul_mod,Nat.pow_mod,h1,Nat.one_pow,Nat.mod_eq_of_lt (show 1<r by omega),Nat.one_mul,Nat.mod_mod]
  rw [<-e]
  exact h2
theorem ayV {n q e a m:Nat} (hn2:2<=n) (hq:Pr q) (he:n-1=q^(e+1)*m) (h1:a^(n-1)%n=1) (h2:Nat.gcd (a^(q^e*m)%n+n-1) n=1)
 {r:Nat} (hr:Pr r) (hd:r∣n):q^(e+1)∣r-1:=by
 have hr2:=hr.1
 have ha1:a^(n-1)%r=1:=by
  have:=congrArg (· %r) h1
  simp only [Nat.mod_mod_of_dvd _ hd] at this
  rw [this,Nat.mod_eq_of_lt (by omega)]
 have hna:¬r∣a:=λh=>by
  have:r∣a^(n-1):=Nat.dvd_trans h (by
   have:=Nat.pow_dvd_pow a (show 1<=n-1 by omega)
   rwa [Nat.pow_one] at this)
  rw [Nat.mod_eq_zero_of_dvd this] at ha1
  omega
 have hg:=aEg hr2 _ _ ha1 (atP hr hna)
 obtain ⟨h,hh⟩:=Nat.gcd_dvd_left (n-1) (r-1)
 by_cases hqh:q∣h
 ·obtain ⟨k,rfl⟩:=hqh
  have hk:q^e*m=Nat.gcd (n-1) (r-1)*k:=by
   have:q*(q^e*m)=q*(Nat.gcd (n-1) (r-1)*k):=by
    rw [<-Nat.mul_assoc,<-Nat.pow_succ',<-he,Nat.mul_left_comm q,<-hh]
   exact Nat.eq_of_mul_eq_mul_left hq.pos this
  have hone:a^(q^e*m)%r=1:=by
   rw [hk,Nat.pow_mul,Nat.pow_mod,hg,Nat.one_pow,Nat.mod_eq_of_lt (by omega)]
  have hmn:a^(q^e*m)%n%r=1:=by rw [Nat.mod_mod_of_dvd _ hd,hone]
  have hdv:r∣a^(q^e*m)%n+n-1:=by
   obtain ⟨c,rfl⟩:=hd
   have:=Nat.div_add_mod (a^(q^e*m)%(r*c)) r
   refine ⟨a^(q^e*m)%(r*c)/r+c,?_⟩
   rw [Nat.mul_add]
   omega
  have:=Nat.dvd_gcd hdv hd
  rw [h2] at this
  have:=Nat.le_of_dvd (by decide) this
  omega
 ·have hc:Nat.Coprime (q^(e+1)) h:=Nat.Coprime.pow_left _ (hq.cop hqh)
  have hdg:q^(e+1)∣Nat.gcd (n-1) (r-1)*h:=by rw [<-hh,he];exact Nat.dvd_mul_right ..
  exact Nat.dvd_trans (hc.dvd_of_dvd_mul_right hdg) (Nat.gcd_dvd_right ..)
theorem ayW {n F:Nat} (h2:2<=n) (hF:n<F*F) (h:∀ r,Pr r->r∣n->F∣r-1):Pr n:=by
 apply Classical.byContradiction
 intro hp
 obtain ⟨r,hr,hd,hle⟩:=VO h2 hp
 have h1:=hr.1
 have:=Nat.le_of_dvd (by omega) (h r hr hd)
 have:F*F<=r*r:=Nat.mul_le_mul (by omega) (by omega)
 omega
def X5 {α:Type} (n:Nat) (f:Nat->α):α:=match n with
 |0=>f 0
 |k+1=>f (k+1)
theorem X4 {α:Type} (n:Nat) (f:Nat->α):X5 n f=f n:=by cases n<;>rfl
def pw (n:Nat):Nat->Nat->Nat->Nat->Nat
 |0,o,_,_=>o
 |f+1,o,x,k=>X5 k λk=>cond (Nat.beq k 0) o (X5 (x*x%n) λy=>X5 (cond (Nat.beq (k%2) 1) (o*x%n) o) λo=>pw n f o y (k/2))
theorem aEe {p:Nat}:∀ (n o x k:Nat),k<2^n->o<p->pw p n o x k=o*x^k%p
 |0,o,x,k,hk,ho=>by
  have:k=0:=by omega
  subst this
  show o=_
  rw [Nat.pow_zero,Nat.mul_one,Nat.mod_eq_of_lt ho]
 |n+1,o,x,k,hk,ho=>by
  unfold pw
  simp only [X4]
  rw [Nat.pow_succ] at hk
  cases h0:Nat.beq k 0
  ·simp only [cond_false]
   have hsq:(x*x%p)^(k/2)%p=x^(2*(k/2))%p:=by
    rw [<-Nat.pow_mod,Nat.pow_mul,Nat.pow_two]
   cases h1:Nat.beq (k%2) 1
   ·have h1':¬k%2=1:=λe=>by rw [e] at h1;cases h1
    simp only [cond_false]
    rw [aEe n _ _ _ (by omega) ho,Nat.mul_mod,hsq,<-Nat.mul_mod,show 2*(k/2)=k by omega]
   ·have h1:=Nat.eq_of_beq_eq_true h1
    simp only [cond_true]
    rw [aEe n _ _ _ (by omega) (Nat.mod_lt _ (by omega)),Nat.mul_mod,hsq,Nat.mod_mod,<-Nat.mul_mod,Nat.mul_assoc,<-Nat.pow_succ',show (2*(k/2)).succ=k by omega]
  ·have h0:=Nat.eq_of_beq_eq_true h0
   subst h0
   simp only [cond_true]
   rw [Nat.pow_zero,Nat.mul_one,Nat.mod_eq_of_lt ho]
def pwm (n a k:Nat):Nat:=pw n 256 1 (a%n) k
theorem aiy {n:Nat} (hn:2<=n) {a k:Nat} (hk:Nat.blt k (2^256)=true):pwm n a k=a^k%n:=by
 have hk':k<2^256:=Nat.le_of_ble_eq_true hk
 unfold pwm
 rw [aEe 256 1 _ _ hk' (by omega),Nat.one_mul,<-Nat.pow_mod]
def aGJ (n q e a m:Nat):Bool:=Nat.beq (n-1) (q^(e+1)*m)&&(Nat.blt n (2^256)&&(Nat.beq (pwm n a (n-1)) 1&&Nat.beq (Nat.gcd (pwm n a (q^e*m)+n-1) n) 1))
theorem fe {n q e a m:Nat} (h2:2<=n) (hq:Pr q) (h:aGJ n q e a m=true) {r:Nat} (hr:Pr r) (hd:r∣n):q^(e+1)∣r-1:=by
 simp only [aGJ,Bool.and_eq_true] at h
 obtain ⟨h1,h3,h4,h5⟩:=h
 have h1:=Nat.eq_of_beq_eq_true h1
 have h3:n<2^256:=Nat.le_of_ble_eq_true h3
 have hm:q^e*m<=n-1:=by
  rw [h1,Nat.pow_succ,Nat.mul_right_comm]
  exact Nat.le_mul_of_pos_right _ hq.pos
 rw [aiy h2 (Nat.ble_eq_true_of_le (show n-1+1<=2^256 by omega))] at h4
 rw [aiy h2 (Nat.ble_eq_true_of_le (show q^e*m+1<=2^256 by omega))] at h5
 exact ayV h2 hq h1 (Nat.eq_of_beq_eq_true h4) (Nat.eq_of_beq_eq_true h5) hr hd
def aHI (n:Nat):Nat->Nat->Bool
 |0,_=>false
 |f+1,d=>X5 d λd=>cond (Nat.blt n (d*d)) true (cond (Nat.beq (n%d) 0) false (aHI n f (d+1)))
theorem apb {n:Nat}:∀ (f d:Nat),aHI n f d=true->0<d->(∀ x,1<x->x<d->¬x∣n)->∀ x,1<x->x*x<=n->¬x∣n
 |0,d,h,_,_=>by cases h
 |f+1,d,h,hd0,hb=>by
  unfold aHI at h
  rw [X4] at h
  cases h1:Nat.blt n (d*d)
  ·rw [h1] at h
   cases h2:Nat.beq (n%d) 0
   ·rw [h2] at h
    refine apb f (d+1) h (by omega) λx hx hxd hdv=> ?_
    by_cases hxd2:x=d
    ·subst hxd2
     rw [Nat.mod_eq_zero_of_dvd hdv] at h2
     cases h2
    ·exact hb x hx (by omega) hdv
   ·rw [h2] at h;cases h
  ·have h1:n<d*d:=Nat.le_of_ble_eq_true h1
   intro x hx hxx
   refine hb x hx ?_
   apply Classical.byContradiction
   intro hc
   have:=Nat.mul_le_mul (show d<=x by omega) (show d<=x by omega)
   omega
theorem ya {n:Nat} (f:Nat) (h2:2<=n) (h:aHI n f 2=true):Pr n:=by
 apply Classical.byContradiction
 intro hp
 obtain ⟨r,hr,hd,hle⟩:=VO h2 hp
 have:=hr.1
 exact apb f 2 h (by decide) (λx a b=>by omega) r (by omega) hle hd
end Go.Proofs.YtohjofabochgfaaGreat

set_option maxRecDepth 100000
namespace Go.Proofs.YtohjofabochgfaaGreat
theorem Jf:Pr 16513537:=ya 4065 (by decide) (by decide+kernel)
theorem Je:Pr 16521217:=ya 4066 (by decide) (by decide+kernel)
theorem asj:Pr 772231:=ya 880 (by decide) (by decide+kernel)
theorem asl:Pr 413527:=ya 645 (by decide) (by decide+kernel)
theorem y7:Pr 325086459374267:=ayW (F:=319338368737) (by decide) (by decide+kernel) λr hr hd=>by
 have h0:772231∣r-1:=fe (n:=325086459374267) (q:=772231) (e:=0) (a:=2) (m:=420970486) (by decide) asj (by decide+kernel) hr hd
 have h1:413527∣r-1:=fe (n:=325086459374267) (q:=413527) (e:=0) (a:=2) (m:=786131158) (by decide) asl (by decide+kernel) hr hd
 have k1:319338368737∣r-1:=Nat.Coprime.mul_dvd_of_dvd_of_dvd (m:=772231) (n:=413527) (show Nat.gcd 772231 413527=1 by decide+kernel) h0 h1
 exact k1
theorem al0:Pr 6942563:=ya 2636 (by decide) (by decide+kernel)
theorem acP:Pr 41655379:=ayW (F:=6942563) (by decide) (by decide+kernel) λr hr hd=>by
 have h0:6942563∣r-1:=fe (n:=41655379) (q:=6942563) (e:=0) (a:=2) (m:=6) (by decide) al0 (by decide+kernel) hr hd
 exact h0
theorem Nb:Pr 22160661629:=ayW (F:=41655379) (by decide) (by decide+kernel) λr hr hd=>by
 have h0:41655379∣r-1:=fe (n:=22160661629) (q:=41655379) (e:=0) (a:=2) (m:=532) (by decide) acP (by decide+kernel) hr hd
 exact h0
theorem dY:Pr 8999194758858563409123804352480028797519453:=ayW (F:=7204131026362786056900943) (by decide) (by decide+kernel) λr hr hd=>by
 have h0:325086459374267∣r-1:=fe (n:=8999194758858563409123804352480028797519453) (q:=325086459374267) (e:=0) (a:=2) (m:=27682465692912573825889481556) (by decide) y7 (by decide+kernel) hr hd
 have h1:22160661629∣r-1:=fe (n:=8999194758858563409123804352480028797519453) (q:=22160661629) (e:=0) (a:=2) (m:=406088721966766121824069856270988) (by decide) Nb (by decide+kernel) hr hd
 have k1:7204131026362786056900943∣r-1:=Nat.Coprime.mul_dvd_of_dvd_of_dvd (m:=325086459374267) (n:=22160661629) (show Nat.gcd 325086459374267 22160661629=1 by decide+kernel) h0 h1
 exact k1
theorem aY:Pr 28948022309329048855892746252171976963363056481941560715954676764349967630337:=ayW (F:=8999194758858563409123804352480028797519453) (by decide) (by decide+kernel) λr hr hd=>by
 have h0:8999194758858563409123804352480028797519453∣r-1:=fe (n:=28948022309329048855892746252171976963363056481941560715954676764349967630337) (q:=8999194758858563409123804352480028797519453) (e:=0) (a:=2) (m:=3216734728497058061019394250637312) (by decide) dY (by decide+kernel) hr hd
 exact h0
theorem ayS:Pr 31649:=ya 179 (by decide) (by decide+kernel)
theorem ayT:Pr 12149:=ya 112 (by decide) (by decide+kernel)
theorem Gd:Pr 5239247429827:=ayW (F:=384503701) (by decide) (by decide+kernel) λr hr hd=>by
 have h0:31649∣r-1:=fe (n:=5239247429827) (q:=31649) (e:=0) (a:=2) (m:=165542274) (by decide) ayS (by decide+kernel) hr hd
 have h1:12149∣r-1:=fe (n:=5239247429827) (q:=12149) (e:=0) (a:=2) (m:=431249274) (by decide) ayT (by decide+kernel) hr hd
 have k1:384503701∣r-1:=Nat.Coprime.mul_dvd_of_dvd_of_dvd (m:=31649) (n:=12149) (show Nat.gcd 31649 12149=1 by decide+kernel) h0 h1
 exact k1
theorem al1:Pr 5701177:=ya 2389 (by decide) (by decide+kernel)
theorem Xg:Pr 399082391:=ayW (F:=5701177) (by decide) (by decide+kernel) λr hr hd=>by
 have h0:5701177∣r-1:=fe (n:=399082391) (q:=5701177) (e:=0) (a:=2) (m:=70) (by decide) al1 (by decide+kernel) hr hd
 exact h0
theorem fQ:Pr 10427374428728808478656897599072717:=ayW (F:=2090891391335963876357) (by decide) (by decide+kernel) λr hr hd=>by
 have h0:5239247429827∣r-1:=fe (n:=10427374428728808478656897599072717) (q:=5239247429827) (e:=0) (a:=2) (m:=1990242791238649418308) (by decide) Gd (by decide+kernel) hr hd
 have h1:399082391∣r-1:=fe (n:=10427374428728808478656897599072717) (q:=399082391) (e:=0) (a:=2) (m:=26128375152309860944621076) (by decide) Xg (by decide+kernel) hr hd
 have k1:2090891391335963876357∣r-1:=Nat.Coprime.mul_dvd_of_dvd_of_dvd (m:=5239247429827) (n:=399082391) (show Nat.gcd 5239247429827 399082391=1 by decide+kernel) h0 h1
 exact k1
theorem aIu:Pr 2:=ya 3 (by decide) (by decide+kernel)
theorem aX:Pr 28948022309329048855892746252171976963363056481941647379679742748393362948097:=ayW (F:=44785232154536915268878889192838239440863232) (by decide) (by decide+kernel) λr hr hd=>by
 have h0:10427374428728808478656897599072717∣r-1:=fe (n:=28948022309329048855892746252171976963363056481941647379679742748393362948097) (q:=10427374428728808478656897599072717) (e:=0) (a:=2) (m:=2776156405161148062854777934377771323097088) (by decide) fQ (by decide+kernel) hr hd
 have h1:4294967296∣r-1:=fe (n:=28948022309329048855892746252171976963363056481941647379679742748393362948097) (q:=2) (e:=31) (a:=5) (m:=6739986666787659948666753771754907668419893943225417141728043264801) (by decide) aIu (by decide+kernel) hr hd
 have k1:44785232154536915268878889192838239440863232∣r-1:=Nat.Coprime.mul_dvd_of_dvd_of_dvd (m:=10427374428728808478656897599072717) (n:=4294967296) (show Nat.gcd 10427374428728808478656897599072717 4294967296=1 by decide+kernel) h0 h1
 exact k1
end Go.Proofs.YtohjofabochgfaaGreat

namespace Go.Proofs.YtohjofabochgfaaGreat
set_option maxRecDepth 100000
theorem dc {p a b:Int} (c:Int) (h:p∣a) (k:p∣b):p∣c*a+b:=Int.dvd_add (Int.dvd_trans h (Int.dvd_mul_left ..)) k
end Go.Proofs.YtohjofabochgfaaGreat

namespace Go.Proofs.YtohjofabochgfaaGreat
theorem Pr.at4 {p:Nat} (h:Pr p) {a b:Int} (hd:(p:Int)∣a*b):(p:Int)∣a\/(p:Int)∣b:=by
 rw [Int.ofNat_dvd_left,Int.natAbs_mul] at hd
 rcases h.ajx hd with h1|h1
 ·exact .inl (Int.ofNat_dvd_left.2 h1)
 ·exact .inr (Int.ofNat_dvd_left.2 h1)
def nm (p:Nat) (z:Int):Nat:=(z%(p:Int)).toNat
theorem asA {p:Nat} (hp:0<p) (z:Int):((nm p z:Nat):Int)=z%(p:Int):=by
 unfold nm
 have:=Int.emod_nonneg z (show (p:Int)≠0 by omega)
 omega
theorem aGS {p:Nat} (hp:0<p) (z:Int):(p:Int)∣((nm p z:Nat):Int)-z:=by
 rw [asA hp]
 have:=Int.emod_add_mul_ediv z p
 exact ⟨-(z/p),by grind⟩
theorem al8 {p:Nat} (hp:0<p) (z:Int):nm p z<p:=by
 have h:=asA hp z
 have:=Int.emod_lt_of_pos z (show (0:Int)<p by omega)
 omega
theorem abq {p a b:Nat} (ha:a<p) (hb:b<p) (h:(p:Int)∣(a:Int)-(b:Int)):a=b:=by
 obtain ⟨k,hk⟩:=h
 have hpk:(p:Int)*k<p*1/\(p:Int)*(-1)<p*k:=by constructor<;>omega
 have h1:=Int.lt_of_mul_lt_mul_left hpk.1 (by omega)
 have h2:=Int.lt_of_mul_lt_mul_left hpk.2 (by omega)
 have:k=0:=by omega
 subst this
 omega
def aIp (p:Nat) (a:Int):Int:=((nm p a^(p-2):Nat):Int)
structure Cur (p b:Nat):Prop where
 pr:Pr p
 big:5<=p
 n2:∀ x:Int,¬(p:Int)∣x*x*x+b
theorem Cur.pos {p b:Nat} (c:Cur p b):0<p:=c.pr.pos
abbrev PtQ:Type:=Option (Nat×Nat)
structure Lin (p:Nat) (x1 y1 x2 y2 l:Int):Prop where
 a:(p:Int)∣l*(x1-x2)-(y1-y2)
 b:(p:Int)∣l*(y1+y2)-(x1*x1+x1*x2+x2*x2)
structure Thd (p:Nat) (x1 y1 x2 l x3 y3:Int):Prop where
 x:(p:Int)∣x3-(l*l-x1-x2)
 y:(p:Int)∣y3-(l*(x1-x3)-y1)
def aGv (p:Nat) (P R:Nat×Nat):Int:=if P.1=R.1 then 3*P.1*P.1*aIp p (P.2+P.2) else ((R.2:Int)-P.2)*aIp p ((R.1:Int)-P.1)
def aGi (p:Nat) (P R:Nat×Nat) (l:Int):Nat×Nat:=(nm p (l*l-P.1-R.1),nm p (l*(P.1-nm p (l*l-P.1-R.1))-P.2))
def aIz (p:Nat):PtQ->PtQ->PtQ
 |none,R=>R
 |some P,none=>some P
 |some P,some R=>if P.1=R.1/\P.2≠R.2 then none else some (aGi p P R (aGv p P R))
variable {p b:Nat}
theorem gq (P:PtQ):aIz p P none=P:=by cases P<;>rfl
end Go.Proofs.YtohjofabochgfaaGreat

namespace Go.Proofs.YtohjofabochgfaaGreat
open Sx Go
abbrev Sm (p:Nat):Prop:=0<p/\p<57896044618658097711785492504343953926634992332820282019728792003956564819968
theorem aHN {p:Nat} (n:Nat):(p:Int)∣((n%p:Nat):Int)-(n:Int):=by
 have:=Nat.div_add_mod n p
 refine ⟨-((n/p:Nat):Int),?_⟩
 have h:((p*(n/p)+n%p:Nat):Int)=(n:Int):=by rw [this]
 rw [Int.natCast_add,Int.natCast_mul] at h
 rw [Int.mul_neg]
 omega
variable {p:Nat}
theorem aA8 (hp:Sm p) (a b:ag):(p:Int)∣((dI p a b).nat:Int)-((a.nat:Int)*(b.nat:Int)):=by
 have e:(dI p a b).nat=a.nat*b.nat%p:=df hp
 rw [e]
 have:=aHN (p:=p) (a.nat*b.nat)
 rwa [Int.natCast_mul] at this
theorem aHB (hp:Sm p) (a b:ag):(p:Int)∣((vh p a b).nat:Int)-((a.nat:Int)+(b.nat:Int)):=by
 have e:(vh p a b).nat=(a.nat+b.nat)%p:=df hp
 rw [e]
 have:=aHN (p:=p) (a.nat+b.nat)
 rwa [Int.natCast_add] at this
theorem ru (hp:Sm p) (a b:ag):(dI p a b).nat<p:=by
 rw [show (dI p a b).nat=a.nat*b.nat%p from df hp]
 exact Nat.mod_lt _ hp.1
theorem aFC (hp:Sm p) (a b:ag):(vh p a b).nat<p:=by
 rw [show (vh p a b).nat=(a.nat+b.nat)%p from df hp]
 exact Nat.mod_lt _ hp.1
theorem al7:(ag.mk 0 0 0 0).nat=0:=by decide
variable {b:Nat}
end Go.Proofs.YtohjofabochgfaaGreat

namespace Go.Proofs.YtohjofabochgfaaGreat
open Sx Go
theorem SC {p b m:Nat} (pr:Pr p) (h3:p=3*m+1) (hb0:0<b) (hb:b<p) (hm:Nat.blt m (2^256)=true) (hk:Nat.beq (pwm p (p-b) m) 1=false) (x:Int):¬(p:Int)∣x*x*x+b:=λhd=>by
 have h2:=pr.1
 rw [aiy h2 hm] at hk
 obtain ⟨k,hk1⟩:=hd
 obtain ⟨j,hj⟩:=aGS pr.pos x
 have hn:p∣nm p x*nm p x*nm p x+b:=Int.natCast_dvd_natCast.1 (by
  rw [Int.natCast_add,Int.natCast_mul,Int.natCast_mul]
  generalize ((nm p x:Nat):Int)=n at*
  exact ⟨k+j*(n*n+n*x+x*x),by grind⟩)
 generalize nm p x=n at*
 have hpn:¬p∣n:=λhd=>by
  have h1:p∣n*n*n:=Nat.dvd_trans hd (Nat.dvd_mul_left ..)
  have:=(Nat.dvd_add_right h1).1 hn
  have:=Nat.le_of_dvd hb0 this
  omega
 have hf:=atP pr hpn
 have e:n^3%p=(p-b)%p:=by
  obtain ⟨c,hc⟩:=hn
  have hc0:c≠0:=λe=>by rw [e] at hc;omega
  obtain ⟨d,rfl⟩:∃ d,c=d+1:=⟨c-1,by omega⟩
  have:n^3=(p-b)+p*d:=by
   rw [show n^3=n*n*n by rw [Nat.pow_succ,Nat.pow_succ,Nat.pow_one]]
   rw [Nat.mul_succ] at hc
   omega
  rw [this,Nat.add_mul_mod_self_left]
 have:(p-b)^m%p=1:=by
  rw [Nat.pow_mod,<-e,<-Nat.pow_mod,<-Nat.pow_mul,show 3*m=p-1 by omega]
  exact hf
 rw [this] at hk
 cases hk
theorem aBp {s:Int} (h:au s=true):Cur (pS s) (bS s).nat:=by
 rcases ca h with rfl|rfl|rfl|rfl
 ·have e:pS 0=16513537:=by decide+kernel
  have e2:(bS 0).nat=23:=by decide+kernel
  rw [e,e2]
  exact ⟨Jf,by decide,SC (m:=5504512) Jf (by decide) (by decide) (by decide) (by decide+kernel) (by decide+kernel)⟩
 ·have e:pS 1=16521217:=by decide+kernel
  have e2:(bS 1).nat=21:=by decide+kernel
  rw [e,e2]
  exact ⟨Je,by decide,SC (m:=5507072) Je (by decide) (by decide) (by decide) (by decide+kernel) (by decide+kernel)⟩
 ·have e:pS 2=28948022309329048855892746252171976963363056481941560715954676764349967630337:=by decide+kernel
  have e2:(bS 2).nat=5:=by decide+kernel
  rw [e,e2]
  exact ⟨aY,by decide,SC (m:=9649340769776349618630915417390658987787685493980520238651558921449989210112) aY (by decide) (by decide) (by decide) (by decide+kernel) (by decide+kernel)⟩
 ·have e:pS 3=28948022309329048855892746252171976963363056481941647379679742748393362948097:=by decide+kernel
  have e2:(bS 3).nat=5:=by decide+kernel
  rw [e,e2]
  exact ⟨aX,by decide,SC (m:=9649340769776349618630915417390658987787685493980549126559914249464454316032) aX (by decide) (by decide) (by decide) (by decide+kernel) (by decide+kernel)⟩
end Go.Proofs.YtohjofabochgfaaGreat

namespace Go.Proofs.YtohjofabochgfaaGreat
open Sx Go
theorem gw (a n p:Nat):(a%p)^n%p=a^n%p:=(Nat.pow_mod a n p).symm
theorem aH1 {p a b c d:Nat} (h1:a%p=c%p) (h2:b%p=d%p):a*b%p=c*d%p:=by rw [Nat.mul_mod,h1,h2,<-Nat.mul_mod]
theorem aAX {p t:Nat} (pr:Pr p) (ht:t<p) (h:t*t%p=1):t=1\/t=p-1:=by
 have h2:=pr.1
 have hd:(p:Int)∣((t:Int)-1)*((t:Int)+1):=by
  have e:=Nat.div_add_mod (t*t) p
  rw [h] at e
  refine ⟨((t*t/p:Nat):Int),?_⟩
  have e:((p*(t*t/p)+1:Nat):Int)=((t*t:Nat):Int):=congrArg (λn:Nat=>(n:Int)) e
  rw [Int.natCast_add,Int.natCast_mul,Int.natCast_mul] at e
  have e2:((t:Int)-1)*((t:Int)+1)=(t:Int)*t-1:=by grind
  rw [e2,<-e]
  omega
 rcases pr.at4 hd with h|h
 ·left
  exact abq ht (by omega) h
 ·right
  refine abq ht (by omega) ?_
  obtain ⟨k,hk⟩:=h
  have:((p-1:Nat):Int)=(p:Int)-1:=by omega
  rw [this]
  exact ⟨k-1,by rw [Int.mul_sub];omega⟩
theorem aGT {p:Nat} (h2:2<=p):(p-1)*(p-1)%p=1:=by
 obtain ⟨q,rfl⟩:∃ q,p=q+2:=⟨p-2,by omega⟩
 have:(q+2-1)*(q+2-1)=1+(q+2)*q:=by
  rw [show q+2-1=q+1 by omega]
  grind
 rw [this,Nat.add_mul_mod_self_left]
 exact Nat.mod_eq_of_lt (by omega)
section
variable {p:Nat}
theorem zd (hp:Sm p) (a b:ag):(dI p a b).nat=a.nat*b.nat%p:=df hp
theorem j1 (hp:Sm p) (h2:2<=p) (a k:ag):(gG p a k).nat=a.nat^k.nat%p:=by
 rw [at0 (by omega)]
 exact df hp
theorem aDA (hp:Sm p) {b:ag} (hb:b.nat<p):∀ n,(sqN p b n).nat=b.nat^2^n%p
 |0=>by
  show b.nat=_
  rw [Nat.pow_zero,Nat.pow_one,Nat.mod_eq_of_lt hb]
 |n+1=>by
  show (dI p (sqN p b n) (sqN p b n)).nat=_
  rw [zd hp,aDA hp hb n,<-Nat.mul_mod,<-Nat.pow_add,<-Nat.two_mul,<-Nat.pow_succ']
theorem Dh (t:ag):eqE t eZ=Nat.beq t.nat 1:=by rw [aFd];rfl
theorem wD {a b:Nat} (h:Nat.beq a b=false):a≠b:=λe=>by rw [e,Nat.beq_refl] at h;cases h
structure aAz (p a i:Nat) (w:Ton):Prop where
 x:w.1.nat<p
 b:w.2.1.nat<p
 z:w.2.2.nat<p
 sq:w.1.nat*w.1.nat%p=a*w.2.1.nat%p
 one:w.2.1.nat^2^i%p=1
 neg:w.2.2.nat^2^i%p=p-1
theorem al2 (b i:Nat):b^2^(i+1)=b^2^i*b^2^i:=by rw [<-Nat.pow_add,<-Nat.two_mul,<-Nat.pow_succ']
theorem aqC (z i:Nat) (p:Nat):(z*z%p)^2^i%p=z^2^(i+1)%p:=by rw [gw,<-Nat.pow_two,<-Nat.pow_mul,<-Nat.pow_succ']
theorem XN (pr:Pr p) {b i:Nat} (h:b^2^(i+1)%p=1):b^2^i%p=1\/b^2^i%p=p-1:=by
 rw [al2,Nat.mul_mod] at h
 exact aAX pr (Nat.mod_lt _ pr.pos) h
theorem apc (hp:Sm p) (pr:Pr p) {a i:Nat} {x b z u:ag} (hx:x.nat*x.nat%p=a*b.nat%p) (hb:b.nat^2^i%p=p-1) (hu:u.nat*u.nat%p=z.nat%p) (hz:z.nat^2^i%p=p-1):
 (dI p x u).nat*(dI p x u).nat%p=a*(dI p b z).nat%p/\(dI p b z).nat^2^i%p=1:=by
 constructor
 ·rw [zd hp,zd hp,<-Nat.mul_mod,Nat.mul_mod_mod,show x.nat*u.nat*(x.nat*u.nat)=x.nat*x.nat*(u.nat*u.nat) by ac_rfl,show a*(b.nat*z.nat)=a*b.nat*z.nat from (Nat.mul_assoc ..).symm]
  exact aH1 hx hu
 ·rw [zd hp,gw,Nat.mul_pow,Nat.mul_mod,hb,hz]
  exact aGT pr.1
theorem akW (hp:Sm p) (pr:Pr p) {a m k:Nat} {w:Ton} (hk:k<m) (h:aAz p a (m-k) w):aAz p a (m-(k+1)) (vR p m k w):=by
 obtain ⟨x,b,z⟩:=w
 have e:m-k=(m-(k+1))+1:=by omega
 rw [e] at h
 obtain ⟨hx,hb,hz,h1,h2,h3⟩:=h
 dsimp only at*
 have ht:=aDA hp hb (m-(k+1))
 have hz2:(dI p z z).nat^2^(m-(k+1))%p=p-1:=by rw [zd hp,aqC];exact h3
 unfold vR
 dsimp only
 rw [show m-k-1=m-(k+1) by omega,Dh]
 cases hq:Nat.beq (sqN p b (m-(k+1))).nat 1
 ·simp only [cond_false]
  have hn:=wD hq
  rw [ht] at hn
  have hb1:=(XN pr h2).resolve_left hn
  obtain ⟨g1,g2⟩:=apc hp pr (u:=z) h1 hb1 (by rw [zd hp,Nat.mod_mod]) hz2
  exact ⟨ru hp _ _,ru hp _ _,ru hp _ _,g1,g2,hz2⟩
 ·simp only [cond_true]
  have hb1:=Nat.eq_of_beq_eq_true hq
  rw [ht] at hb1
  exact ⟨hx,hb,ru hp _ _,h1,hb1,hz2⟩
theorem aCb (hp:Sm p) (pr:Pr p) {a m:Nat} {w:Ton} (h:aAz p a m w):(avW p m w).1.nat<p/\(avW p m w).1.nat*(avW p m w).1.nat%p=a%p:=by
 have key:∀ n,n<=m->aAz p a (m-n) (upto (vR p m) w n):=by
  intro n
  induction n with
  |zero=>intro _;exact h
  |succ n ih=>intro hn;exact akW hp pr (by omega) (ih (by omega))
 have hk:=key m (Nat.le_refl _)
 rw [Nat.sub_self] at hk
 obtain ⟨hx,hb,hz,h1,h2,h3⟩:=hk
 refine ⟨hx,?_⟩
 rw [Nat.pow_zero,Nat.pow_one,Nat.mod_eq_of_lt hb] at h2
 rw [h2,Nat.mul_one] at h1
 exact h1
end
def GI (s:Int):ag:=dK (ef (aS s.toNat).1 eZ).1 (aS s.toNat).2.1.toNat
def adS (s:Int):Nat:=(aS s.toNat).2.1.toNat
structure akb (s:Int):Prop where
 od:(GI s).nat*2^adS s=pS s-1
 up:2*(dj (oE (GI s) eZ).1).nat=(GI s).nat+1
 hf:(dj (ef (aS s.toNat).1 eZ).1).nat=(pS s-1)/2
 ad:1<=adS s
 ai:(aS s.toNat).2.1=(adS s:Int)
 nr:pwm (pS s) 5 ((pS s-1)/2)=pS s-1
 pr:Pr (pS s)
 sm:Sm (pS s)
 o2:pS s%2=1
theorem VL {s:Int} (hs:au s=true):akb s:=by
 have pr:=(aBp hs).pr
 have sm:Sm (pS s):=rn hs
 rcases ca hs with rfl|rfl|rfl|rfl<;>
  exact ⟨by decide+kernel,by decide+kernel,by decide+kernel,by decide+kernel,by decide+kernel,by decide+kernel,pr,sm,by decide+kernel⟩
section
variable {s:Int} (k:akb s)
include k
theorem asm (a:Nat):(a^(GI s).nat)^2^(adS s-1)=a^((pS s-1)/2):=by
 rw [<-Nat.pow_mul]
 congr 1
 have h:=k.od
 have ha:=k.ad
 obtain ⟨n,hn⟩:∃ n,adS s=n+1:=⟨adS s-1,by omega⟩
 rw [hn] at h⊢
 rw [Nat.pow_succ,<-Nat.mul_assoc] at h
 rw [show n+1-1=n by omega]
 omega
theorem ajk:(5^(GI s).nat)^2^(adS s-1)%pS s=pS s-1:=by
 rw [asm k]
 have h:=k.nr
 have hp:=k.sm
 rw [aiy k.pr.1 (Nat.ble_eq_true_of_le (by have:=hp.2;omega))] at h
 exact h
omit k in
theorem ajl:(ag.mk 5 0 0 0).nat=5:=by decide
theorem aqS {a:ag} (he:a.nat^((pS s-1)/2)%pS s=1):(vZ s a).nat<pS s/\(vZ s a).nat*(vZ s a).nat%pS s=a.nat%pS s:=by
 have hp:=k.sm
 have pr:=k.pr
 have e:vZ s a=(avW (pS s) (adS s-1) (gG (pS s) a (dj (oE (GI s) eZ).1),gG (pS s) a (GI s),gG (pS s) ⟨5,0,0,0⟩ (GI s))).1:=by
  show (avW (pS s) ((aS s.toNat).2.1-1).toNat _).1=_
  rw [k.ai,show ((adS s:Int)-1).toNat=adS s-1 by omega]
  rfl
 rw [e]
 refine aCb hp pr (a:=a.nat) ⟨?_,?_,?_,?_,?_,?_⟩
 ·rw [j1 hp pr.1];exact Nat.mod_lt _ pr.pos
 ·rw [j1 hp pr.1];exact Nat.mod_lt _ pr.pos
 ·rw [j1 hp pr.1];exact Nat.mod_lt _ pr.pos
 ·show (gG (pS s) a (dj (oE (GI s) eZ).1)).nat*(gG (pS s) a (dj (oE (GI s) eZ).1)).nat%pS s=a.nat*(gG (pS s) a (GI s)).nat%pS s
  rw [j1 hp pr.1,j1 hp pr.1,<-Nat.mul_mod,Nat.mul_mod_mod,<-Nat.pow_add,<-Nat.two_mul,k.up,Nat.pow_succ,Nat.mul_comm]
 ·show (gG (pS s) a (GI s)).nat^_%pS s=1
  rw [j1 hp pr.1,gw,asm k]
  exact he
 ·show (gG (pS s) ⟨5,0,0,0⟩ (GI s)).nat^_%pS s=pS s-1
  rw [j1 hp pr.1,gw,ajl]
  exact ajk k
end
theorem adU {p:Nat} (hp:Sm p) (ho:p%2=1) {x:ag} (hx:x.nat<p):(l5 p x).nat<p/\(l5 p x).nat%2=0/\(l5 p x).nat*(l5 p x).nat%p=x.nat*x.nat%p:=by
 have hb:(x.w0%2==1)=Nat.beq (x.nat%2) 1:=by
  have e:x.nat%2=x.w0.toNat%2:=by unfold Sx.ag.nat;omega
  rw [e]
  have h2:(x.w0%2).toNat=x.w0.toNat%2:=by rw [UInt64.toNat_mod];rfl
  rw [<-h2]
  by_cases h:x.w0%2=1
  ·rw [h];rfl
  ·have hn:¬(x.w0%2).toNat=1:=λe=>h (UInt64.toNat_inj.1 e)
   have:Nat.beq (x.w0%2).toNat 1=false:=by
    cases hb:Nat.beq (x.w0%2).toNat 1
    ·rfl
    ·exact absurd (Nat.eq_of_beq_eq_true hb) hn
   rw [this]
   simpa using h
 unfold l5
 rw [hb]
 cases hq:Nat.beq (x.nat%2) 1
 ·simp only [cond_false]
  have:=wD hq
  exact ⟨hx,by omega,trivial⟩
 ·simp only [cond_true]
  have h1:=Nat.eq_of_beq_eq_true hq
  have e:(Pq p x).nat=p-x.nat:=by
   rw [show (Pq p x).nat=(p-x.nat%p)%p from df hp,Nat.mod_eq_of_lt hx,Nat.mod_eq_of_lt (by omega)]
  rw [e]
  refine ⟨by omega,by omega,?_⟩
  obtain ⟨d,hd⟩:∃ d,p=x.nat+d:=⟨p-x.nat,by omega⟩
  have e2:p-x.nat=d:=by omega
  rw [e2]
  have e3:d*d+p*x.nat=x.nat*x.nat+p*d:=by rw [hd];grind
  have:=congrArg (· %p) e3
  simp only [Nat.add_mul_mod_self_left] at this
  exact this
theorem at2 {p:Nat} (pr:Pr p) (ho:p%2=1) {x y:Nat} (hx:x<p) (hy:y<p) (ex:x%2=0) (ey:y%2=0) (h:x*x%p=y*y%p):x=y:=by
 have hd:(p:Int)∣((x:Int)-y)*((x:Int)+y):=by
  obtain ⟨a,ha⟩:=aHN (p:=p) (x*x)
  obtain ⟨b,hb⟩:=aHN (p:=p) (y*y)
  rw [h] at ha
  rw [Int.natCast_mul] at ha hb
  generalize (((y*y%p):Nat):Int)=r at*
  exact ⟨b-a,by grind⟩
 rcases pr.at4 hd with h|h
 ·exact abq hx hy h
 ·have h:(p:Int)∣((x+y:Nat):Int):=by rw [Int.natCast_add];exact h
  have h:=Int.natCast_dvd_natCast.1 h
  obtain ⟨c,hc⟩:=h
  have hc2:c<2:=by
   apply Classical.byContradiction
   intro h2
   have:=Nat.mul_le_mul_left p (show 2<=c by omega)
   omega
  rcases (show c=0\/c=1 by omega) with rfl|rfl<;>omega
end Go.Proofs.YtohjofabochgfaaGreat

namespace Go.Proofs.YtohjofabochgfaaGreat
open Sx Go
def kF (p:Nat):Nat->ag->Nat->Nat
 |0,_,k=>k
 |n+1,s,k=>cond (eqE s eZ) k (kF p n (dI p s s) (k+1))
def tsB (p m k:Nat) (w:Ton):ag:=sqN p w.2.2 (m-k-1)
def tsW (p m k:Nat) (w:Ton):Ton:=(dI p w.1 (tsB p m k w),dI p w.2.1 (dI p (tsB p m k w) (tsB p m k w)),dI p (tsB p m k w) (tsB p m k w))
def tsF (p:Nat):Nat->Nat->Ton->Option ag
 |0,_,_=>none
 |f+1,m,w=>cond (eqE w.2.1 eZ) (some w.1) (cond (Nat.beq (kF p m w.2.1 0) m) none (tsF p f (kF p m w.2.1 0) (tsW p m (kF p m w.2.1 0) w)))
section
variable {p:Nat}
theorem ac5 (hp:Sm p):∀ (n:Nat) (s:ag) (k:Nat),s.nat<p->k<=kF p n s k/\kF p n s k<=k+n/\(kF p n s k<k+n->s.nat^2^(kF p n s k-k)%p=1)/\∀ j,k<=j->j<kF p n s k->s.nat^2^(j-k)%p≠1
 |0,s,k,_=>⟨Nat.le_refl _,Nat.le_refl _,λh=>absurd h (Nat.lt_irrefl _),λj h1 h2=>absurd h2 (by show ¬j<k;omega)⟩
 |n+1,s,k,hs=>by
  unfold kF
  rw [Dh]
  cases hq:Nat.beq s.nat 1
  ·simp only [cond_false]
   obtain ⟨h1,h2,h3,h4⟩:=ac5 hp n (dI p s s) (k+1) (ru hp _ _)
   have e:∀ j,(dI p s s).nat^2^j%p=s.nat^2^(j+1)%p:=λj=>by rw [zd hp,aqC]
   refine ⟨by omega,by omega,λh=> ?_,λj hj1 hj2=> ?_⟩
   ·have:=h3 (by omega)
    rw [e] at this
    rw [show kF p n (dI p s s) (k+1)-k=kF p n (dI p s s) (k+1)-(k+1)+1 by omega]
    exact this
   ·by_cases hj:j=k
    ·subst hj
     rw [Nat.sub_self,Nat.pow_zero,Nat.pow_one,Nat.mod_eq_of_lt hs]
     exact wD hq
    ·have:=h4 j (by omega) hj2
     rw [e] at this
     rw [show j-k=j-(k+1)+1 by omega]
     exact this
  ·simp only [cond_true]
   have h1:=Nat.eq_of_beq_eq_true hq
   refine ⟨Nat.le_refl _,by omega,λ_=> ?_,λj hj1 hj2=>by omega⟩
   rw [Nat.sub_self,Nat.pow_zero,Nat.pow_one,Nat.mod_eq_of_lt hs]
   exact h1
structure aHC (p a m:Nat) (w:Ton):Prop where
 x:w.1.nat<p
 t:w.2.1.nat<p
 z:w.2.2.nat<p
 sq:w.1.nat*w.1.nat%p=a*w.2.1.nat%p
 m1:1<=m
 neg:w.2.2.nat^2^(m-1)%p=p-1
theorem aB4 (hp:Sm p) (pr:Pr p) {a m k:Nat} {w:Ton} (h:aHC p a m w) (hk0:1<=k) (hk:k<m) (h1:w.2.1.nat^2^k%p=1) (h2:w.2.1.nat^2^(k-1)%p≠1):
 aHC p a k (tsW p m k w)/\(tsW p m k w).2.1.nat^2^(k-1)%p=1:=by
 have hb:=aDA hp h.z (m-k-1)
 have hz':(dI p (tsB p m k w) (tsB p m k w)).nat^2^(k-1)%p=p-1:=by
  rw [zd hp,aqC]
  show (sqN p w.2.2 (m-k-1)).nat^_%p=_
  rw [hb,gw,<-Nat.pow_mul,<-Nat.pow_add,show m-k-1+(k-1+1)=m-1 by omega]
  exact h.neg
 have ht:w.2.1.nat^2^(k-1)%p=p-1:=by
  have e:k=(k-1)+1:=by omega
  rw [e] at h1
  exact (XN pr h1).resolve_left h2
 obtain ⟨g1,g2⟩:=apc hp pr (u:=tsB p m k w) (z:=dI p (tsB p m k w) (tsB p m k w)) h.sq ht (by rw [zd hp,Nat.mod_mod]) hz'
 exact ⟨⟨ru hp _ _,ru hp _ _,ru hp _ _,g1,hk0,hz'⟩,g2⟩
theorem apa (hp:Sm p) (pr:Pr p) {a:Nat}:∀ (f m:Nat) (w:Ton),m<f->aHC p a m w->w.2.1.nat^2^(m-1)%p=1->∃ x,tsF p f m w=some x/\x.nat<p/\x.nat*x.nat%p=a%p
 |0,m,w,h,_,_=>absurd h (Nat.not_lt_zero _)
 |f+1,m,w,hf,h,hr=>by
  unfold tsF
  rw [Dh]
  cases hq:Nat.beq w.2.1.nat 1
  ·simp only [cond_false]
   obtain ⟨k1,k2,k3,k4⟩:=ac5 hp m w.2.1 0 h.t
   have m1:=h.m1
   have hk:kF p m w.2.1 0<m:=by
    apply Classical.byContradiction
    intro hn
    exact k4 (m-1) (by omega) (by omega) hr
   have hk0:1<=kF p m w.2.1 0:=by
    apply Classical.byContradiction
    intro hn
    have e:kF p m w.2.1 0=0:=by omega
    have:=k3 (by omega)
    rw [e,Nat.sub_self,Nat.pow_zero,Nat.pow_one,Nat.mod_eq_of_lt h.t] at this
    exact wD hq this
   have e1:=k3 (by omega)
   have e2:=k4 (kF p m w.2.1 0-1) (by omega) (by omega)
   rw [Nat.sub_zero] at e1 e2
   have hb:Nat.beq (kF p m w.2.1 0) m=false:=by
    cases hb:Nat.beq (kF p m w.2.1 0) m
    ·rfl
    ·have:=Nat.eq_of_beq_eq_true hb;omega
   rw [hb]
   obtain ⟨g1,g2⟩:=aB4 hp pr h hk0 hk e1 e2
   exact apa hp pr f _ _ (by omega) g1 g2
  ·simp only [cond_true]
   have h1:=Nat.eq_of_beq_eq_true hq
   have:=h.sq
   rw [h1,Nat.mul_one] at this
   exact ⟨w.1,rfl,h.x,this⟩
theorem aB6 (hp:Sm p) (pr:Pr p) (h3:3<=p) {a f m:Nat} {w:Ton} (h:aHC p a m w) (hr:w.2.1.nat^2^(m-1)%p=p-1):tsF p f m w=none:=by
 cases f with
 |zero=>rfl
 |succ f=>
  unfold tsF
  rw [Dh]
  have m1:=h.m1
  have up:∀ j,j<=m-1->w.2.1.nat^2^j%p≠1:=λj hj e=>by
   have:w.2.1.nat^2^(m-1)%p=1:=by
    rw [show m-1=j+(m-1-j) by omega,Nat.pow_add,Nat.pow_mul,Nat.pow_mod,e,Nat.one_pow,Nat.mod_eq_of_lt (by omega)]
   omega
  have hq:Nat.beq w.2.1.nat 1=false:=by
   cases hq:Nat.beq w.2.1.nat 1
   ·rfl
   ·have:=up 0 (by omega)
    rw [Nat.pow_zero,Nat.pow_one,Nat.mod_eq_of_lt h.t] at this
    exact absurd (Nat.eq_of_beq_eq_true hq) this
  rw [hq]
  obtain ⟨k1,k2,k3,k4⟩:=ac5 hp m w.2.1 0 h.t
  have e:kF p m w.2.1 0=m:=by
   apply Classical.byContradiction
   intro hn
   have:=k3 (by omega)
   rw [Nat.sub_zero] at this
   exact up _ (by omega) this
  rw [e,Nat.beq_refl]
  rfl
end
section
variable {s:Int} (k:akb s)
include k
def fa (s:Int) (a:ag):Ton:=(gG (pS s) a (dj (oE (GI s) eZ).1),gG (pS s) a (GI s),gG (pS s) ⟨5,0,0,0⟩ (GI s))
theorem akT (a:ag):aHC (pS s) a.nat (adS s) (fa s a):=by
 have hp:=k.sm
 have pr:=k.pr
 refine ⟨?_,?_,?_,?_,k.ad,?_⟩
 ·show (gG (pS s) a _).nat<_
  rw [j1 hp pr.1];exact Nat.mod_lt _ pr.pos
 ·show (gG (pS s) a _).nat<_
  rw [j1 hp pr.1];exact Nat.mod_lt _ pr.pos
 ·show (gG (pS s) _ _).nat<_
  rw [j1 hp pr.1];exact Nat.mod_lt _ pr.pos
 ·show (gG (pS s) a (dj (oE (GI s) eZ).1)).nat*(gG (pS s) a (dj (oE (GI s) eZ).1)).nat%pS s=a.nat*(gG (pS s) a (GI s)).nat%pS s
  rw [j1 hp pr.1,j1 hp pr.1,<-Nat.mul_mod,Nat.mul_mod_mod,<-Nat.pow_add,<-Nat.two_mul,k.up,Nat.pow_succ,Nat.mul_comm]
 ·show (gG (pS s) ⟨5,0,0,0⟩ (GI s)).nat^_%pS s=pS s-1
  rw [j1 hp pr.1,gw,ajl]
  exact ajk k
theorem aa1 (a:ag):(fa s a).2.1.nat^2^(adS s-1)%pS s=a.nat^((pS s-1)/2)%pS s:=by
 show (gG (pS s) a (GI s)).nat^_%pS s=_
 rw [j1 k.sm k.pr.1,gw,asm k]
theorem at3 {a:Nat} (ha:¬pS s∣a):a^((pS s-1)/2)%pS s=1\/a^((pS s-1)/2)%pS s=pS s-1:=by
 have hf:=atP k.pr ha
 have ho:=k.o2
 have h2:=k.pr.1
 have e:pS s-1=(pS s-1)/2+(pS s-1)/2:=by omega
 rw [e,Nat.pow_add,Nat.mul_mod] at hf
 exact aAX k.pr (Nat.mod_lt _ k.pr.pos) hf
theorem aB5 {a:ag} (ha:a.nat<pS s) (hz:dl a=false):(tsF (pS s) (adS s+1) (adS s) (fa s a)).map (l5 (pS s))=
 cond (eqE (gG (pS s) a (dj (ef (aS s.toNat).1 eZ).1)) eZ) (some (l5 (pS s) (vZ s a))) none:=by
 have hp:=k.sm
 have pr:=k.pr
 have h2:=pr.1
 have ho:=k.o2
 have h0:=akT k a
 have hpw:=aa1 k a
 rw [Dh,j1 hp h2,k.hf]
 have hn:¬pS s∣a.nat:=λhd=>by
  have:=Nat.eq_zero_of_dvd_of_lt hd ha
  rw [mW,this] at hz
  cases hz
 rcases at3 k hn with h|h
 ·rw [h]
  obtain ⟨x,e1,e2,e3⟩:=apa hp pr (adS s+1) (adS s) _ (by omega) h0 (by rw [hpw];exact h)
  rw [e1]
  obtain ⟨r1,r2⟩:=aqS k h
  obtain ⟨v1,v2,v3⟩:=adU hp ho e2
  obtain ⟨w1,w2,w3⟩:=adU hp ho r1
  show some _=some _
  rw [ph (at2 pr ho v1 w1 v2 w2 (by rw [v3,w3,e3,r2]))]
 ·have h3:3<=pS s:=by omega
  rw [aB6 hp pr h3 h0 (by rw [hpw];exact h),h]
  have:Nat.beq (pS s-1) 1=false:=by
   cases hb:Nat.beq (pS s-1) 1
   ·rfl
   ·have:=Nat.eq_of_beq_eq_true hb;omega
  rw [this]
  rfl
end
end Go.Proofs.YtohjofabochgfaaGreat

namespace Go.Proofs.YtohjofabochgfaaGreat
open Sx Go
theorem zero_eq {e:ag} (h:dl e=true):e=⟨0,0,0,0⟩:=ph (by rw [mW] at h;rw [Nat.eq_of_beq_eq_true h];exact al7.symm)
def sqA (s:Int) (x:ag):ag:=ofP (pS s) (Gf (pS s) x (bS s))
def sqB (s:Int) (x:ag):Bool:=eqE (gG (pS s) (sqA s x) (dj (ef (aS s.toNat).1 eZ).1)) eZ
def sqY (s:Int) (x:ag):ag:=l5 (pS s) (vZ s (sqA s x))
def ptD (s:Int) (x:ag) (odd:Bool):Pt:=(x,cond odd (Pq (pS s) (sqY s x)) (sqY s x),false)
theorem aHT {s:Int} (hs:au s=true) (x:ag):(sqA s x).nat<pS s/\((pS s:Nat):Int)∣((sqA s x).nat:Int)-((x.nat:Int)*x.nat*x.nat+(bS s).nat):=by
 have hp:Sm (pS s):=rn hs
 have e:(sqA s x).nat=(Gf (pS s) x (bS s)).nat%pS s:=df hp
 have hlt:(Gf (pS s) x (bS s)).nat<pS s:=aFC hp _ _
 rw [e,Nat.mod_eq_of_lt hlt]
 refine ⟨hlt,?_⟩
 have c2:=aA8 hp x x
 have c3:=aA8 hp (dI (pS s) x x) x
 have c4:=aHB hp (dI (pS s) (dI (pS s) x x) x) (bS s)
 unfold Gf
 generalize dI (pS s) (dI (pS s) x x) x=xxx at*
 generalize dI (pS s) x x=xx at*
 generalize vh (pS s) xxx (bS s)=z at*
 have:(z.nat:Int)-((x.nat:Int)*x.nat*x.nat+(bS s).nat)=((z.nat:Int)-(xxx.nat+(bS s).nat))+(((xxx.nat:Int)-xx.nat*x.nat)+(((xx.nat:Int)-x.nat*x.nat)*x.nat)):=by grind
 rw [this]
 exact Int.dvd_add c4 (Int.dvd_add c3 (Int.dvd_trans c2 (Int.dvd_mul_right ..)))
theorem aqD {s:Int} (hs:au s=true) (x:ag):dl (sqA s x)=false:=by
 have h:=(aHT hs x).2
 cases hz:dl (sqA s x)
 ·rfl
 ·exfalso
  rw [mW] at hz
  rw [Nat.eq_of_beq_eq_true hz] at h
  obtain ⟨k,hk⟩:=h
  exact (aBp hs).n2 (x.nat:Int) ⟨-k,by rw [Int.mul_neg,<-hk];simp⟩
theorem ax4 {s:Int} (hs:au s=true):sqB s ⟨0,0,0,0⟩=false:=by
 rcases ca hs with rfl|rfl|rfl|rfl<;>decide+kernel
theorem aHS {s:Int} (hs:au s=true) {x:ag} (h:sqB s x=true):(sqY s x).nat<pS s/\(sqY s x).nat%2=0/\(sqY s x).nat*(sqY s x).nat%pS s=(sqA s x).nat%pS s:=by
 have k:=VL hs
 unfold sqB at h
 rw [Dh,j1 k.sm k.pr.1,k.hf] at h
 obtain ⟨r1,r2⟩:=aqS k (Nat.eq_of_beq_eq_true h)
 obtain ⟨e1,e2,e3⟩:=adU k.sm k.o2 r1
 exact ⟨e1,e2,e3.trans r2⟩
section
variable {s:Int} (hs:au s=true)
include hs
end
end Go.Proofs.YtohjofabochgfaaGreat
