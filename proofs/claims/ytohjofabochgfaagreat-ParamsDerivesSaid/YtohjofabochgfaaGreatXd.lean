/- A symbolic machine for Go code over plain data, and functions of the program as it shows them. No statement is proved in this file. -/
import Derived.KernelRfl
import Derived.Test.YtohjofabochgfaaGreatXc
set_option linter.unusedSimpArgs false
set_option linter.unusedVariables false
set_option linter.unusedSectionVars false

namespace Go.Proofs.YtohjofabochgfaaGreat
open Sx Go
set_option maxRecDepth 100000
def kt:aw:=⟨[.val true (.prod .elem (.prod .int (.prod .u64 (.prod .u64 .elem)))),.val true .elem,.val true .elem],[],true,0,false⟩
abbrev Ry:Type:=(((aa×(Int×(UInt64×(UInt64×aa)))))×(aa)×(aa)×Unit)×(Unit)
def B4:Shape:=⟨61,[(3,.ptr 0 0 0),(4,.ptr 1 0 0),(6,.ptr 2 0 0),(7,.ptr 3 0 0),(13,.val true .elem),(14,.val false .int)],[(0,.cells [.val false .u64,.val false .u64,.val false .u64,.val false .u64,.val false .int,.val false .u64,.val false .u64,.val false .u64,.val false .u64,.val false .u64,.val false .u64]),(1,.row .u64),(2,.row .u64),(3,.row .u64)],0,true⟩
abbrev cH:Type:=((Unit)×(Unit)×(Unit)×(Unit)×(aa)×(Int)×Unit)×(((UInt64)×(UInt64)×(UInt64)×(UInt64)×(Int)×(UInt64)×(UInt64)×(UInt64)×(UInt64)×(UInt64)×(UInt64)×Unit)×(List (UInt64))×(List (UInt64))×(List (UInt64))×Unit)
def ww:Shape:=⟨61,[(3,.ptr 0 0 0),(6,.ptr 1 0 0),(7,.ptr 2 0 0)],[(0,.cells [.val false .u64,.val false .u64,.val false .u64,.val false .u64,.val false .int,.val false .u64,.val false .u64,.val false .u64,.val false .u64,.val false .u64,.val false .u64]),(1,.row .u64),(2,.row .u64)],0,true⟩
abbrev mq:Type:=((Unit)×(Unit)×(Unit)×Unit)×(((UInt64)×(UInt64)×(UInt64)×(UInt64)×(Int)×(UInt64)×(UInt64)×(UInt64)×(UInt64)×(UInt64)×(UInt64)×Unit)×(List (UInt64))×(List (UInt64))×Unit)
def akX:SE->Option Shape:=fp [(0,ww)] none
def Vb (a13:aa) (a14:Int) (c0_0:UInt64) (c0_1:UInt64) (c0_2:UInt64) (c0_3:UInt64) (c0_4:Int) (c0_5:UInt64) (c0_6:UInt64) (c0_7:UInt64) (c0_8:UInt64) (c0_9:UInt64) (c0_10:UInt64) (c1:List (UInt64)) (c2:List (UInt64)) (c3:List (UInt64)):OT (Sum cH aE):=
 let z0:Nat:=List.length c3
 let z1:List UInt64:=lay c3 (l6 (v6 (tab c3 6 (0:UInt64))+aa.nat {w0:=List.getD c1 0 0,w1:=List.getD c1 1 0,w2:=List.getD c1 2 0,w3:=List.getD c1 3 0}*UInt64.toNat (List.getD [a13.w0,a13.w1,a13.w2,a13.w3] (Int.toNat a14) (0:UInt64)))) 6 (0:UInt64)
 let z2:Nat:=List.length z1
 let z3:List UInt64:=lay z1 (l6 (v6 (tab z1 6 (0:UInt64))+aa.nat {w0:=c0_0,w1:=c0_1,w2:=c0_2,w3:=c0_3}*UInt64.toNat (List.getD z1 0 0*c0_6))) 6 (0:UInt64)
 let z4:Nat:=List.length z3
 (.br (decide (a14<(4:Int)))
 (gd [inB a14 4,decide (6<=z0),decide (4<=List.length c1),decide ((6/1:Nat)+0<=z0),decide (6<=z2),decide (0<z2),decide ((6/1:Nat)+0<=z2),decide (1<z4),decide (2<z4),decide (3<z4),decide (4<z4),decide (5<z4),decide ((6/1:Nat)+0<=z4),inR (a14+(1:Int))] (.ok (.inl (((),((),((),((),(a13,(a14+(1:Int),())))))),((c0_0,(c0_1,(c0_2,(c0_3,(c0_4,(c0_5,(c0_6,(c0_7,(c0_8,(c0_9,(c0_10,()))))))))))),(c1,(c2,(List.set (List.set (List.set (List.set (List.set (List.set z3 0 (List.getD z3 1 0)) 1 (List.getD z3 2 0)) 2 (List.getD z3 3 0)) 3 (List.getD z3 4 0)) 4 (List.getD z3 5 0)) 5 (0:UInt64),()))))))))
 (.ok (.inr ⟨(.exit 0,ww),(((),((),((),()))),((c0_0,(c0_1,(c0_2,(c0_3,(c0_4,(c0_5,(c0_6,(c0_7,(c0_8,(c0_9,(c0_10,()))))))))))),(c2,(c3,()))))⟩)))
def B5 (s:cH):OT (Sum cH aE):=Vb (s.1.2.2.2.2.1) (s.1.2.2.2.2.2.1) (s.2.1.1) (s.2.1.2.1) (s.2.1.2.2.1) (s.2.1.2.2.2.1) (s.2.1.2.2.2.2.1) (s.2.1.2.2.2.2.2.1) (s.2.1.2.2.2.2.2.2.1) (s.2.1.2.2.2.2.2.2.2.1) (s.2.1.2.2.2.2.2.2.2.2.1) (s.2.1.2.2.2.2.2.2.2.2.2.1) (s.2.1.2.2.2.2.2.2.2.2.2.2.1) (s.2.2.1) (s.2.2.2.1) (s.2.2.2.2.1)
theorem aB9 (s:cH) (Q:Sum cH aE->Prop):wps te SN av 1000 (aV (aj Tryz.f118) 0) (B4.inj s) (bV B4 akX (Q:Sum B4.T aE->Prop))=(B5 s).wpR Q:=by kernel_rfl
def I3 (g0_0:cH->mq) (s:cH):OT aE:=(.ok ⟨(.exit 0,ww),g0_0 s⟩)
def wv:az:=⟨[.val true .elem],[],false⟩
def ZR:SV->Option az:=λ_=>some wv
def afb (ok0:cH->Bool) (g0_0:cH->mq) (a0:(aa×(Int×(UInt64×(UInt64×aa))))) (a1:aa) (a2:aa):OT kt.Y:=
 let z0:(PUnit×PUnit×PUnit×PUnit×aa×Int×PUnit)×(UInt64×UInt64×UInt64×UInt64×Int×UInt64×UInt64×UInt64×UInt64×UInt64×UInt64×PUnit)×List UInt64×List UInt64×List UInt64×PUnit:=(((),(),(),(),a2,(0:Int),()),(a0.fst.w0,a0.fst.w1,a0.fst.w2,a0.fst.w3,a0.snd.fst,a0.snd.snd.fst,a0.snd.snd.snd.fst,a0.snd.snd.snd.snd.w0,a0.snd.snd.snd.snd.w1,a0.snd.snd.snd.snd.w2,a0.snd.snd.snd.snd.w3,()),[a1.w0,a1.w1,a1.w2,a1.w3],[(0:UInt64),(0:UInt64),(0:UInt64),(0:UInt64)],[(0:UInt64),(0:UInt64),(0:UInt64),(0:UInt64),(0:UInt64),(0:UInt64)],())
 let z1:=(g0_0 z0).snd
 let z2:=z1.snd
 let z3:=z2.snd.fst
 let z4:Nat:=List.length z3
 let z5:=z2.fst
 let z6:Nat:=List.length z5
 let z7:Bool:=decide ((4/1:Nat)+0<=z6)
 let z8:=z1.fst
 let z9:=z8.snd
 let z10:=z9.snd
 let z11:aa×Bool:=ef {w0:=List.getD z3 0 0,w1:=List.getD z3 1 0,w2:=List.getD z3 2 0,w3:=List.getD z3 3 0} {w0:=z8.fst,w1:=z9.fst,w2:=z10.fst,w3:=z10.snd.fst}
 let z12:=z11.fst
 let z13:List UInt64:=List.set (List.set (List.set (List.set z5 0 z12.w0) 1 z12.w1) 2 z12.w2) 3 z12.w3
 let z14:Bool:=decide (4<=List.length z13)
 let z15:aa:= {w0:=List.getD z13 0 0,w1:=List.getD z13 1 0,w2:=List.getD z13 2 0,w3:=List.getD z13 3 0}
 let z16:List UInt64:=lay z5 z3 4 (0:UInt64)
 (gd [ok0 z0,decide (6<=z4)&&true,decide (4<=z4),decide (4<z4)] (.br (!List.getD z3 4 0==(0:UInt64))
 (gd [z7,z14] (.ok ⟨wv,((z15,()),())⟩))
 (.br (!z11.snd)
  (gd [z7,z14] (.ok ⟨wv,((z15,()),())⟩))
  (gd [decide ((4/1:Nat)+0<=z6),decide (4<=List.length z16)] (.ok ⟨wv,(({w0:=List.getD z16 0 0,w1:=List.getD z16 1 0,w2:=List.getD z16 2 0,w3:=List.getD z16 3 0},()),())⟩)))))
theorem aHq (ok0:cH->Bool) (g0_0:cH->mq) (x:Ry) (Q:kt.Y->Prop):wpf te SN (aO 0 (cb B4 0 ok0 (I3 g0_0)) av) 1000 Tryz.f118 (kt.inp.inj x).tm (kt.inp.inj x).hp (fnK kt ZR Q) (λ_ _=>False)=(afb ok0 g0_0 (x.1.1) (x.1.2.1) (x.1.2.2.1)).wpR Q:=by kernel_rfl
theorem aoL (ok0:cH->Bool) (g0_0:cH->mq) (h0:∀ s:cH,ok0 s=true->∃ m e,al (B5) m s=some e/\(I3 g0_0 s).run=some e) (pre:Ry->Bool) (F:Ry->OT kt.Y) (hF:∀ (x:Ry) oy,pre x=true->(F x).run=some oy->(afb ok0 g0_0 (x.1.1) (x.1.2.1) (x.1.2.2.1)).run=some oy):ac Tryz.prog 118 (kt.aH pre F):=
 aD aq Ds SM (f:=118) (fn:=Tryz.f118) (c:=aj Tryz.f118) (by kernel_rfl) (by kernel_rfl) (by kernel_rfl) (S:=kt) (k:=0) (by kernel_rfl) (λR hR=>(aB (c:=(aj Tryz.f118)) (by kernel_rfl) (id:=0) (by kernel_rfl) (aS aq Ds SM (sh:=B4) hR (xs:=akX) (aC (by kernel_rfl) (by kernel_rfl) hR) aK af (n:=1000) (T:=B5) (λs Q=>aB9 s Q) (ok:=ok0) (f:=I3 g0_0) h0) af)) (n:=1000) (sel:=ZR) (λv o h=>by cases h;rfl) (pre:=pre) (F:=F) (T:=λx=>afb ok0 g0_0 (x.1.1) (x.1.2.1) (x.1.2.2.1)) (λx Q=>aHq ok0 g0_0 x Q) hF
def kq (n:PD):Bool:=decide (n=aY 2)||decide (n=aY 3)
theorem iW {n:PD} (h:kq n=true):n=aY 2\/n=aY 3:=by
 simpa [kq] using h
def aAE (n:PD):Nat:=if n.2.2.2.1==11037532056220336127 then 15353493766103302224812374511606760489073247795810767472367693728416386214313 else 14238205147845459960272226733876560297615832660064601289232577236146637664127
theorem avJ {n:PD} (h:kq n=true):(n.1.nat*n.2.2.2.1.toNat+1)%18446744073709551616=0:=by
 rcases iW h with rfl|rfl<;>decide+kernel
theorem avK {n:PD} (h:kq n=true):115792089237316195423570985008687907853269984665640564039457584007913129639936*aAE n%n.1.nat=1%n.1.nat:=by
 rcases iW h with rfl|rfl<;>decide+kernel
theorem avH {n:PD} (h:kq n=true):2*n.1.nat<=115792089237316195423570985008687907853269984665640564039457584007913129639936:=by
 rcases iW h with rfl|rfl<;>decide+kernel
theorem aLn (n:Nat):tab (l6 n) 6 0=l6 n:=rfl
theorem aBT {n:Nat} (h:n/18446744073709551616/18446744073709551616/18446744073709551616/18446744073709551616/18446744073709551616/18446744073709551616=0):
 [UInt64.ofNat (n/18446744073709551616),UInt64.ofNat (n/18446744073709551616/18446744073709551616),UInt64.ofNat (n/18446744073709551616/18446744073709551616/18446744073709551616),
  UInt64.ofNat (n/18446744073709551616/18446744073709551616/18446744073709551616/18446744073709551616),UInt64.ofNat (n/18446744073709551616/18446744073709551616/18446744073709551616/18446744073709551616/18446744073709551616),0]=l6 (n/18446744073709551616):=by
 unfold l6
 rw [h]
 rfl
theorem aLt (a b:Nat):lay (l6 a) (l6 b) 6 0=l6 b:=xO rfl rfl
theorem ayf (U:Nat) (neg:UInt64):(List.getD (l6 U) 0 0*neg).toNat=U*neg.toNat%18446744073709551616:=by
 show (UInt64.ofNat U*neg).toNat=_
 rw [UInt64.toNat_mul,UInt64.toNat_ofNat',Nat.mul_mod,Nat.mod_mod,<-Nat.mul_mod]
theorem aoK (b:aa) (k:Nat) (hk:k<4) (x0 x1 x2 x3 x5 x6 x7 x8 x9 x10:UInt64) (x4:Int) (c1 c2:List UInt64) (T:Nat) (h1:c1.length=4) (hT:T<2*(aa.mk x0 x1 x2 x3).nat)
 (hn:((aa.mk x0 x1 x2 x3).nat*x6.toNat+1)%18446744073709551616=0) (hp:2*(aa.mk x0 x1 x2 x3).nat<=115792089237316195423570985008687907853269984665640564039457584007913129639936) (ha:(elemOf c1).nat<(aa.mk x0 x1 x2 x3).nat):
 (Vb b (k:Int) x0 x1 x2 x3 x4 x5 x6 x7 x8 x9 x10 c1 c2 (l6 T)).run=some (.inl (((),(),(),(),b,((k+1:Nat):Int),()),((x0,x1,x2,x3,x4,x5,x6,x7,x8,x9,x10,()),c1,c2,l6 (JM (aa.mk x0 x1 x2 x3).nat x6.toNat (elemOf c1).nat ((lst b).getD k 0).toNat T),()))):=by
 have hlt:=vp (b:=((lst b).getD k 0).toNat) hn hT ha (UInt64.toNat_lt _)
 have heq:=vq (a:=(elemOf c1).nat) (b:=((lst b).getD k 0).toNat) (t:=T) hn
 have hrd:JM (aa.mk x0 x1 x2 x3).nat x6.toNat (elemOf c1).nat ((lst b).getD k 0).toNat T=(T+(elemOf c1).nat*((lst b).getD k 0).toNat+(aa.mk x0 x1 x2 x3).nat*((T+(elemOf c1).nat*((lst b).getD k 0).toNat)*x6.toNat%18446744073709551616))/18446744073709551616:=rfl
 generalize hU:T+(elemOf c1).nat*((lst b).getD k 0).toNat=U at heq hrd
 generalize hV:U+(aa.mk x0 x1 x2 x3).nat*(U*x6.toNat%18446744073709551616)=V at heq hrd
 generalize JM (aa.mk x0 x1 x2 x3).nat x6.toNat (elemOf c1).nat ((lst b).getD k 0).toNat T=S at*
 have hVU:U<=V:=by rw [<-hV];exact Nat.le_add_right _ _
 have hz1:lay (l6 T) (l6 (v6 (tab (l6 T) 6 0)+aa.nat {w0:=List.getD c1 0 0,w1:=List.getD c1 1 0,w2:=List.getD c1 2 0,w3:=List.getD c1 3 0}*UInt64.toNat (List.getD [b.w0,b.w1,b.w2,b.w3] (Int.toNat (k:Int)) 0))) 6 0=l6 U:=by
  rw [aLn,aIV (by omega),aLt,Int.toNat_natCast]
  exact congrArg l6 hU
 have hz3:lay (l6 U) (l6 (v6 (tab (l6 U) 6 0)+aa.nat {w0:=x0,w1:=x1,w2:=x2,w3:=x3}*UInt64.toNat (List.getD (l6 U) 0 0*x6))) 6 0=l6 V:=by
  rw [aLn,aIV (by omega),aLt,ayf,hV]
 have hsh:_=l6 (V/18446744073709551616):=aBT (n:=V) (by omega)
 unfold Vb
 simp only [hz1,hz3]
 refine (OT.ap (decide_eq_true (by omega))).trans ((ah ?_).trans ?_)
 ·simp only [avs,h1,List.all_cons,List.all_nil,Bool.and_true,Bool.and_eq_true]
  exact ⟨aN (by omega),rfl,rfl,rfl,rfl,rfl,rfl,rfl,rfl,rfl,rfl,rfl,rfl,aI (by omega)⟩
 ·rw [hrd]
  exact congrArg (λl=>some (Sum.inl (((),(),(),(),b,((k+1:Nat):Int),()),((x0,x1,x2,x3,x4,x5,x6,x7,x8,x9,x10,()),c1,c2,l,())))) hsh
def axa (s:cH):aa:=⟨s.2.1.1,s.2.1.2.1,s.2.1.2.2.1,s.2.1.2.2.2.1⟩
def aIf (s:cH):UInt64:=s.2.1.2.2.2.2.2.2.1
def ZS (s:cH):Bool:=decide (s.1.2.2.2.2.2.1=0/\s.2.2.1.length=4/\s.2.2.2.2.1=l6 0/\((axa s).nat*(aIf s).toNat+1)%18446744073709551616=0/\2*(axa s).nat<=115792089237316195423570985008687907853269984665640564039457584007913129639936/\(elemOf s.2.2.1).nat<(axa s).nat)
def Va (s:cH):mq:=(((),(),(),()),(s.2.1,s.2.2.2.1,l6 (aJG (axa s).nat (aIf s).toNat (elemOf s.2.2.1).nat s.1.2.2.2.2.1),()))
theorem aCb:∀ s:cH,ZS s=true->∃ m e,al B5 m s=some e/\(I3 Va s).run=some e:=by
 rintro ⟨⟨⟨⟩,⟨⟩,⟨⟩,⟨⟩,b,i,⟨⟩⟩,⟨⟨x0,x1,x2,x3,x4,x5,x6,x7,x8,x9,x10,⟨⟩⟩,c1,c2,c3,⟨⟩⟩⟩ h
 have h':=of_decide_eq_true h
 dsimp only [axa,aIf] at h'
 obtain ⟨rfl,h1,rfl,hn,hp,ha⟩:=h'
 have:=(aP (T:=B5) (λk T=>((((),(),(),(),b,(k:Int),()),((x0,x1,x2,x3,x4,x5,x6,x7,x8,x9,x10,()),c1,c2,l6 T,())):cH)) (λk T=>JM (aa.mk x0 x1 x2 x3).nat x6.toNat (elemOf c1).nat ((lst b).getD k 0).toNat T)
  (λT=>(⟨(.exit 0,ww),(((),(),(),()),((x0,x1,x2,x3,x4,x5,x6,x7,x8,x9,x10,()),c2,l6 T,()))⟩:aE)) 4 0 (λ_ T=>T<2*(aa.mk x0 x1 x2 x3).nat) (by omega) (λk T hk hT=>⟨?_,?_⟩) (λT hT=> ?_)).1
 ·obtain ⟨m,hm⟩:=this
  exact ⟨m,_,hm,rfl⟩
 ·exact aoK b k hk x0 x1 x2 x3 x5 x6 x7 x8 x9 x10 x4 c1 c2 T h1 hT hn hp ha
 ·exact vp hn hT ha (UInt64.toNat_lt _)
 ·exact OT.ar (decide_eq_false (by dsimp only;omega))
def tP (x:Ry):Bool:=kq x.1.1&&Nat.blt x.1.2.1.nat x.1.1.1.nat
def avR (x:Ry):OT kt.Y:=.ok ⟨wv,((ofN (x.1.2.1.nat*x.1.2.2.1.nat*aAE x.1.1%x.1.1.1.nat),()),())⟩
theorem aCa:ac Tryz.prog 118 (kt.aH tP avR):=aoL ZS Va aCb _ _ λx oy hp ho=>by
 rw [<-ho]
 clear ho
 obtain ⟨⟨⟨⟨m0,m1,m2,m3⟩,ad,sm,neg,sq⟩,a,b,⟨⟩⟩,⟨⟩⟩:=x
 have hp':(kq (⟨m0,m1,m2,m3⟩,ad,sm,neg,sq)&&Nat.blt a.nat (aa.mk m0 m1 m2 m3).nat)=true:=hp
 rw [Bool.and_eq_true] at hp'
 obtain ⟨hg,ha⟩:=hp'
 have ha:=ed ha
 have hn:((aa.mk m0 m1 m2 m3).nat*neg.toNat+1)%18446744073709551616=0:=avJ hg
 have h2:2*(aa.mk m0 m1 m2 m3).nat<=115792089237316195423570985008687907853269984665640564039457584007913129639936:=avH hg
 have hr:115792089237316195423570985008687907853269984665640564039457584007913129639936*aAE (⟨m0,m1,m2,m3⟩,ad,sm,neg,sq)%(aa.mk m0 m1 m2 m3).nat=1%(aa.mk m0 m1 m2 m3).nat:=avK hg
 have hM:=aBM (a:=a.nat) (b:=b) hn hr
 have hL:=aHd (b:=b) hn ha
 refine (ah ?_).trans ?_
 ·simp only [List.all_cons,List.all_nil,Bool.and_true,Bool.and_eq_true]
  exact ⟨decide_eq_true ⟨rfl,rfl,rfl,hn,h2,ha⟩,rfl,rfl,rfl⟩
 ·show _=(OT.ok ⟨wv,((ofN (a.nat*b.nat*aAE (⟨m0,m1,m2,m3⟩,ad,sm,neg,sq)%(aa.mk m0 m1 m2 m3).nat),()),())⟩:OT kt.Y).run
  rw [<-hM,aHe hL]
  have e0:Va (((),(),(),(),b,0,()),((m0,m1,m2,m3,ad,sm,neg,sq.w0,sq.w1,sq.w2,sq.w3,()),[a.w0,a.w1,a.w2,a.w3],[0,0,0,0],[0,0,0,0,0,0],()))=(((),(),(),()),((m0,m1,m2,m3,ad,sm,neg,sq.w0,sq.w1,sq.w2,sq.w3,()),[0,0,0,0],l6 (aJG (aa.mk m0 m1 m2 m3).nat neg.toNat a.nat b),())):=rfl
  dsimp only
  rw [e0]
  clear e0 hM
  generalize aJG (aa.mk m0 m1 m2 m3).nat neg.toNat a.nat b=M at*
  have e4:List.getD (l6 M) 4 0=0:=by
   show UInt64.ofNat (M/18446744073709551616/18446744073709551616/18446744073709551616/18446744073709551616)=0
   rw [show M/18446744073709551616/18446744073709551616/18446744073709551616/18446744073709551616=0 by omega]
   rfl
  refine (OT.ar (by rw [e4];rfl)).trans ?_
  have eN:(ofN M).nat=M:=ko (by omega)
  by_cases hlt:M<(aa.mk m0 m1 m2 m3).nat
  ·rw [if_pos hlt]
   refine (OT.ar ?_).trans ((ah rfl).trans rfl)
   show (!Nat.blt (ofN M).nat (aa.mk m0 m1 m2 m3).nat)=false
   rw [eN,show Nat.blt M (aa.mk m0 m1 m2 m3).nat=true from Nat.ble_eq_true_of_le hlt]
   rfl
  ·rw [if_neg hlt]
   refine (OT.ap ?_).trans ((ah rfl).trans ?_)
   ·show (!Nat.blt (ofN M).nat (aa.mk m0 m1 m2 m3).nat)=true
    rw [eN]
    cases hb:Nat.blt M (aa.mk m0 m1 m2 m3).nat
    ·rfl
    ·exact absurd (ed hb) hlt
   ·have ew:(ef (ofN M) (aa.mk m0 m1 m2 m3)).1=ofN (M-(aa.mk m0 m1 m2 m3).nat):=by
     apply qW
     rw [mU (by omega),eN,ko (by omega)]
    rw [<-ew]
    rfl
def Fu:cf:=(kt.aH tP avR)
theorem afa:ac Tryz.prog 118 Fu:=aCa
theorem ae9:aF Fu:=aA
def Ob:Env:=ay 118 Fu SN
theorem Gv:aQ Tryz.prog Ob:=ag afa Ds
theorem HV:ax Ob:=ae ae9 Oy
theorem agM:aU Tryz.prog te Ob:=aJ follows aq Gv HV
def ku:aw:=⟨[.val true (.prod .elem (.prod .int (.prod .u64 (.prod .u64 .elem)))),.val true .elem,.val true .elem],[],true,0,false⟩
abbrev RD:Type:=(((aa×(Int×(UInt64×(UInt64×aa)))))×(aa)×(aa)×Unit)×(Unit)
def rl:az:=⟨[.val true .elem],[],false⟩
def Z8:SV->Option az:=λ_=>some rl
def zo (a0:(aa×(Int×(UInt64×(UInt64×aa))))) (a1:aa) (a2:aa):OT ku.Y:=
 let z0:Bool:= !a0.snd.snd.fst==(0:UInt64)
 let z1:Nat:=aa.nat a0.fst
 let z2:aa:=ofN (aa.nat a1%z1)
 let z3:aa:=ofN (aa.nat a2%z1)
 let z4:Nat:=aAE a0
 let z5:aa:=ofN (aa.nat z2*aa.nat z3*z4%z1)
 (gd [gr ((a0,a1,()),()),gr ((a0,a2,()),())] (.br (z0)
 (gd [z0] (.ok ⟨rl,(({w0:=z2.w0*z3.w0%a0.snd.snd.fst,w1:=0,w2:=0,w3:=0},()),())⟩))
 (gd [tP ((a0,z2,z3,()),()),tP ((a0,z5,a0.snd.snd.snd.snd,()),())] (.ok ⟨rl,((ofN (aa.nat z5*aa.nat a0.snd.snd.snd.snd*z4%z1),()),())⟩))))
theorem aHF (x:RD) (Q:ku.Y->Prop):wpf te Ob av 1000 Tryz.f77 (ku.inp.inj x).tm (ku.inp.inj x).hp (fnK ku Z8 Q) (λ_ _=>False)=(zo (x.1.1) (x.1.2.1) (x.1.2.2.1)).wpR Q:=by kernel_rfl
theorem ao1 (pre:RD->Bool) (F:RD->OT ku.Y) (hF:∀ (x:RD) oy,pre x=true->(F x).run=some oy->(zo (x.1.1) (x.1.2.1) (x.1.2.2.1)).run=some oy):ac Tryz.prog 77 (ku.aH pre F):=
 aD aq Gv agM (f:=77) (fn:=Tryz.f77) (c:=aj Tryz.f77) (by kernel_rfl) (by kernel_rfl) (by kernel_rfl) (S:=ku) (k:=0) (by kernel_rfl) (λR hR=>af) (n:=1000) (sel:=Z8) (λv o h=>by cases h;rfl) (pre:=pre) (F:=F) (T:=λx=>zo (x.1.1) (x.1.2.1) (x.1.2.2.1)) (λx Q=>aHF x Q) hF
theorem ave {p A B r s:Nat} (h:r*s*r%p=1%p):A*B*r%p*s*r%p=A*B%p:=by
 have e:A*B*r*(s*r)=A*B*(r*s*r):=by
  rw [Nat.mul_assoc (A*B) r (s*r),Nat.mul_assoc r s r]
 rw [Nat.mul_assoc,Nat.mul_mod,Nat.mod_mod,<-Nat.mul_mod,e,Nat.mul_mod,h,<-Nat.mul_mod,Nat.mul_one]
theorem aBX {n:PD} (h:kq n=true):aAE n*n.2.2.2.2.nat*aAE n%n.1.nat=1%n.1.nat:=by
 rcases iW h with rfl|rfl<;>decide+kernel
theorem aJR:kq (aY 2)=true:=by decide+kernel
theorem aJQ:kq (aY 3)=true:=by decide+kernel
theorem avI {n:PD} (h:kq n=true):kn n=true:=by
 rcases iW h with rfl|rfl<;>decide+kernel
theorem Hc {n:PD} {a b:aa} {m:UInt64} (hn0:kn n=true) (h1:n.1=⟨m,0,0,0⟩) (h2:n.2.2.1=m) (hs:fQ m=true):(zo n a b).run=some ⟨rl,((bB n.1.nat a b,()),())⟩:=by
 have hm:=lC hs
 have hb':m.toNat<=16521217:=by rcases dY hs with rfl|rfl<;>decide
 have hn:n.1.nat=m.toNat:=by rw [h1];show m.toNat+_*(0+_*(0+_*0))=_;omega
 have hz:(!(n.2.2.1==0))=true:=by
  rw [h2]
  rcases dY hs with rfl|rfl<;>rfl
 have ha:=Nat.mod_lt a.nat hm
 have hb:=Nat.mod_lt b.nat hm
 have hab:a.nat%m.toNat*(b.nat%m.toNat)<18446744073709551616:=by
  have:a.nat%m.toNat*(b.nat%m.toNat)<=16521217*16521217:=Nat.mul_le_mul (by omega) (by omega)
  omega
 have e:UInt64.ofNat (a.nat%m.toNat)*UInt64.ofNat (b.nat%m.toNat)%m=UInt64.ofNat (a.nat*b.nat%m.toNat):=by
  have hlt:=Nat.mod_lt (a.nat*b.nat) hm
  rw [<-UInt64.toNat_inj,UInt64.toNat_mod,UInt64.toNat_mul,UInt64.toNat_ofNat',UInt64.toNat_ofNat',UInt64.toNat_ofNat',Nat.mod_eq_of_lt (a:=a.nat%m.toNat) (by omega),Nat.mod_eq_of_lt (a:=b.nat%m.toNat) (by omega),
   Nat.mod_eq_of_lt (a:=a.nat%m.toNat*(b.nat%m.toNat)) (by omega),Nat.mod_eq_of_lt (a:=a.nat*b.nat%m.toNat) (by omega),<-Nat.mul_mod]
 have hlt:=Nat.mod_lt (a.nat*b.nat) hm
 unfold zo
 refine (ah ?_).trans ((OT.ap hz).trans ((ah ?_).trans ?_))
 ·simp only [List.all_cons,List.all_nil,Bool.and_true,Bool.and_eq_true]
  exact ⟨hn0,hn0⟩
 ·simp only [hz,List.all_cons,List.all_nil,Bool.and_true]
 ·unfold bB
  rw [hn,tu (n:=a.nat*b.nat%m.toNat) (by omega),<-e]
  show some (⟨rl,((⟨UInt64.ofNat (a.nat%m.toNat)*UInt64.ofNat (b.nat%m.toNat)%n.2.2.1,0,0,0⟩,()),())⟩:ku.Y)=_
  rw [h2]
theorem Mh {n:PD} {a b:aa} (h:kq n=true) (h2:n.2.2.1=0):(zo n a b).run=some ⟨rl,((bB n.1.nat a b,()),())⟩:=by
 have hn0:=avI h
 have hp:=BH hn0
 have hz:(!(n.2.2.1==0))=false:=by rw [h2];rfl
 have e1:(ofN (a.nat%n.1.nat)).nat=a.nat%n.1.nat:=dm hp
 have e2:(ofN (b.nat%n.1.nat)).nat=b.nat%n.1.nat:=dm hp
 have e3:(ofN (a.nat%n.1.nat*(b.nat%n.1.nat)*aAE n%n.1.nat)).nat=a.nat%n.1.nat*(b.nat%n.1.nat)*aAE n%n.1.nat:=dm hp
 unfold zo
 refine (ah ?_).trans ((OT.ar hz).trans ((ah ?_).trans ?_))
 ·simp only [List.all_cons,List.all_nil,Bool.and_true,Bool.and_eq_true]
  exact ⟨hn0,hn0⟩
 ·simp only [List.all_cons,List.all_nil,Bool.and_true,Bool.and_eq_true,tP,h,true_and,e1,e2,e3]
  exact ⟨Nat.ble_eq_true_of_le (Nat.mod_lt _ hp.1),Nat.ble_eq_true_of_le (Nat.mod_lt _ hp.1)⟩
 ·simp only [e1,e2,e3,ave (aBX h),bB,<-Nat.mul_mod]
  rfl
def fT (x:RD):Bool:=kn x.1.1
def av5 (x:RD):OT ku.Y:=.ok ⟨rl,((bB x.1.1.1.nat x.1.2.1 x.1.2.2.1,()),())⟩
theorem aCf:ac Tryz.prog 77 (ku.aH fT av5):=ao1 _ _ λx oy hp ho=>by
 rw [<-ho]
 clear ho
 obtain ⟨⟨n,a,b,⟨⟩⟩,⟨⟩⟩:=x
 have hp':kn n=true:=hp
 rcases y4 hp' with rfl|rfl|rfl|rfl
 ·exact Hc hp' (m:=16513537) rfl rfl rfl
 ·exact Hc hp' (m:=16521217) rfl rfl rfl
 ·exact Mh aJR rfl
 ·exact Mh aJQ rfl
def Fw:cf:=(ku.aH fT av5)
theorem afh:ac Tryz.prog 77 Fw:=aCf
theorem afg:aF Fw:=aA
def Oj:Env:=ay 77 Fw Ob
theorem Gx:aQ Tryz.prog Oj:=ag afh Gv
theorem HX:ax Oj:=ae afg HV
theorem agO:aU Tryz.prog te Oj:=aJ follows aq Gx HX
def tU:aw:=⟨[.val false .int,.val true .elem,.val true .elem],[],true,0,false⟩
abbrev ao0:Type:=((Int)×(aa)×(aa)×Unit)×(Unit)
def Mg:az:=⟨[.val true .elem],[],false⟩
def ak4:SV->Option az:=λ_=>some Mg
def av4 (a0:Int) (a1:aa) (a2:aa):OT tU.Y:=
 let z0:aa×Int×UInt64×UInt64×aa:=aY (Int.toNat a0)
 (.br (ao a0)
 (gd [fT ((z0,a1,a2,()),())] (.ok ⟨Mg,((bB (aa.nat z0.fst) a1 a2,()),())⟩))
 (.ok ⟨Mg,(({w0:=0,w1:=0,w2:=0,w3:=0},()),())⟩))
theorem aJZ (x:ao0) (Q:tU.Y->Prop):wpf te Oj av 1000 Tryz.f42 (tU.inp.inj x).tm (tU.inp.inj x).hp (fnK tU ak4 Q) (λ_ _=>False)=(av4 (x.1.1) (x.1.2.1) (x.1.2.2.1)).wpR Q:=by kernel_rfl
theorem av3 (pre:ao0->Bool) (F:ao0->OT tU.Y) (hF:∀ (x:ao0) oy,pre x=true->(F x).run=some oy->(av4 (x.1.1) (x.1.2.1) (x.1.2.2.1)).run=some oy):ac Tryz.prog 42 (tU.aH pre F):=
 aD aq Gx agO (f:=42) (fn:=Tryz.f42) (c:=aj Tryz.f42) (by kernel_rfl) (by kernel_rfl) (by kernel_rfl) (S:=tU) (k:=0) (by kernel_rfl) (λR hR=>af) (n:=1000) (sel:=ak4) (λv o h=>by cases h;rfl) (pre:=pre) (F:=F) (T:=λx=>av4 (x.1.1) (x.1.2.1) (x.1.2.2.1)) (λx Q=>aJZ x Q) hF
def ak5 (_:ao0):Bool:=true
def aDW (x:ao0):OT tU.Y:=.br (ao x.1.1) (.ok ⟨Mg,((bB (pS x.1.1) x.1.2.1 x.1.2.2.1,()),())⟩) (.ok ⟨Mg,((⟨0,0,0,0⟩,()),())⟩)
theorem aHE:ac Tryz.prog 42 (tU.aH ak5 aDW):=av3 _ _ λx oy hp ho=>by
 rw [<-ho]
 clear ho
 obtain ⟨⟨s,a,b,⟨⟩⟩,⟨⟩⟩:=x
 cases hs:ao s
 ·exact (OT.ar hs).trans (OT.ar (b:=ao s) hs).symm
 ·refine (OT.ap hs).trans ((ah ?_).trans (OT.ap (b:=ao s) hs).symm)
  simp only [List.all_cons,List.all_nil,Bool.and_true]
  exact iP hs
def Mf:cf:=(tU.aH ak5 aDW)
theorem aoZ:ac Tryz.prog 42 Mf:=aHE
theorem aoY:aF Mf:=aA
def abP:Env:=ay 42 Mf Oj
theorem Oh:aQ Tryz.prog abP:=ag aoZ Gx
theorem Oi:ax abP:=ae aoY HX
theorem aqs:aU Tryz.prog te abP:=aJ follows aq Oh Oi
def mv:aw:=⟨[.val true .elem],[],true,0,false⟩
abbrev RI:Type:=((aa)×Unit)×(Unit)
def Vn:az:=⟨[.val true .elem],[],false⟩
def aae:SV->Option az:=λ_=>some Vn
def afl (a0:aa):OT mv.Y:=
 (.ok ⟨Vn,(({w0:=be a0.w0 (1:Int)|||bP a0.w1 (63:Int),w1:=be a0.w1 (1:Int)|||bP a0.w2 (63:Int),w2:=be a0.w2 (1:Int)|||bP a0.w3 (63:Int),w3:=be a0.w3 (1:Int)},()),())⟩)
theorem aHJ (x:RI) (Q:mv.Y->Prop):wpf te abP av 1000 Tryz.f138 (mv.inp.inj x).tm (mv.inp.inj x).hp (fnK mv aae Q) (λ_ _=>False)=(afl (x.1.1)).wpR Q:=by kernel_rfl
theorem apc (pre:RI->Bool) (F:RI->OT mv.Y) (hF:∀ (x:RI) oy,pre x=true->(F x).run=some oy->(afl (x.1.1)).run=some oy):ac Tryz.prog 138 (mv.aH pre F):=
 aD aq Oh aqs (f:=138) (fn:=Tryz.f138) (c:=aj Tryz.f138) (by kernel_rfl) (by kernel_rfl) (by kernel_rfl) (S:=mv) (k:=0) (by kernel_rfl) (λR hR=>af) (n:=1000) (sel:=aae) (λv o h=>by cases h;rfl) (pre:=pre) (F:=F) (T:=λx=>afl (x.1.1)) (λx Q=>aHJ x Q) hF
theorem LS (x y:UInt64):(be x 1|||bP y 63).toNat=x.toNat/2+9223372036854775808*(y.toNat%2):=by
 have hx:=x.toNat_lt
 have e1:(be x 1).toNat=x.toNat/2:=eY x 1 (by omega)
 have e2:(bP y 63).toNat=9223372036854775808*(y.toNat%2):=by
  have:=lD y 63 (by omega)
  have e:(bP y 63).toNat=y.toNat*2^63%2^64:=this
  rw [e]
  omega
 rw [UInt64.toNat_or,e1,e2,Nat.or_comm]
 have:=Nat.two_pow_add_eq_or_of_lt (i:=63) (b:=x.toNat/2) (by omega) (y.toNat%2)
 rw [Nat.add_comm]
 exact this.symm
theorem LU (x N:Nat):(x+18446744073709551616*N)/2=(x/2+9223372036854775808*(N%2))+18446744073709551616*(N/2):=by
 omega
theorem aeR (y N:Nat):(y+18446744073709551616*N)%2=y%2:=by
 omega
def dq (a:aa):aa:=ofN (a.nat/2)
theorem akN (a:aa):dq a=⟨be a.w0 1|||bP a.w1 63,be a.w1 1|||bP a.w2 63,be a.w2 1|||bP a.w3 63,be a.w3 1⟩:=by
 refine auW (k:=0) ?_
 rw [LS,LS,LS,Nat.mul_zero,Nat.add_zero]
 unfold Sx.aa.nat
 have e3:(be a.w3 1).toNat=a.w3.toNat/2:=eY a.w3 1 (by omega)
 rw [LU,aeR,LU,aeR,LU,e3]
def aaf (_:RI):Bool:=true
def afm (x:RI):OT mv.Y:=.ok ⟨Vn,((dq x.1.1,()),())⟩
theorem aCg:ac Tryz.prog 138 (mv.aH aaf afm):=apc _ _ λx oy hp ho=>by
 rw [<-ho]
 clear ho
 obtain ⟨⟨a,⟨⟩⟩,⟨⟩⟩:=x
 simp only [afm,akN]
 rfl
def Fx:cf:=(mv.aH aaf afm)
theorem afk:ac Tryz.prog 138 Fx:=aCg
theorem afj:aF Fx:=aA
def Gz:Env:=ay 138 Fx abP
theorem xA:aQ Tryz.prog Gz:=ag afk Oh
theorem HY:ax Gz:=ae afj Oi
theorem Oo:aU Tryz.prog te Gz:=aJ follows aq xA HY
def fg:aw:=⟨[.val true .elem,.val false .int],[],true,0,false⟩
abbrev wD:Type:=((aa)×(Int)×Unit)×(Unit)
def pB:Shape:=⟨12,[(2,.ptr 0 0 0),(4,.ptr 1 0 0),(5,.val false .int),(6,.val false .int)],[(0,.row .u64),(1,.row .u64)],0,true⟩
abbrev b8:Type:=((Unit)×(Unit)×(Int)×(Int)×Unit)×((List (UInt64))×(List (UInt64))×Unit)
def nD:Shape:=⟨12,[(2,.ptr 0 0 0),(4,.ptr 1 0 0)],[(0,.row .u64),(1,.row .u64)],0,true⟩
abbrev iY:Type:=((Unit)×(Unit)×Unit)×((List (UInt64))×(List (UInt64))×Unit)
def RG:SE->Option Shape:=fp [(0,nD)] none
def apb (a5:Int) (a6:Int) (c0:List (UInt64)) (c1:List (UInt64)):OT (Sum b8 aE):=
 let z0:Nat:=List.length c0
 let z1:aa:=dq {w0:=List.getD c0 0 0,w1:=List.getD c0 1 0,w2:=List.getD c0 2 0,w3:=List.getD c0 3 0}
 (.br (decide (a6<a5))
 (gd [decide (4<=z0),decide ((4/1:Nat)+0<=z0),inR (a6+(1:Int))] (.ok (.inl (((),((),(a5,(a6+(1:Int),())))),(List.set (List.set (List.set (List.set c0 0 z1.w0) 1 z1.w1) 2 z1.w2) 3 z1.w3,(c1,()))))))
 (.ok (.inr ⟨(.exit 0,nD),(((),((),())),(c0,(c1,())))⟩)))
def pD (s:b8):OT (Sum b8 aE):=apb (s.1.2.2.1) (s.1.2.2.2.1) (s.2.1) (s.2.2.1)
theorem ao8 (s:b8) (Q:Sum b8 aE->Prop):wps te Gz av 1000 (aV (aj Tryz.f136) 0) (pB.inj s) (bV pB RG (Q:Sum pB.T aE->Prop))=(pD s).wpR Q:=by kernel_rfl
def wC (g0_0:b8->iY) (s:b8):OT aE:=(.ok ⟨(.exit 0,nD),g0_0 s⟩)
def pC:az:=⟨[.val true .elem],[],false⟩
def Mn:SV->Option az:=λ_=>some pC
def Mp (ok0:b8->Bool) (g0_0:b8->iY) (a0:aa) (a1:Int):OT fg.Y:=
 let z0:(PUnit×PUnit×Int×Int×PUnit)×List UInt64×List UInt64×PUnit:=(((),(),a1,(0:Int),()),[a0.w0,a0.w1,a0.w2,a0.w3],[(0:UInt64),(0:UInt64),(0:UInt64),(0:UInt64)],())
 let z1:=(g0_0 z0).snd
 let z2:=z1.fst
 let z3:=z1.snd.fst
 let z4:List UInt64:=lay z3 z2 4 (0:UInt64)
 (gd [ok0 z0,decide (4<=List.length z2),decide ((4/1:Nat)+0<=List.length z3),decide (4<=List.length z4)] (.ok ⟨pC,(({w0:=List.getD z4 0 0,w1:=List.getD z4 1 0,w2:=List.getD z4 2 0,w3:=List.getD z4 3 0},()),())⟩))
theorem awa (ok0:b8->Bool) (g0_0:b8->iY) (x:wD) (Q:fg.Y->Prop):wpf te Gz (aO 0 (cb pB 0 ok0 (wC g0_0)) av) 1000 Tryz.f136 (fg.inp.inj x).tm (fg.inp.inj x).hp (fnK fg Mn Q) (λ_ _=>False)=(Mp ok0 g0_0 (x.1.1) (x.1.2.1)).wpR Q:=by kernel_rfl
theorem aac (ok0:b8->Bool) (g0_0:b8->iY) (h0:∀ s:b8,ok0 s=true->∃ m e,al (pD) m s=some e/\(wC g0_0 s).run=some e) (pre:wD->Bool) (F:wD->OT fg.Y) (hF:∀ (x:wD) oy,pre x=true->(F x).run=some oy->(Mp ok0 g0_0 (x.1.1) (x.1.2.1)).run=some oy):ac Tryz.prog 136 (fg.aH pre F):=
 aD aq xA Oo (f:=136) (fn:=Tryz.f136) (c:=aj Tryz.f136) (by kernel_rfl) (by kernel_rfl) (by kernel_rfl) (S:=fg) (k:=0) (by kernel_rfl) (λR hR=>(aB (c:=(aj Tryz.f136)) (by kernel_rfl) (id:=0) (by kernel_rfl) (aS aq xA Oo (sh:=pB) hR (xs:=RG) (aC (by kernel_rfl) (by kernel_rfl) hR) aK af (n:=1000) (T:=pD) (λs Q=>ao8 s Q) (ok:=ok0) (f:=wC g0_0) h0) af)) (n:=1000) (sel:=Mn) (λv o h=>by cases h;rfl) (pre:=pre) (F:=F) (T:=λx=>Mp ok0 g0_0 (x.1.1) (x.1.2.1)) (λx Q=>awa ok0 g0_0 x Q) hF
def dQ (a:aa) (n:Nat):aa:=ofN (a.nat/2^n)
theorem zk (a:aa):∀ n,upto (λ_ e=>dq e) a n=dQ a n
 |0=>by
  show a=ofN (a.nat/2^0)
  rw [Nat.pow_zero,Nat.div_one,wa]
 |n+1=>by
  show dq (upto (λ_ e=>dq e) a n)=_
  rw [zk a n]
  unfold dq dQ
  have:=iQ a
  have h2:a.nat/2^n<=a.nat:=Nat.div_le_self _ _
  rw [ko (by omega),Nat.div_div_eq_div_mul,<-Nat.pow_succ]
def Mo (s:b8):Bool:=decide (s.1.2.2.2.1=0/\0<=s.1.2.2.1/\s.1.2.2.1<=1000000/\s.2.1.length=4)
def RH (s:b8):iY:=(((),(),()),(lst (dQ (elemOf s.2.1) s.1.2.2.1.toNat),s.2.2.1,()))
theorem apa:∀ s:b8,Mo s=true->∃ m e,al pD m s=some e/\(wC RH s).run=some e:=by
 rintro ⟨⟨⟨⟩,⟨⟩,k,i,⟨⟩⟩,⟨l,o,⟨⟩⟩⟩ h
 have h':=of_decide_eq_true h
 dsimp only at h'
 obtain ⟨rfl,h0,h1,hl⟩:=h'
 obtain ⟨a,rfl⟩:∃ a,l=lst a:=⟨elemOf l,(aR hl).symm⟩
 have:=(aP (T:=pD) (λi a=>((((),(),k,(i:Int),()),(lst a,o,())):b8)) (λ_ e=>dq e)
  (λa=>(⟨(.exit 0,nD),(((),(),()),(lst a,o,()))⟩:aE)) k.toNat a (λ_ _=>True) trivial (λi a hi _=>⟨?_,trivial⟩) (λa _=> ?_)).1
 ·rw [zk] at this
  obtain ⟨m,hm⟩:=this
  exact ⟨m,_,hm,rfl⟩
 ·refine (OT.ap (decide_eq_true (by dsimp only;omega))).trans ((ah ?_).trans rfl)
  simp only [List.all_cons,List.all_nil,Bool.and_true,Bool.and_eq_true]
  exact ⟨rfl,rfl,aI (by omega)⟩
 ·exact OT.ar (decide_eq_false (by dsimp only;omega))
def rm (x:wD):Bool:=decide (0<=x.1.2.1/\x.1.2.1<=1000000)
def aad (x:wD):OT fg.Y:=.ok ⟨pC,((dQ x.1.1 x.1.2.1.toNat,()),())⟩
theorem ao9:ac Tryz.prog 136 (fg.aH rm aad):=aac Mo RH apa _ _ λx oy hp ho=>by
 rw [<-ho]
 clear ho
 obtain ⟨⟨a,k,⟨⟩⟩,⟨⟩⟩:=x
 have hp':0<=k/\k<=1000000:=of_decide_eq_true hp
 refine (ah ?_).trans ?_
 ·simp only [List.all_cons,List.all_nil,Bool.and_true,Bool.and_eq_true]
  exact ⟨decide_eq_true ⟨rfl,hp'.1,hp'.2,rfl⟩,rfl,rfl,rfl⟩
 ·show some (⟨pC,((elemOf (lay [0,0,0,0] (lst (dQ a k.toNat)) 4 0),()),())⟩:fg.Y)=some ⟨pC,((dQ a k.toNat,()),())⟩
  rw [aID _ _ rfl rfl]
  rfl
def tZ:cf:=(fg.aH rm aad)
theorem Vm:ac Tryz.prog 136 tZ:=ao9
theorem Vl:aF tZ:=aA
def qf:Env:=ay 136 tZ Gz
theorem nS:aQ Tryz.prog qf:=ag Vm xA
theorem yj:ax qf:=ae Vl HY
theorem Dr:aU Tryz.prog te qf:=aJ follows aq nS yj
end Go.Proofs.YtohjofabochgfaaGreat

namespace Go.Proofs.YtohjofabochgfaaGreat
open Sx Go
def bN (k:aa):Bool:=(k.w0==0&&(k.w1==0&&(k.w2==0&&(k.w3==0&&true))))
def aKI (k:aa):Bool:=(k.w0&&&1==1)
theorem n9 (k:aa):bN k=Nat.beq k.nat 0:=by
 unfold bN Sx.aa.nat
 have e:∀ x:UInt64,(x==0)=decide (x.toNat=0):=λx=>by
  by_cases h:x=0
  ·subst h;rfl
  ·have h':¬x.toNat=0:=λh'=>h (UInt64.toNat_inj.1 h')
   rw [decide_eq_false h']
   simpa using h
 rw [e,e,e,e]
 generalize k.w0.toNat=a
 generalize k.w1.toNat=b
 generalize k.w2.toNat=c
 generalize k.w3.toNat=d
 by_cases h:a=0/\b=0/\c=0/\d=0
 ·obtain ⟨rfl,rfl,rfl,rfl⟩:=h
  rfl
 ·have h1:¬(a+18446744073709551616*(b+18446744073709551616*(c+18446744073709551616*d))=0):=λh1=>h (by omega)
  have h2:Nat.beq (a+18446744073709551616*(b+18446744073709551616*(c+18446744073709551616*d))) 0=false:=by
   cases hb:Nat.beq (a+18446744073709551616*(b+18446744073709551616*(c+18446744073709551616*d))) 0
   ·rfl
   ·exact absurd (Nat.eq_of_beq_eq_true hb) h1
  rw [h2]
  by_cases ha:a=0
  ·by_cases hb:b=0
   ·by_cases hc:c=0
    ·have hd:¬d=0:=λhd=>h ⟨ha,hb,hc,hd⟩
     simp [hd]
    ·simp [hc]
   ·simp [hb]
  ·simp [ha]
theorem aBy (k:aa):aKI k=Nat.beq (k.nat%2) 1:=by
 have e:(k.w0&&&1).toNat=k.w0.toNat%2:=by
  rw [UInt64.toNat_and]
  exact Nat.and_two_pow_sub_one_eq_mod k.w0.toNat 1
 have e2:k.nat%2=k.w0.toNat%2:=by
  unfold Sx.aa.nat
  rw [aeR]
 rw [e2,<-e]
 unfold aKI
 by_cases h:k.w0&&&1=1
 ·rw [h];rfl
 ·have h':¬(k.w0&&&1).toNat=1:=λh'=>h (UInt64.toNat_inj.1 h')
  have h2:Nat.beq (k.w0&&&1).toNat 1=false:=by
   cases hb:Nat.beq (k.w0&&&1).toNat 1
   ·rfl
   ·exact absurd (Nat.eq_of_beq_eq_true hb) h'
  rw [h2]
  simpa using h
theorem ZI (k:aa):(dq k).nat=k.nat/2:=by
 have:=iQ k
 exact ko (by omega)
def aBl (p:Nat):Nat->aa->aa->aa->aa
 |0,o,_,_=>o
 |n+1,o,x,k=>cond (bN k) o (aBl p n (cond (aKI k) (bB p o x) o) (bB p x x) (dq k))
def aDD (p:Nat):Nat->Nat->Nat->Nat->Nat
 |0,o,_,_=>o
 |n+1,o,x,k=>cond (Nat.beq k 0) o (aDD p n (cond (Nat.beq (k%2) 1) (o*x%p) o) (x*x%p) (k/2))
theorem auB {p:Nat} (hp:0<p/\p<57896044618658097711785492504343953926634992332820282019728792003956564819968):∀ (n:Nat) (o x k:aa),aBl p n o x k=ofN (aDD p n o.nat x.nat k.nat)
 |0,o,x,k=>(wa o).symm
 |n+1,o,x,k=>by
  have e:∀ a b:aa,(bB p a b).nat=a.nat*b.nat%p:=λa b=>dm hp
  simp only [aBl,aDD,n9,aBy]
  cases Nat.beq k.nat 0
  ·simp only [cond_false]
   rw [auB hp n,e,ZI]
   cases Nat.beq (k.nat%2) 1
   ·rfl
   ·simp only [cond_true,e]
  ·simp only [cond_true]
   exact (wa o).symm
def gD (p:Nat) (a k:aa):aa:=cond (Nat.beq p 0) ⟨0,0,0,0⟩ (ofN (aDD p 256 1 (a.nat%p) k.nat))
theorem Vw {p:Nat} (hp:0<p) (a k:aa):gD p a k=ofN (aDD p 256 1 (a.nat%p) k.nat):=by
 unfold gD
 cases p with
 |zero=>exact absurd hp (Nat.lt_irrefl _)
 |succ p=>rfl
end Go.Proofs.YtohjofabochgfaaGreat

namespace Go.Proofs.YtohjofabochgfaaGreat
open Sx Go
set_option maxRecDepth 100000
def nE:aw:=⟨[.val false .int,.val true .elem,.val true .elem],[],true,0,false⟩
abbrev aag:Type:=((Int)×(aa)×(aa)×Unit)×(Unit)
def Mr:Shape:=⟨40,[(4,.ptr 0 0 0),(5,.ptr 1 0 0),(6,.ptr 2 0 0),(7,.ptr 3 0 0),(9,.ptr 4 0 0)],[(0,.row .u64),(1,.row .u64),(2,.row .u64),(3,.cells [.val false .u64,.val false .u64,.val false .u64,.val false .u64,.val false .int,.val false .u64,.val false .u64,.val false .u64,.val false .u64,.val false .u64,.val false .u64]),(4,.row .u64)],0,true⟩
abbrev dM:Type:=((Unit)×(Unit)×(Unit)×(Unit)×(Unit)×Unit)×((List (UInt64))×(List (UInt64))×(List (UInt64))×((UInt64)×(UInt64)×(UInt64)×(UInt64)×(Int)×(UInt64)×(UInt64)×(UInt64)×(UInt64)×(UInt64)×(UInt64)×Unit)×(List (UInt64))×Unit)
def Cc:Shape:=⟨40,[(6,.ptr 0 0 0),(9,.ptr 1 0 0)],[(0,.row .u64),(1,.row .u64)],0,true⟩
abbrev pE:Type:=((Unit)×(Unit)×Unit)×((List (UInt64))×(List (UInt64))×Unit)
def awd:SE->Option Shape:=fp [(0,Cc)] none
def aHM (c0:List (UInt64)) (c1:List (UInt64)) (c2:List (UInt64)) (c3_0:UInt64) (c3_1:UInt64) (c3_2:UInt64) (c3_3:UInt64) (c3_4:Int) (c3_5:UInt64) (c3_6:UInt64) (c3_7:UInt64) (c3_8:UInt64) (c3_9:UInt64) (c3_10:UInt64) (c4:List (UInt64)):OT (Sum dM aE):=
 let z0:Nat:=List.length c1
 let z1:Bool:=decide (4<=z0)
 let z2:UInt64:=List.getD c1 0 0
 let z3:UInt64:=List.getD c1 1 0
 let z4:UInt64:=List.getD c1 2 0
 let z5:UInt64:=List.getD c1 3 0
 let z6:Nat:=List.length c4
 let z7:Nat:=List.length c0
 let z8:Bool:=decide (4<=z7)
 let z9:aa:= {w0:=c3_0,w1:=c3_1,w2:=c3_2,w3:=c3_3}
 let z10:aa×Int×UInt64×UInt64×aa:=(z9,c3_4,c3_5,c3_6,{w0:=c3_7,w1:=c3_8,w2:=c3_9,w3:=c3_10})
 let z11:aa:= {w0:=List.getD c4 0 0,w1:=List.getD c4 1 0,w2:=List.getD c4 2 0,w3:=List.getD c4 3 0}
 let z12:aa:= {w0:=List.getD c0 0 0,w1:=List.getD c0 1 0,w2:=List.getD c0 2 0,w3:=List.getD c0 3 0}
 let z13:aa×PUnit:=(z12,())
 let z14:Bool:=fT ((z10,z12,z13),())
 let z15:Bool:=decide ((4/1:Nat)+0<=z7)
 let z16:Bool:=decide ((4/1:Nat)+0<=z0)
 let z17:Nat:=aa.nat z9
 let z18:aa:=bB z17 z12 z12
 let z19:List UInt64:=List.set (List.set (List.set (List.set c0 0 z18.w0) 1 z18.w1) 2 z18.w2) 3 z18.w3
 let z20:aa:=dq {w0:=z2,w1:=z3,w2:=z4,w3:=z5}
 let z21:List UInt64:=List.set (List.set (List.set (List.set c1 0 z20.w0) 1 z20.w1) 2 z20.w2) 3 z20.w3
 let z22:aa:=bB z17 z11 z12
 (gd [z1] (.br (!(z2==(0:UInt64)&&(z3==(0:UInt64)&&(z4==(0:UInt64)&&(z5==(0:UInt64)&&true)))))
 (gd [decide (0<z0)] (.br (z2&&&(1:UInt64)==(1:UInt64))
  (gd [decide (4<=z6),z8,fT ((z10,z11,z13),()),decide ((4/1:Nat)+0<=z6),z8,z8,z14,z15,z1,z16] (.ok (.inl (((),((),((),((),((),()))))),(z19,(z21,(c2,((c3_0,(c3_1,(c3_2,(c3_3,(c3_4,(c3_5,(c3_6,(c3_7,(c3_8,(c3_9,(c3_10,()))))))))))),(List.set (List.set (List.set (List.set c4 0 z22.w0) 1 z22.w1) 2 z22.w2) 3 z22.w3,())))))))))
  (gd [z8,z8,z14,z15,z1,z16] (.ok (.inl (((),((),((),((),((),()))))),(z19,(z21,(c2,((c3_0,(c3_1,(c3_2,(c3_3,(c3_4,(c3_5,(c3_6,(c3_7,(c3_8,(c3_9,(c3_10,()))))))))))),(c4,())))))))))))
 (.ok (.inr ⟨(.exit 0,Cc),(((),((),())),(c2,(c4,())))⟩))))
def Ms (s:dM):OT (Sum dM aE):=aHM (s.2.1) (s.2.2.1) (s.2.2.2.1) (s.2.2.2.2.1.1) (s.2.2.2.2.1.2.1) (s.2.2.2.2.1.2.2.1) (s.2.2.2.2.1.2.2.2.1) (s.2.2.2.2.1.2.2.2.2.1) (s.2.2.2.2.1.2.2.2.2.2.1) (s.2.2.2.2.1.2.2.2.2.2.2.1) (s.2.2.2.2.1.2.2.2.2.2.2.2.1) (s.2.2.2.2.1.2.2.2.2.2.2.2.2.1) (s.2.2.2.2.1.2.2.2.2.2.2.2.2.2.1) (s.2.2.2.2.1.2.2.2.2.2.2.2.2.2.2.1) (s.2.2.2.2.2.1)
theorem aHK (s:dM) (Q:Sum dM aE->Prop):wps te qf av 1000 (aV (aj Tryz.f137) 0) (Mr.inj s) (bV Mr awd (Q:Sum Mr.T aE->Prop))=(Ms s).wpR Q:=by kernel_rfl
def Vp (g0_0:dM->pE) (s:dM):OT aE:=(.ok ⟨(.exit 0,Cc),g0_0 s⟩)
def Fz:az:=⟨[.val true .elem],[],false⟩
def ale:SV->Option az:=λ_=>some Fz
def awi (ok0:dM->Bool) (g0_0:dM->pE) (a0:Int) (a1:aa) (a2:aa):OT nE.Y:=
 let z0:aa×Int×UInt64×UInt64×aa:=aY (Int.toNat a0)
 let z1:=z0.fst
 let z2:aa:=ofN (aa.nat a1%aa.nat z1)
 let z3:=z0.snd
 let z4:=z3.snd
 let z5:=z4.snd
 let z6:=z5.snd
 let z7:(PUnit×PUnit×PUnit×PUnit×PUnit×PUnit)×List UInt64×List UInt64×List UInt64×(UInt64×UInt64×UInt64×UInt64×Int×UInt64×UInt64×UInt64×UInt64×UInt64×UInt64×PUnit)×List UInt64×PUnit:=(((),(),(),(),(),()),[z2.w0,z2.w1,z2.w2,z2.w3],[a2.w0,a2.w1,a2.w2,a2.w3],[(0:UInt64),(0:UInt64),(0:UInt64),(0:UInt64)],(z1.w0,z1.w1,z1.w2,z1.w3,z3.fst,z4.fst,z5.fst,z6.w0,z6.w1,z6.w2,z6.w3,()),[(1:UInt64),(0:UInt64),(0:UInt64),(0:UInt64)],())
 let z8:=(g0_0 z7).snd
 let z9:=z8.snd.fst
 let z10:=z8.fst
 let z11:List UInt64:=lay z10 z9 4 (0:UInt64)
 (.br (ao a0)
 (gd [gr ((z0,a1,()),()),ok0 z7,decide (4<=List.length z9),decide ((4/1:Nat)+0<=List.length z10),decide (4<=List.length z11)] (.ok ⟨Fz,(({w0:=List.getD z11 0 0,w1:=List.getD z11 1 0,w2:=List.getD z11 2 0,w3:=List.getD z11 3 0},()),())⟩))
 (.ok ⟨Fz,(({w0:=0,w1:=0,w2:=0,w3:=0},()),())⟩))
theorem aJ2 (ok0:dM->Bool) (g0_0:dM->pE) (x:aag) (Q:nE.Y->Prop):wpf te qf (aO 0 (cb Mr 0 ok0 (Vp g0_0)) av) 1000 Tryz.f137 (nE.inp.inj x).tm (nE.inp.inj x).hp (fnK nE ale Q) (λ_ _=>False)=(awi ok0 g0_0 (x.1.1) (x.1.2.1) (x.1.2.2.1)).wpR Q:=by kernel_rfl
theorem awf (ok0:dM->Bool) (g0_0:dM->pE) (h0:∀ s:dM,ok0 s=true->∃ m e,al (Ms) m s=some e/\(Vp g0_0 s).run=some e) (pre:aag->Bool) (F:aag->OT nE.Y) (hF:∀ (x:aag) oy,pre x=true->(F x).run=some oy->(awi ok0 g0_0 (x.1.1) (x.1.2.1) (x.1.2.2.1)).run=some oy):ac Tryz.prog 137 (nE.aH pre F):=
 aD aq nS Dr (f:=137) (fn:=Tryz.f137) (c:=aj Tryz.f137) (by kernel_rfl) (by kernel_rfl) (by kernel_rfl) (S:=nE) (k:=0) (by kernel_rfl) (λR hR=>(aB (c:=(aj Tryz.f137)) (by kernel_rfl) (id:=0) (by kernel_rfl) (aS aq nS Dr (sh:=Mr) hR (xs:=awd) (aC (by kernel_rfl) (by kernel_rfl) hR) aK af (n:=1000) (T:=Ms) (λs Q=>aHK s Q) (ok:=ok0) (f:=Vp g0_0) h0) af)) (n:=1000) (sel:=ale) (λv o h=>by cases h;rfl) (pre:=pre) (F:=F) (T:=λx=>awi ok0 g0_0 (x.1.1) (x.1.2.1) (x.1.2.2.1)) (λx Q=>aJ2 ok0 g0_0 x Q) hF
theorem awg {x0 x1 x2 x3 x5 x6 x7 x8 x9 x10:UInt64} {x4:Int} {c2:List UInt64} (hn:kn (⟨x0,x1,x2,x3⟩,x4,x5,x6,⟨x7,x8,x9,x10⟩)=true):∀ (n:Nat) (o x k:aa),k.nat<2^n->
 ∃ m,al Ms m (((),(),(),(),(),()),(lst x,lst k,c2,(x0,x1,x2,x3,x4,x5,x6,x7,x8,x9,x10,()),lst o,()))=some ⟨(.exit 0,Cc),(((),(),()),(c2,lst (aBl (aa.mk x0 x1 x2 x3).nat n o x k),()))⟩:=by
 intro n
 induction n with
 |zero=>
  intro o x k hk
  have hz:(!bN k)=false:=by
   rw [n9,show k.nat=0 by omega]
   rfl
  exact ⟨1,aM ((ah rfl).trans (OT.ar hz))⟩
 |succ n ih=>
  intro o x k hk
  cases hz:bN k
  ·have hk2:(dq k).nat<2^n:=by
    rw [ZI]
    rw [Nat.pow_succ] at hk
    omega
   have hz':(!bN k)=true:=by rw [hz];rfl
   cases ho:aKI k
   ·obtain ⟨m,hm⟩:=ih o (bB (aa.mk x0 x1 x2 x3).nat x x) (dq k) hk2
    simp only [aBl,hz,ho,cond_false]
    refine ⟨m+1,aG ?_ hm⟩
    refine (ah rfl).trans ((OT.ap hz').trans ((ah rfl).trans ((OT.ar ho).trans ((ah ?_).trans rfl))))
    simp only [List.all_cons,List.all_nil,Bool.and_true,Bool.and_eq_true]
    exact ⟨rfl,rfl,hn,rfl,rfl,rfl⟩
   ·obtain ⟨m,hm⟩:=ih (bB (aa.mk x0 x1 x2 x3).nat o x) (bB (aa.mk x0 x1 x2 x3).nat x x) (dq k) hk2
    simp only [aBl,hz,ho,cond_false,cond_true]
    refine ⟨m+1,aG ?_ hm⟩
    refine (ah rfl).trans ((OT.ap hz').trans ((ah rfl).trans ((OT.ap ho).trans ((ah ?_).trans rfl))))
    simp only [List.all_cons,List.all_nil,Bool.and_true,Bool.and_eq_true]
    exact ⟨rfl,rfl,hn,rfl,rfl,rfl,hn,rfl,rfl,rfl⟩
  ·simp only [aBl,hz,cond_true]
   have hz':(!bN k)=false:=by rw [hz];rfl
   exact ⟨1,aM ((ah rfl).trans (OT.ar hz'))⟩
def aLd (s:dM):PD:=(⟨s.2.2.2.2.1.1,s.2.2.2.2.1.2.1,s.2.2.2.2.1.2.2.1,s.2.2.2.2.1.2.2.2.1⟩,s.2.2.2.2.1.2.2.2.2.1,s.2.2.2.2.1.2.2.2.2.2.1,s.2.2.2.2.1.2.2.2.2.2.2.1,⟨s.2.2.2.2.1.2.2.2.2.2.2.2.1,s.2.2.2.2.1.2.2.2.2.2.2.2.2.1,s.2.2.2.2.1.2.2.2.2.2.2.2.2.2.1,s.2.2.2.2.1.2.2.2.2.2.2.2.2.2.2.1⟩)
def Vo (s:dM):Bool:=kn (aLd s)&&decide (s.2.1.length=4/\s.2.2.1.length=4/\s.2.2.2.2.2.1.length=4)
def awh (s:dM):pE:=(((),(),()),(s.2.2.2.1,lst (aBl (aLd s).1.nat 256 (elemOf s.2.2.2.2.2.1) (elemOf s.2.1) (elemOf s.2.2.1)),()))
theorem aHL:∀ s:dM,Vo s=true->∃ m e,al Ms m s=some e/\(Vp awh s).run=some e:=by
 rintro ⟨⟨⟨⟩,⟨⟩,⟨⟩,⟨⟩,⟨⟩,⟨⟩⟩,⟨c0,c1,c2,⟨x0,x1,x2,x3,x4,x5,x6,x7,x8,x9,x10,⟨⟩⟩,c4,⟨⟩⟩⟩ h
 simp only [Vo,Bool.and_eq_true,decide_eq_true_eq,aLd] at h
 obtain ⟨hn,h0,h1,h4⟩:=h
 obtain ⟨x,rfl⟩:∃ a,c0=lst a:=⟨elemOf c0,(aR h0).symm⟩
 obtain ⟨k,rfl⟩:∃ a,c1=lst a:=⟨elemOf c1,(aR h1).symm⟩
 obtain ⟨o,rfl⟩:∃ a,c4=lst a:=⟨elemOf c4,(aR h4).symm⟩
 obtain ⟨m,hm⟩:=awg (c2:=c2) hn 256 o x k (iQ k)
 exact ⟨m,_,hm,rfl⟩
def alf (_:aag):Bool:=true
def aDZ (x:aag):OT nE.Y:=.br (ao x.1.1) (.ok ⟨Fz,((gD (pS x.1.1) x.1.2.1 x.1.2.2.1,()),())⟩) (.ok ⟨Fz,((⟨0,0,0,0⟩,()),())⟩)
theorem aCi {p:Nat} (hp:0<p/\p<57896044618658097711785492504343953926634992332820282019728792003956564819968) (a k:aa):elemOf (lay [0,0,0,0] (lst (aBl p 256 ⟨1,0,0,0⟩ (ofN (a.nat%p)) k)) 4 0)=gD p a k:=by
 rw [aID _ _ rfl rfl,apu,auB hp,dm hp,Vw hp.1]
 rfl
theorem awe:ac Tryz.prog 137 (nE.aH alf aDZ):=awf Vo awh aHL _ _ λx oy hp ho=>by
 rw [<-ho]
 clear ho
 obtain ⟨⟨s,a,k,⟨⟩⟩,⟨⟩⟩:=x
 cases hs:ao s
 ·exact (OT.ar hs).trans (OT.ar (b:=ao s) hs).symm
 ·have hn:=iP hs
  have hfin:=aCi (o7 hs) a k
  have hn2:kn (aY s.toNat)=true:=hn
  refine (OT.ap hs).trans (Eq.trans ?_ (OT.ap (b:=ao s) hs).symm)
  simp only [<-hfin]
  refine (ah ?_).trans rfl
  simp only [List.all_cons,List.all_nil,Bool.and_true,Bool.and_eq_true]
  refine ⟨hn,?_,rfl,rfl,rfl⟩
  show (kn _&&decide _)=true
  rw [Bool.and_eq_true]
  exact ⟨hn,decide_eq_true ⟨rfl,rfl,rfl⟩⟩
def Mq:cf:=(nE.aH alf aDZ)
theorem ape:ac Tryz.prog 137 Mq:=awe
theorem apd:aF Mq:=aA
def abR:Env:=ay 137 Mq qf
theorem Oq:aQ Tryz.prog abR:=ag ape nS
theorem Ot:ax abR:=ae apd yj
theorem aqu:aU Tryz.prog te abR:=aJ follows aq Oq Ot
def tY:aw:=⟨[.val false .int,.val true .elem],[],true,0,false⟩
abbrev ao7:Type:=((Int)×(aa)×Unit)×(Unit)
def tX:az:=⟨[.val true .elem,.val false .int],[],false⟩
def alc:SV->Option az:=λ_=>some tX
def av9 (a0:Int) (a1:aa):OT tY.Y:=
 let z0:Bool:=ao a0
 let z1:aa×Int×UInt64×UInt64×aa:=aY (Int.toNat a0)
 let z2:=z1.fst
 let z3:aa:=ofN (aa.nat a1%aa.nat z2)
 let z4:aa:= {w0:=0,w1:=0,w2:=0,w3:=0}
 (.br (z0)
 (gd [gr ((z1,a1,()),())] (.br (z3.w0==(0:UInt64)&&(z3.w1==(0:UInt64)&&(z3.w2==(0:UInt64)&&(z3.w3==(0:UInt64)&&true))))
  (.ok ⟨tX,((z4,((10:Int),())),())⟩)
  (.br (z0)
   (.ok ⟨tX,((gD (pS a0) a1 (ef z2 {w0:=2,w1:=0,w2:=0,w3:=0}).fst,((0:Int),())),())⟩)
   (.ok ⟨tX,((z4,((0:Int),())),())⟩))))
 (.ok ⟨tX,((z4,((20:Int),())),())⟩))
theorem aJ1 (x:ao7) (Q:tY.Y->Prop):wpf te abR av 1000 Tryz.f121 (tY.inp.inj x).tm (tY.inp.inj x).hp (fnK tY alc Q) (λ_ _=>False)=(av9 (x.1.1) (x.1.2.1)).wpR Q:=by kernel_rfl
theorem av8 (pre:ao7->Bool) (F:ao7->OT tY.Y) (hF:∀ (x:ao7) oy,pre x=true->(F x).run=some oy->(av9 (x.1.1) (x.1.2.1)).run=some oy):ac Tryz.prog 121 (tY.aH pre F):=
 aD aq Oq aqu (f:=121) (fn:=Tryz.f121) (c:=aj Tryz.f121) (by kernel_rfl) (by kernel_rfl) (by kernel_rfl) (S:=tY) (k:=0) (by kernel_rfl) (λR hR=>af) (n:=1000) (sel:=alc) (λv o h=>by cases h;rfl) (pre:=pre) (F:=F) (T:=λx=>av9 (x.1.1) (x.1.2.1)) (λx Q=>aJ1 x Q) hF
def aBU (p:Nat) (a:aa):aa:=ofN (aDD p 256 1 (a.nat%p) (p-2))
theorem aDF {s:Int} (h:ao s=true):2<=pS s:=by
 rcases cn h with rfl|rfl|rfl|rfl<;>decide+kernel
theorem avv {s:Int} (h:ao s=true) (a:aa):gD (pS s) a (ef (aY s.toNat).1 ⟨2,0,0,0⟩).1=aBU (pS s) a:=by
 rw [Vw (o7 h).1]
 unfold aBU
 have h2:2<=(aY s.toNat).1.nat:=aDF h
 rw [mU (show (aa.mk 2 0 0 0).nat<=_ from h2)]
 rfl
theorem agX {p:Nat} (hp:0<p/\p<57896044618658097711785492504343953926634992332820282019728792003956564819968) (n:Nat):bN (ofN (n%p))=Nat.beq (n%p) 0:=by
 rw [n9,dm hp]
def ald (_:ao7):Bool:=true
def aDY (x:ao7):OT tY.Y:=.br (ao x.1.1) (.br (Nat.beq (x.1.2.1.nat%pS x.1.1) 0) (.ok ⟨tX,((⟨0,0,0,0⟩,((10:Int),())),())⟩) (.ok ⟨tX,((aBU (pS x.1.1) x.1.2.1,((0:Int),())),())⟩))
 (.ok ⟨tX,((⟨0,0,0,0⟩,((20:Int),())),())⟩)
theorem aHI:ac Tryz.prog 121 (tY.aH ald aDY):=av8 _ _ λx oy hp ho=>by
 rw [<-ho]
 clear ho
 obtain ⟨⟨s,a,⟨⟩⟩,⟨⟩⟩:=x
 cases hs:ao s
 ·exact (OT.ar hs).trans (OT.ar (b:=ao s) hs).symm
 ·have hz:bN (ofN (a.nat%pS s))=Nat.beq (a.nat%pS s) 0:=agX (o7 hs) _
  refine (OT.ap hs).trans (Eq.trans ((ah ?_).trans ?_) (OT.ap (b:=ao s) hs).symm)
  ·simp only [List.all_cons,List.all_nil,Bool.and_true]
   exact iP hs
  ·cases hb:Nat.beq (a.nat%pS s) 0
   ·rw [hb] at hz
    refine (OT.ar hz).trans ((OT.ap hs).trans (Eq.trans ?_ (OT.ar rfl).symm))
    simp only [avv hs]
   ·rw [hb] at hz
    exact (OT.ap hz).trans (OT.ap rfl).symm
def Ml:cf:=(tY.aH ald aDY)
theorem ao6:ac Tryz.prog 121 Ml:=aHI
theorem ao5:aF Ml:=aA
def abQ:Env:=ay 121 Ml abR
theorem Om:aQ Tryz.prog abQ:=ag ao6 Oq
theorem On:ax abQ:=ae ao5 Ot
theorem aqt:aU Tryz.prog te abQ:=aJ follows aq Om On
def jg:aw:=⟨[.val false .int],[],true,0,false⟩
abbrev FI:Type:=((Int)×Unit)×(Unit)
def jf:az:=⟨[.val true .elem,.val false .bool],[],false⟩
def RZ:SV->Option az:=λ_=>some jf
def VO (a0:Int):OT jg.Y:=
 let z0:aa:= {w0:=5,w1:=0,w2:=0,w3:=0}
 let z1:aa:= {w0:=0,w1:=0,w2:=0,w3:=0}
 (.br (a0==(0:Int))
 (.ok ⟨jf,(({w0:=23,w1:=0,w2:=0,w3:=0},(true,())),())⟩)
 (.br (a0==(1:Int))
  (.ok ⟨jf,(({w0:=21,w1:=0,w2:=0,w3:=0},(true,())),())⟩)
  (.br (a0==(2:Int))
   (.br (a0==(2:Int))
    (.ok ⟨jf,((z0,(true,())),())⟩)
    (.ok ⟨jf,((z1,(false,())),())⟩))
   (.br (a0==(3:Int))
    (.ok ⟨jf,((z0,(true,())),())⟩)
    (.ok ⟨jf,((z1,(false,())),())⟩)))))
theorem aCD (x:FI) (Q:jg.Y->Prop):wpf te abQ av 1000 Tryz.f85 (jg.inp.inj x).tm (jg.inp.inj x).hp (fnK jg RZ Q) (λ_ _=>False)=(VO (x.1.1)).wpR Q:=by kernel_rfl
theorem afM (pre:FI->Bool) (F:FI->OT jg.Y) (hF:∀ (x:FI) oy,pre x=true->(F x).run=some oy->(VO (x.1.1)).run=some oy):ac Tryz.prog 85 (jg.aH pre F):=
 aD aq Om aqt (f:=85) (fn:=Tryz.f85) (c:=aj Tryz.f85) (by kernel_rfl) (by kernel_rfl) (by kernel_rfl) (S:=jg) (k:=0) (by kernel_rfl) (λR hR=>af) (n:=1000) (sel:=RZ) (λv o h=>by cases h;rfl) (pre:=pre) (F:=F) (T:=λx=>VO (x.1.1)) (λx Q=>aCD x Q) hF
def bOf:Nat->aa
 |0=>⟨23,0,0,0⟩
 |1=>⟨21,0,0,0⟩
 |_=>⟨5,0,0,0⟩
abbrev bS (s:Int):aa:=bOf s.toNat
def R0 (_:FI):Bool:=true
def alH (x:FI):OT jg.Y:=.br (ao x.1.1) (.ok ⟨jf,((bS x.1.1,(true,())),())⟩) (.ok ⟨jf,((⟨0,0,0,0⟩,(false,())),())⟩)
theorem aw5:ac Tryz.prog 85 (jg.aH R0 alH):=afM _ _ λx oy _ ho=>by
 rw [<-ho]
 clear ho
 obtain ⟨⟨s,⟨⟩⟩,⟨⟩⟩:=x
 cases hs:ao s
 ·obtain ⟨h0,h1,h2,h3⟩:=vm hs
  exact (OT.ar h0).trans ((OT.ar h1).trans ((OT.ar h2).trans ((OT.ar h3).trans (OT.ar (b:=ao s) hs).symm)))
 ·rcases cn hs with h|h|h|h
  all_goals
   have h:s=_:=h
   subst h
   rfl
def zz:cf:=(jg.aH R0 alH)
theorem aaN:ac Tryz.prog 85 zz:=aw5
theorem aaM:aF zz:=aA
def DB:Env:=ay 85 zz abQ
theorem Ad:aQ Tryz.prog DB:=ag aaN Om
theorem DA:ax DB:=ae aaM On
theorem ab0:aU Tryz.prog te DB:=aJ follows aq Ad DA
def uq:aw:=⟨[],[],true,0,false⟩
abbrev apM:Type:=(Unit)×(Unit)
def afG:az:=⟨[.val true (.prod .elem (.prod .elem .bool))],[],false⟩
def alE:SV->Option az:=λ_=>some afG
def awY:OT uq.Y:=
 let z0:aa:= {w0:=0,w1:=0,w2:=0,w3:=0}
 (.ok ⟨afG,(((z0,z0,true),()),())⟩)
theorem aKe (x:apM) (Q:uq.Y->Prop):wpf te DB av 1000 Tryz.f79 (uq.inp.inj x).tm (uq.inp.inj x).hp (fnK uq alE Q) (λ_ _=>False)=(awY).wpR Q:=by kernel_rfl
theorem awX (pre:apM->Bool) (F:apM->OT uq.Y) (hF:∀ (x:apM) oy,pre x=true->(F x).run=some oy->(awY).run=some oy):ac Tryz.prog 79 (uq.aH pre F):=
 aD aq Ad ab0 (f:=79) (fn:=Tryz.f79) (c:=aj Tryz.f79) (by kernel_rfl) (by kernel_rfl) (by kernel_rfl) (S:=uq) (k:=0) (by kernel_rfl) (λR hR=>af) (n:=1000) (sel:=alE) (λv o h=>by cases h;rfl) (pre:=pre) (F:=F) (T:=λx=>awY) (λx Q=>aKe x Q) hF
def bD:aa×(aa×Bool):=(⟨0,0,0,0⟩,⟨0,0,0,0⟩,true)
def alF (_:apM):Bool:=true
def aD7 (_:apM):OT uq.Y:=.ok ⟨afG,((bD,()),())⟩
theorem aIa:ac Tryz.prog 79 (uq.aH alF aD7):=awX _ _ λx oy _ ho=>ho
def MO:cf:=(uq.aH alF aD7)
theorem apL:ac Tryz.prog 79 MO:=aIa
theorem apK:aF MO:=aA
def abZ:Env:=ay 79 MO DB
theorem OE:aQ Tryz.prog abZ:=ag apL Ad
theorem OG:ax abZ:=ae apK DA
theorem aqy:aU Tryz.prog te abZ:=aJ follows aq OE OG
def mA:aw:=⟨[.val false .int,.val true .elem,.val true .elem],[],true,0,false⟩
abbrev RY:Type:=((Int)×(aa)×(aa)×Unit)×(Unit)
def jO:az:=⟨[.val true .elem],[],false⟩
def aaL:SV->Option az:=λ_=>some jO
def afL (a0:Int) (a1:aa) (a2:aa):OT mA.Y:=
 let z0:Bool:=ao a0
 let z1:Nat:=pS a0
 let z2:aa:= {w0:=0,w1:=0,w2:=0,w3:=0}
 let z3:aa:=zK z1 z2 a2
 (.br (z0)
 (.br (z0)
  (.br (z0)
   (.ok ⟨jO,((zK z1 (bB z1 (bB z1 a1 a1) a1) a2,()),())⟩)
   (.ok ⟨jO,((z2,()),())⟩))
  (.br (z0)
   (.ok ⟨jO,((z3,()),())⟩)
   (.ok ⟨jO,((z2,()),())⟩)))
 (.br (z0)
  (.br (z0)
   (.ok ⟨jO,((zK z1 (bB z1 z2 a1) a2,()),())⟩)
   (.ok ⟨jO,((z2,()),())⟩))
  (.br (z0)
   (.ok ⟨jO,((z3,()),())⟩)
   (.ok ⟨jO,((z2,()),())⟩))))
theorem aIc (x:RY) (Q:mA.Y->Prop):wpf te abZ av 1000 Tryz.f87 (mA.inp.inj x).tm (mA.inp.inj x).hp (fnK mA aaL Q) (λ_ _=>False)=(afL (x.1.1) (x.1.2.1) (x.1.2.2.1)).wpR Q:=by kernel_rfl
theorem apP (pre:RY->Bool) (F:RY->OT mA.Y) (hF:∀ (x:RY) oy,pre x=true->(F x).run=some oy->(afL (x.1.1) (x.1.2.1) (x.1.2.2.1)).run=some oy):ac Tryz.prog 87 (mA.aH pre F):=
 aD aq OE aqy (f:=87) (fn:=Tryz.f87) (c:=aj Tryz.f87) (by kernel_rfl) (by kernel_rfl) (by kernel_rfl) (S:=mA) (k:=0) (by kernel_rfl) (λR hR=>af) (n:=1000) (sel:=aaL) (λv o h=>by cases h;rfl) (pre:=pre) (F:=F) (T:=λx=>afL (x.1.1) (x.1.2.1) (x.1.2.2.1)) (λx Q=>aIc x Q) hF
def xF (p:Nat) (x b:aa):aa:=zK p (bB p (bB p x x) x) b
def ux (x:RY):Bool:=ao x.1.1
def aw4 (x:RY):OT mA.Y:=.ok ⟨jO,((xF (pS x.1.1) x.1.2.1 x.1.2.2.1,()),())⟩
theorem aCC:ac Tryz.prog 87 (mA.aH ux aw4):=apP _ _ λx oy hp ho=>by
 rw [<-ho]
 clear ho
 obtain ⟨⟨s,a,b,⟨⟩⟩,⟨⟩⟩:=x
 have hs:ao s=true:=hp
 exact (OT.ap hs).trans ((OT.ap hs).trans ((OT.ap hs).trans rfl))
def FH:cf:=(mA.aH ux aw4)
theorem afK:ac Tryz.prog 87 FH:=aCC
theorem afJ:aF FH:=aA
def OI:Env:=ay 87 FH abZ
theorem GD:aQ Tryz.prog OI:=ag afK OE
theorem H4:ax OI:=ae afJ OG
theorem agR:aU Tryz.prog te OI:=aJ follows aq GD H4
def Io:aw:=⟨[.val false .int,.val true (.prod .elem (.prod .elem .bool))],[],true,0,false⟩
abbrev aIM:Type:=((Int)×((aa×(aa×Bool)))×Unit)×(Unit)
def xS:az:=⟨[.val false .bool],[],false⟩
def awN:SV->Option az:=λ_=>some xS
def aH4 (a0:Int) (a1:(aa×(aa×Bool))):OT Io.Y:=
 let z0:Bool:=ao a0
 let z1:Nat:=aa.nat (aY (Int.toNat a0)).fst
 let z2:aa:=bS a0
 let z3:Bool:=ux ((a0,a1.fst,z2,()),())
 let z4:Nat:=pS a0
 let z5:aa:=bB z4 a1.snd.fst a1.snd.fst
 let z6:aa:=xF z4 a1.fst z2
 let z7:=z6.w0
 let z8:=z6.w1
 let z9:=z6.w2
 let z10:=z6.w3
 (.br (z0)
 (.br (a1.snd.snd)
  (.ok ⟨xS,((a1.fst.w0==(0:UInt64)&&(a1.fst.w1==(0:UInt64)&&(a1.fst.w2==(0:UInt64)&&(a1.fst.w3==(0:UInt64)&&true)))&&(a1.snd.fst.w0==(0:UInt64)&&(a1.snd.fst.w1==(0:UInt64)&&(a1.snd.fst.w2==(0:UInt64)&&(a1.snd.fst.w3==(0:UInt64)&&true)))&&(a1.snd.snd==true&&true)),()),())⟩)
  (.br (z0)
   (.br (Nat.blt (aa.nat a1.fst) z1)
    (.br (Nat.blt (aa.nat a1.snd.fst) z1)
     (.br (z0)
      (gd [z3] (.ok ⟨xS,((z5.w0==z7&&(z5.w1==z8&&(z5.w2==z9&&(z5.w3==z10&&true))),()),())⟩))
      (gd [z3] (.ok ⟨xS,(((0:UInt64)==z7&&((0:UInt64)==z8&&((0:UInt64)==z9&&((0:UInt64)==z10&&true))),()),())⟩)))
     (.ok ⟨xS,((false,()),())⟩))
    (.ok ⟨xS,((false,()),())⟩))
   (.ok ⟨xS,((false,()),())⟩)))
 (.ok ⟨xS,((false,()),())⟩))
theorem aLc (x:aIM) (Q:Io.Y->Prop):wpf te OI av 1000 Tryz.f47 (Io.inp.inj x).tm (Io.inp.inj x).hp (fnK Io awN Q) (λ_ _=>False)=(aH4 (x.1.1) (x.1.2.1)).wpR Q:=by kernel_rfl
theorem aCv (pre:aIM->Bool) (F:aIM->OT Io.Y) (hF:∀ (x:aIM) oy,pre x=true->(F x).run=some oy->(aH4 (x.1.1) (x.1.2.1)).run=some oy):ac Tryz.prog 47 (Io.aH pre F):=
 aD aq GD agR (f:=47) (fn:=Tryz.f47) (c:=aj Tryz.f47) (by kernel_rfl) (by kernel_rfl) (by kernel_rfl) (S:=Io) (k:=0) (by kernel_rfl) (λR hR=>af) (n:=1000) (sel:=awN) (λv o h=>by cases h;rfl) (pre:=pre) (F:=F) (T:=λx=>aH4 (x.1.1) (x.1.2.1)) (λx Q=>aLc x Q) hF
def eqE (a b:aa):Bool:=(a.w0==b.w0&&(a.w1==b.w1&&(a.w2==b.w2&&(a.w3==b.w3&&true))))
theorem zr {a b:aa}:eqE a b=true ↔ a=b:=by
 obtain ⟨a0,a1,a2,a3⟩:=a
 obtain ⟨b0,b1,b2,b3⟩:=b
 simp [eqE]
theorem alr (a:aa):eqE a a=true:=zr.2 rfl
theorem awy (a b:aa):eqE a b=Nat.beq a.nat b.nat:=by
 cases h:eqE a b
 ·cases hb:Nat.beq a.nat b.nat
  ·rfl
  ·rw [zr.2 (qW (Nat.eq_of_beq_eq_true hb))] at h
   cases h
 ·rw [zr.1 h]
  exact (Nat.beq_refl _).symm
abbrev Pt:Type:=aa×(aa×Bool)
def onB (c:Int) (P:Pt):Bool:=cond (ao c) (cond P.2.2 (bN P.1&&(bN P.2.1&&(P.2.2==true&&true)))
 (cond (Nat.blt P.1.nat (pS c)) (cond (Nat.blt P.2.1.nat (pS c)) (eqE (bB (pS c) P.2.1 P.2.1) (xF (pS c) P.1 (bS c))) false) false)) false
def awO (_:aIM):Bool:=true
def aKb (x:aIM):OT Io.Y:=.ok ⟨xS,((onB x.1.1 x.1.2.1,()),())⟩
theorem aKa:ac Tryz.prog 47 (Io.aH awO aKb):=aCv _ _ λx oy _ ho=>by
 rw [<-ho]
 clear ho
 obtain ⟨⟨c,⟨X,Y,i⟩,⟨⟩⟩,⟨⟩⟩:=x
 show _=(OT.ok ⟨xS,((onB c (X,Y,i),()),())⟩:OT Io.Y).run
 unfold onB
 cases hs:ao c
 ·exact OT.ar hs
 ·refine (OT.ap hs).trans ?_
  cases i
  ·refine (OT.ar rfl).trans ((OT.ap hs).trans ?_)
   cases hx:Nat.blt X.nat (pS c)
   ·exact OT.ar hx
   ·refine (OT.ap hx).trans ?_
    cases hy:Nat.blt Y.nat (pS c)
    ·exact OT.ar hy
    ·refine (OT.ap hy).trans ((OT.ap hs).trans ((ah ?_).trans rfl))
     simp only [List.all_cons,List.all_nil,Bool.and_true]
     exact hs
  ·exact OT.ap rfl
theorem BF {c:Int} {P:Pt} (h:onB c P=true):ao c=true:=by
 unfold onB at h
 cases hs:ao c
 ·rw [hs] at h;cases h
 ·rfl
def VE:cf:=(Io.aH awO aKb)
theorem awP:ac Tryz.prog 47 VE:=aKa
theorem awM:aF VE:=aA
def ax4:Env:=ay 47 VE OI
theorem Wz:aQ Tryz.prog ax4:=ag awP GD
theorem SO:ax ax4:=ae awM H4
theorem ax3:aU Tryz.prog te ax4:=aJ follows aq Wz SO
def je:aw:=⟨[.val true (.prod .elem (.prod .elem .elem))],[],true,0,false⟩
abbrev FG:Type:=(((aa×(aa×aa)))×Unit)×(Unit)
def MN:az:=⟨[.val false .bool],[],false⟩
def RT:SV->Option az:=λ_=>some MN
def VI (a0:(aa×(aa×aa))):OT je.Y:=
 (.ok ⟨MN,((a0.snd.snd.w0==(0:UInt64)&&(a0.snd.snd.w1==(0:UInt64)&&(a0.snd.snd.w2==(0:UInt64)&&(a0.snd.snd.w3==(0:UInt64)&&true))),()),())⟩)
theorem aCB (x:FG) (Q:je.Y->Prop):wpf te ax4 av 1000 Tryz.f120 (je.inp.inj x).tm (je.inp.inj x).hp (fnK je RT Q) (λ_ _=>False)=(VI (x.1.1)).wpR Q:=by kernel_rfl
theorem afF (pre:FG->Bool) (F:FG->OT je.Y) (hF:∀ (x:FG) oy,pre x=true->(F x).run=some oy->(VI (x.1.1)).run=some oy):ac Tryz.prog 120 (je.aH pre F):=
 aD aq Wz ax3 (f:=120) (fn:=Tryz.f120) (c:=aj Tryz.f120) (by kernel_rfl) (by kernel_rfl) (by kernel_rfl) (S:=je) (k:=0) (by kernel_rfl) (λR hR=>af) (n:=1000) (sel:=RT) (λv o h=>by cases h;rfl) (pre:=pre) (F:=F) (T:=λx=>VI (x.1.1)) (λx Q=>aCB x Q) hF
abbrev Su:Type:=aa×(aa×aa)
def RU (_:FG):Bool:=true
def alD (x:FG):OT je.Y:=.ok ⟨MN,((bN x.1.1.2.2,()),())⟩
theorem awW:ac Tryz.prog 120 (je.aH RU alD):=afF _ _ λx oy hp ho=>by
 rw [<-ho]
 rfl
def zy:cf:=(je.aH RU alD)
theorem aaF:ac Tryz.prog 120 zy:=awW
theorem aaE:aF zy:=aA
def Dy:Env:=ay 120 zy ax4
theorem Ac:aQ Tryz.prog Dy:=ag aaF Wz
theorem Dx:ax Dy:=ae aaE SO
theorem abY:aU Tryz.prog te Dy:=aJ follows aq Ac Dx
def jb:aw:=⟨[.val true (.prod .elem (.prod .elem .bool))],[],true,0,false⟩
abbrev FD:Type:=(((aa×(aa×Bool)))×Unit)×(Unit)
def Ci:az:=⟨[.val true (.prod .elem (.prod .elem .elem))],[],false⟩
def RN:SV->Option az:=λ_=>some Ci
def VA (a0:(aa×(aa×Bool))):OT jb.Y:=
 let z0:aa:= {w0:=0,w1:=0,w2:=0,w3:=0}
 (.br (a0.snd.snd)
 (.ok ⟨Ci,(((z0,z0,z0),()),())⟩)
 (.ok ⟨Ci,(((a0.fst,a0.snd.fst,{w0:=1,w1:=0,w2:=0,w3:=0}),()),())⟩))
theorem aCt (x:FD) (Q:jb.Y->Prop):wpf te Dy av 1000 Tryz.f82 (jb.inp.inj x).tm (jb.inp.inj x).hp (fnK jb RN Q) (λ_ _=>False)=(VA (x.1.1)).wpR Q:=by kernel_rfl
theorem afA (pre:FD->Bool) (F:FD->OT jb.Y) (hF:∀ (x:FD) oy,pre x=true->(F x).run=some oy->(VA (x.1.1)).run=some oy):ac Tryz.prog 82 (jb.aH pre F):=
 aD aq Ac abY (f:=82) (fn:=Tryz.f82) (c:=aj Tryz.f82) (by kernel_rfl) (by kernel_rfl) (by kernel_rfl) (S:=jb) (k:=0) (by kernel_rfl) (λR hR=>af) (n:=1000) (sel:=RN) (λv o h=>by cases h;rfl) (pre:=pre) (F:=F) (T:=λx=>VA (x.1.1)) (λx Q=>aCt x Q) hF
def ln (P:Pt):Su:=cond P.2.2 (⟨0,0,0,0⟩,⟨0,0,0,0⟩,⟨0,0,0,0⟩) (P.1,P.2.1,⟨1,0,0,0⟩)
def RO (_:FD):Bool:=true
def alw (x:FD):OT jb.Y:=.ok ⟨Ci,((ln x.1.1,()),())⟩
theorem awH:ac Tryz.prog 82 (jb.aH RO alw):=afA _ _ λx oy hp ho=>by
 rw [<-ho]
 clear ho
 obtain ⟨⟨⟨X,Y,i⟩,⟨⟩⟩,⟨⟩⟩:=x
 cases i<;>rfl
def zw:cf:=(jb.aH RO alw)
theorem aav:ac Tryz.prog 82 zw:=awH
theorem aau:aF zw:=aA
def Du:Env:=ay 82 zw Dy
theorem Aa:aQ Tryz.prog Du:=ag aav Ac
theorem Dt:ax Du:=ae aau Dx
theorem abU:aU Tryz.prog te Du:=aJ follows aq Aa Dt
def um:aw:=⟨[.val false .int,.val true .elem,.val true .elem],[],true,0,false⟩
abbrev apI:Type:=((Int)×(aa)×(aa)×Unit)×(Unit)
def VH:az:=⟨[.val true .elem],[],false⟩
def alB:SV->Option az:=λ_=>some VH
def awT (a0:Int) (a1:aa) (a2:aa):OT um.Y:=
 (.br (ao a0)
 (.ok ⟨VH,((bB (pS a0) a1 a2,()),())⟩)
 (.ok ⟨VH,(({w0:=0,w1:=0,w2:=0,w3:=0},()),())⟩))
theorem aKd (x:apI) (Q:um.Y->Prop):wpf te Du av 1000 Tryz.f122 (um.inp.inj x).tm (um.inp.inj x).hp (fnK um alB Q) (λ_ _=>False)=(awT (x.1.1) (x.1.2.1) (x.1.2.2.1)).wpR Q:=by kernel_rfl
theorem awS (pre:apI->Bool) (F:apI->OT um.Y) (hF:∀ (x:apI) oy,pre x=true->(F x).run=some oy->(awT (x.1.1) (x.1.2.1) (x.1.2.2.1)).run=some oy):ac Tryz.prog 122 (um.aH pre F):=
 aD aq Aa abU (f:=122) (fn:=Tryz.f122) (c:=aj Tryz.f122) (by kernel_rfl) (by kernel_rfl) (by kernel_rfl) (S:=um) (k:=0) (by kernel_rfl) (λR hR=>af) (n:=1000) (sel:=alB) (λv o h=>by cases h;rfl) (pre:=pre) (F:=F) (T:=λx=>awT (x.1.1) (x.1.2.1) (x.1.2.2.1)) (λx Q=>aKd x Q) hF
def bI (x:apI):Bool:=ao x.1.1
def aD6 (x:apI):OT um.Y:=.ok ⟨VH,((bB (pS x.1.1) x.1.2.1 x.1.2.2.1,()),())⟩
theorem aH8:ac Tryz.prog 122 (um.aH bI aD6):=awS _ _ λx oy hp ho=>by
 rw [<-ho]
 clear ho
 obtain ⟨⟨s,a,b,⟨⟩⟩,⟨⟩⟩:=x
 have hs:ao s=true:=hp
 exact (OT.ap hs).trans rfl
def MM:cf:=(um.aH bI aD6)
theorem apH:ac Tryz.prog 122 MM:=aH8
theorem apG:aF MM:=aA
def abX:Env:=ay 122 MM Du
theorem OC:aQ Tryz.prog abX:=ag apH Aa
theorem OD:ax abX:=ae apG Dt
theorem aqx:aU Tryz.prog te abX:=aJ follows aq OC OD
def ui:aw:=⟨[.val false .int,.val true .elem,.val true .elem],[],true,0,false⟩
abbrev apB:Type:=((Int)×(aa)×(aa)×Unit)×(Unit)
def VC:az:=⟨[.val true .elem],[],false⟩
def aly:SV->Option az:=λ_=>some VC
def awK (a0:Int) (a1:aa) (a2:aa):OT ui.Y:=
 (.br (ao a0)
 (.ok ⟨VC,((mV (pS a0) a1 a2,()),())⟩)
 (.ok ⟨VC,(({w0:=0,w1:=0,w2:=0,w3:=0},()),())⟩))
theorem aJ9 (x:apB) (Q:ui.Y->Prop):wpf te abX av 1000 Tryz.f123 (ui.inp.inj x).tm (ui.inp.inj x).hp (fnK ui aly Q) (λ_ _=>False)=(awK (x.1.1) (x.1.2.1) (x.1.2.2.1)).wpR Q:=by kernel_rfl
theorem awJ (pre:apB->Bool) (F:apB->OT ui.Y) (hF:∀ (x:apB) oy,pre x=true->(F x).run=some oy->(awK (x.1.1) (x.1.2.1) (x.1.2.2.1)).run=some oy):ac Tryz.prog 123 (ui.aH pre F):=
 aD aq OC aqx (f:=123) (fn:=Tryz.f123) (c:=aj Tryz.f123) (by kernel_rfl) (by kernel_rfl) (by kernel_rfl) (S:=ui) (k:=0) (by kernel_rfl) (λR hR=>af) (n:=1000) (sel:=aly) (λv o h=>by cases h;rfl) (pre:=pre) (F:=F) (T:=λx=>awK (x.1.1) (x.1.2.1) (x.1.2.2.1)) (λx Q=>aJ9 x Q) hF
def jd (x:apB):Bool:=ao x.1.1
def aD5 (x:apB):OT ui.Y:=.ok ⟨VC,((mV (pS x.1.1) x.1.2.1 x.1.2.2.1,()),())⟩
theorem aH3:ac Tryz.prog 123 (ui.aH jd aD5):=awJ _ _ λx oy hp ho=>by
 rw [<-ho]
 clear ho
 obtain ⟨⟨s,a,b,⟨⟩⟩,⟨⟩⟩:=x
 have hs:ao s=true:=hp
 exact (OT.ap hs).trans rfl
def MI:cf:=(ui.aH jd aD5)
theorem apA:ac Tryz.prog 123 MI:=aH3
theorem apz:aF MI:=aA
def abW:Env:=ay 123 MI abX
theorem Oz:aQ Tryz.prog abW:=ag apA OC
theorem OA:ax abW:=ae apz OD
theorem aqw:aU Tryz.prog te abW:=aJ follows aq Oz OA
def jc:aw:=⟨[.val false .int,.val true .elem,.val false .u64],[],true,0,false⟩
abbrev FE:Type:=((Int)×(aa)×(UInt64)×Unit)×(Unit)
def MH:az:=⟨[.val true .elem],[],false⟩
def RP:SV->Option az:=λ_=>some MH
def VB (a0:Int) (a1:aa) (a2:UInt64):OT jc.Y:=
 let z0:aa:= {w0:=a2,w1:=0,w2:=0,w3:=0}
 (gd [bI ((a0,a1,z0,()),())] (.ok ⟨MH,((bB (pS a0) a1 z0,()),())⟩))
theorem aCu (x:FE) (Q:jc.Y->Prop):wpf te abW av 1000 Tryz.f124 (jc.inp.inj x).tm (jc.inp.inj x).hp (fnK jc RP Q) (λ_ _=>False)=(VB (x.1.1) (x.1.2.1) (x.1.2.2.1)).wpR Q:=by kernel_rfl
theorem afB (pre:FE->Bool) (F:FE->OT jc.Y) (hF:∀ (x:FE) oy,pre x=true->(F x).run=some oy->(VB (x.1.1) (x.1.2.1) (x.1.2.2.1)).run=some oy):ac Tryz.prog 124 (jc.aH pre F):=
 aD aq Oz aqw (f:=124) (fn:=Tryz.f124) (c:=aj Tryz.f124) (by kernel_rfl) (by kernel_rfl) (by kernel_rfl) (S:=jc) (k:=0) (by kernel_rfl) (λR hR=>af) (n:=1000) (sel:=RP) (λv o h=>by cases h;rfl) (pre:=pre) (F:=F) (T:=λx=>VB (x.1.1) (x.1.2.1) (x.1.2.2.1)) (λx Q=>aCu x Q) hF
def oe (p:Nat) (a:aa) (n:UInt64):aa:=bB p a ⟨n,0,0,0⟩
def hJ (x:FE):Bool:=ao x.1.1
def alx (x:FE):OT jc.Y:=.ok ⟨MH,((oe (pS x.1.1) x.1.2.1 x.1.2.2.1,()),())⟩
theorem awI:ac Tryz.prog 124 (jc.aH hJ alx):=afB _ _ λx oy hp ho=>by
 rw [<-ho]
 clear ho
 obtain ⟨⟨s,a,b,⟨⟩⟩,⟨⟩⟩:=x
 have hs:ao s=true:=hp
 refine (ah ?_).trans rfl
 simp only [List.all_cons,List.all_nil,Bool.and_true]
 exact hs
def zx:cf:=(jc.aH hJ alx)
theorem aax:ac Tryz.prog 124 zx:=awI
theorem aaw:aF zx:=aA
def Dw:Env:=ay 124 zx abW
theorem Ab:aQ Tryz.prog Dw:=ag aax Oz
theorem Dv:ax Dw:=ae aaw OA
theorem abV:aU Tryz.prog te Dw:=aJ follows aq Ab Dv
def fk:aw:=⟨[.val false .int,.val true (.prod .elem (.prod .elem .elem))],[],true,0,false⟩
abbrev wJ:Type:=((Int)×((aa×(aa×aa)))×Unit)×(Unit)
def jI:az:=⟨[.val true (.prod .elem (.prod .elem .bool))],[],false⟩
def MJ:SV->Option az:=λ_=>some jI
def MK (a0:Int) (a1:(aa×(aa×aa))):OT fk.Y:=
 let z0:aa:= {w0:=0,w1:=0,w2:=0,w3:=0}
 let z1:Nat:=pS a0
 let z2:aa×PUnit:=(z0,())
 let z3:Bool:=bI ((a0,z0,z2),())
 let z4:aa:=bB z1 z0 z0
 let z5:Bool:=bI ((a0,a1.fst,z4,()),())
 let z6:Bool:=bI ((a0,z4,z2),())
 let z7:aa:=bB z1 z4 z0
 let z8:Bool:=bI ((a0,a1.snd.fst,z7,()),())
 let z9:aa×aa×Bool:=(bB z1 a1.fst z4,bB z1 a1.snd.fst z7,false)
 let z10:aa:=aBU z1 a1.snd.snd
 let z11:aa×PUnit:=(z10,())
 let z12:aa:=bB z1 z10 z10
 let z13:aa:=bB z1 z12 z10
 (.br (bN a1.snd.snd)
 (.ok ⟨jI,(((z0,z0,true),()),())⟩)
 (.br (ao a0)
  (.br (Nat.beq (aa.nat a1.snd.snd%z1) 0)
   (gd [z3,z5,z6,z8] (.ok ⟨jI,((z9,()),())⟩))
   (gd [bI ((a0,z10,z11),()),bI ((a0,a1.fst,z12,()),()),bI ((a0,z12,z11),()),bI ((a0,a1.snd.fst,z13,()),())] (.ok ⟨jI,(((bB z1 a1.fst z12,bB z1 a1.snd.fst z13,false),()),())⟩)))
  (gd [z3,z5,z6,z8] (.ok ⟨jI,((z9,()),())⟩))))
theorem awQ (x:wJ) (Q:fk.Y->Prop):wpf te Dw av 1000 Tryz.f80 (fk.inp.inj x).tm (fk.inp.inj x).hp (fnK fk MJ Q) (λ_ _=>False)=(MK (x.1.1) (x.1.2.1)).wpR Q:=by kernel_rfl
theorem aaA (pre:wJ->Bool) (F:wJ->OT fk.Y) (hF:∀ (x:wJ) oy,pre x=true->(F x).run=some oy->(MK (x.1.1) (x.1.2.1)).run=some oy):ac Tryz.prog 80 (fk.aH pre F):=
 aD aq Ab abV (f:=80) (fn:=Tryz.f80) (c:=aj Tryz.f80) (by kernel_rfl) (by kernel_rfl) (by kernel_rfl) (S:=fk) (k:=0) (by kernel_rfl) (λR hR=>af) (n:=1000) (sel:=MJ) (λv o h=>by cases h;rfl) (pre:=pre) (F:=F) (T:=λx=>MK (x.1.1) (x.1.2.1)) (λx Q=>awQ x Q) hF
def aHm (p:Nat) (a:aa):aa:=cond (Nat.beq (a.nat%p) 0) ⟨0,0,0,0⟩ (aBU p a)
def aG1 (p:Nat) (x y i:aa):Pt:=(bB p x (bB p i i),bB p y (bB p (bB p i i) i),false)
def n0 (p:Nat) (w:Su):Pt:=cond (bN w.2.2) bD (aG1 p w.1 w.2.1 (aHm p w.2.2))
def my (x:wJ):Bool:=ao x.1.1
def aaB (x:wJ):OT fk.Y:=.ok ⟨jI,((n0 (pS x.1.1) x.1.2.1,()),())⟩
theorem apE:ac Tryz.prog 80 (fk.aH my aaB):=aaA _ _ λx oy hp ho=>by
 rw [<-ho]
 clear ho
 obtain ⟨⟨c,⟨X,Y,Z⟩,⟨⟩⟩,⟨⟩⟩:=x
 have hs:ao c=true:=hp
 show _=(OT.ok ⟨jI,((n0 (pS c) (X,Y,Z),()),())⟩:OT fk.Y).run
 unfold n0
 dsimp only
 cases hz:bN Z
 ·refine (OT.ar hz).trans ((OT.ap hs).trans ?_)
  unfold aHm
  cases hb:Nat.beq (Z.nat%pS c) 0
  ·refine (OT.ar rfl).trans ((ah ?_).trans rfl)
   simp only [List.all_cons,List.all_nil,Bool.and_true,Bool.and_eq_true]
   exact ⟨hs,hs,hs,hs⟩
  ·refine (OT.ap rfl).trans ((ah ?_).trans rfl)
   simp only [List.all_cons,List.all_nil,Bool.and_true,Bool.and_eq_true]
   exact ⟨hs,hs,hs,hs⟩
 ·exact OT.ap hz
def ul:cf:=(fk.aH my aaB)
theorem VG:ac Tryz.prog 80 ul:=apE
theorem VF:aF ul:=aA
def ve:Env:=ay 80 ul Dw
theorem vd:aQ Tryz.prog ve:=ag VG Ab
theorem yl:ax ve:=ae VF Dv
theorem WA:aU Tryz.prog te ve:=aJ follows aq vd yl
def fm:aw:=⟨[.val false .int,.val true (.prod .elem (.prod .elem .elem))],[],true,0,false⟩
abbrev wN:Type:=((Int)×((aa×(aa×aa)))×Unit)×(Unit)
def pI:az:=⟨[.val true (.prod .elem (.prod .elem .elem))],[],false⟩
def MP:SV->Option az:=λ_=>some pI
def MQ (a0:Int) (a1:(aa×(aa×aa))):OT fm.Y:=
 let z0:Nat:=pS a0
 let z1:aa:=bB z0 a1.snd.fst a1.snd.fst
 let z2:aa×PUnit:=(z1,())
 let z3:aa:=bB z0 a1.fst z1
 let z4:aa:=bB z0 a1.fst a1.fst
 let z5:aa:=oe z0 z4 (3:UInt64)
 let z6:aa:=oe z0 z3 (4:UInt64)
 let z7:UInt64×PUnit:=((2:UInt64),())
 let z8:aa:=bB z0 z5 z5
 let z9:aa:=oe z0 z6 (2:UInt64)
 let z10:aa:=mV z0 z8 z9
 let z11:aa:=mV z0 z6 z10
 let z12:aa:=bB z0 z1 z1
 let z13:aa:=bB z0 z5 z11
 let z14:aa:=oe z0 z12 (8:UInt64)
 let z15:aa:=bB z0 a1.snd.fst a1.snd.snd
 (.br (bN a1.snd.snd)
 (.ok ⟨pI,((a1,()),())⟩)
 (gd [bI ((a0,a1.snd.fst,a1.snd.fst,()),()),bI ((a0,a1.fst,z2),()),hJ ((a0,z3,(4:UInt64),()),()),bI ((a0,a1.fst,a1.fst,()),()),hJ ((a0,z4,(3:UInt64),()),()),bI ((a0,z5,z5,()),()),hJ ((a0,z6,z7),()),jd ((a0,z8,z9,()),()),jd ((a0,z6,z10,()),()),bI ((a0,z5,z11,()),()),bI ((a0,z1,z2),()),hJ ((a0,z12,(8:UInt64),()),()),jd ((a0,z13,z14,()),()),bI ((a0,a1.snd.fst,a1.snd.snd,()),()),hJ ((a0,z15,z7),())] (.ok ⟨pI,(((z10,mV z0 z13 z14,oe z0 z15 (2:UInt64)),()),())⟩)))
theorem aw2 (x:wN) (Q:fm.Y->Prop):wpf te ve av 1000 Tryz.f83 (fm.inp.inj x).tm (fm.inp.inj x).hp (fnK fm MP Q) (λ_ _=>False)=(MQ (x.1.1) (x.1.2.1)).wpR Q:=by kernel_rfl
theorem aaG (pre:wN->Bool) (F:wN->OT fm.Y) (hF:∀ (x:wN) oy,pre x=true->(F x).run=some oy->(MQ (x.1.1) (x.1.2.1)).run=some oy):ac Tryz.prog 83 (fm.aH pre F):=
 aD aq vd WA (f:=83) (fn:=Tryz.f83) (c:=aj Tryz.f83) (by kernel_rfl) (by kernel_rfl) (by kernel_rfl) (S:=fm) (k:=0) (by kernel_rfl) (λR hR=>af) (n:=1000) (sel:=MP) (λv o h=>by cases h;rfl) (pre:=pre) (F:=F) (T:=λx=>MQ (x.1.1) (x.1.2.1)) (λx Q=>aw2 x Q) hF
def aLD (p:Nat) (x y z:aa):Su:=
 let yy:=bB p y y
 let s:=oe p (bB p x yy) 4
 let m:=oe p (bB p x x) 3
 let x':=mV p (bB p m m) (oe p s 2)
 (x',mV p (bB p m (mV p s x')) (oe p (bB p yy yy) 8),oe p (bB p y z) 2)
def aya (p:Nat) (w:Su):Su:=cond (bN w.2.2) w (aLD p w.1 w.2.1 w.2.2)
def rr (x:wN):Bool:=ao x.1.1
def aaH (x:wN):OT fm.Y:=.ok ⟨pI,((aya (pS x.1.1) x.1.2.1,()),())⟩
theorem apO:ac Tryz.prog 83 (fm.aH rr aaH):=aaG _ _ λx oy hp ho=>by
 rw [<-ho]
 clear ho
 obtain ⟨⟨c,⟨X,Y,Z⟩,⟨⟩⟩,⟨⟩⟩:=x
 have hs:ao c=true:=hp
 show _=(OT.ok ⟨pI,((aya (pS c) (X,Y,Z),()),())⟩:OT fm.Y).run
 unfold aya
 dsimp only
 cases hz:bN Z
 ·refine (OT.ar hz).trans ((ah ?_).trans rfl)
  simp only [List.all_cons,List.all_nil,Bool.and_true,Bool.and_eq_true]
  exact ⟨hs,hs,hs,hs,hs,hs,hs,hs,hs,hs,hs,hs,hs,hs,hs⟩
 ·exact OT.ap hz
def uu:cf:=(fm.aH rr aaH)
theorem VL:ac Tryz.prog 83 uu:=apO
theorem VK:aF uu:=aA
def vg:Env:=ay 83 uu ve
theorem vf:aQ Tryz.prog vg:=ag VL vd
theorem ym:ax vg:=ae VK yl
theorem WB:aU Tryz.prog te vg:=aJ follows aq vf ym
def kz:aw:=⟨[.val false .int,.val true (.prod .elem (.prod .elem .elem)),.val true (.prod .elem (.prod .elem .elem))],[],true,0,false⟩
abbrev R3:Type:=((Int)×((aa×(aa×aa)))×((aa×(aa×aa)))×Unit)×(Unit)
def nH:az:=⟨[.val true (.prod .elem (.prod .elem .elem))],[],false⟩
def aaO:SV->Option az:=λ_=>some nH
def afP (a0:Int) (a1:(aa×(aa×aa))) (a2:(aa×(aa×aa))):OT kz.Y:=
 let z0:aa×PUnit:=(a1.snd.snd,())
 let z1:aa×PUnit:=(a2.snd.snd,())
 let z2:Nat:=pS a0
 let z3:aa:=bB z2 a2.snd.snd a2.snd.snd
 let z4:aa:=bB z2 a1.snd.snd a1.snd.snd
 let z5:aa:=bB z2 z3 a2.snd.snd
 let z6:aa:=bB z2 z4 a1.snd.snd
 let z7:aa:=bB z2 a2.fst z4
 let z8:aa:=bB z2 a1.fst z3
 let z9:aa:=bB z2 a2.snd.fst z6
 let z10:aa:=bB z2 a1.snd.fst z5
 let z11:aa:=mV z2 z7 z8
 let z12:aa:=mV z2 z9 z10
 let z13:aa:= {w0:=0,w1:=0,w2:=0,w3:=0}
 let z14:aa×PUnit:=(z11,())
 let z15:aa:=bB z2 z11 z11
 let z16:aa:=bB z2 z12 z12
 let z17:aa:=bB z2 z15 z11
 let z18:aa×PUnit:=(z17,())
 let z19:aa:=bB z2 z8 z15
 let z20:aa:=mV z2 z16 z17
 let z21:aa:=oe z2 z19 (2:UInt64)
 let z22:aa:=mV z2 z20 z21
 let z23:aa:=mV z2 z19 z22
 let z24:aa:=bB z2 z12 z23
 let z25:aa:=bB z2 z10 z17
 let z26:aa:=bB z2 a1.snd.snd a2.snd.snd
 (.br (bN a1.snd.snd)
 (.ok ⟨nH,((a2,()),())⟩)
 (.br (bN a2.snd.snd)
  (.ok ⟨nH,((a1,()),())⟩)
  (gd [bI ((a0,a1.snd.snd,z0),()),bI ((a0,a2.snd.snd,z1),()),bI ((a0,a1.fst,z3,()),()),bI ((a0,a2.fst,z4,()),()),bI ((a0,z3,z1),()),bI ((a0,a1.snd.fst,z5,()),()),bI ((a0,z4,z0),()),bI ((a0,a2.snd.fst,z6,()),()),jd ((a0,z7,z8,()),()),jd ((a0,z9,z10,()),())] (.br (z11.w0==(0:UInt64)&&(z11.w1==(0:UInt64)&&(z11.w2==(0:UInt64)&&(z11.w3==(0:UInt64)&&true))))
   (.br (z12.w0==(0:UInt64)&&(z12.w1==(0:UInt64)&&(z12.w2==(0:UInt64)&&(z12.w3==(0:UInt64)&&true))))
    (gd [rr ((a0,a1,()),())] (.ok ⟨nH,((aya z2 a1,()),())⟩))
    (.ok ⟨nH,(((z13,z13,z13),()),())⟩))
   (gd [bI ((a0,z11,z14),()),bI ((a0,z15,z14),()),bI ((a0,z8,z15,()),()),bI ((a0,z12,z12,()),()),jd ((a0,z16,z18),()),hJ ((a0,z19,(2:UInt64),()),()),jd ((a0,z20,z21,()),()),jd ((a0,z19,z22,()),()),bI ((a0,z12,z23,()),()),bI ((a0,z10,z18),()),jd ((a0,z24,z25,()),()),bI ((a0,a1.snd.snd,z1),()),bI ((a0,z11,z26,()),())] (.ok ⟨nH,(((z22,mV z2 z24 z25,bB z2 z11 z26),()),())⟩))))))
theorem aIe (x:R3) (Q:kz.Y->Prop):wpf te vg av 1000 Tryz.f81 (kz.inp.inj x).tm (kz.inp.inj x).hp (fnK kz aaO Q) (λ_ _=>False)=(afP (x.1.1) (x.1.2.1) (x.1.2.2.1)).wpR Q:=by kernel_rfl
theorem apU (pre:R3->Bool) (F:R3->OT kz.Y) (hF:∀ (x:R3) oy,pre x=true->(F x).run=some oy->(afP (x.1.1) (x.1.2.1) (x.1.2.2.1)).run=some oy):ac Tryz.prog 81 (kz.aH pre F):=
 aD aq vf WB (f:=81) (fn:=Tryz.f81) (c:=aj Tryz.f81) (by kernel_rfl) (by kernel_rfl) (by kernel_rfl) (S:=kz) (k:=0) (by kernel_rfl) (λR hR=>af) (n:=1000) (sel:=aaO) (λv o h=>by cases h;rfl) (pre:=pre) (F:=F) (T:=λx=>afP (x.1.1) (x.1.2.1) (x.1.2.2.1)) (λx Q=>aIe x Q) hF
def aLE (p:Nat) (u s h r Z1 Z2:aa):Su:=
 let hh:=bB p h h
 let hhh:=bB p hh h
 let c:=bB p u hh
 let x:=mV p (mV p (bB p r r) hhh) (oe p c 2)
 (x,mV p (bB p r (mV p c x)) (bB p s hhh),bB p h (bB p Z1 Z2))
def aLu (p:Nat) (w:Su) (u s h r Z2:aa):Su:=cond (bN h) (cond (bN r) (aya p w) (⟨0,0,0,0⟩,⟨0,0,0,0⟩,⟨0,0,0,0⟩)) (aLE p u s h r w.2.2 Z2)
def aLv (p:Nat) (w v:Su):Su:=
 let pz:=bB p w.2.2 w.2.2
 let qz:=bB p v.2.2 v.2.2
 let u:=bB p w.1 qz
 let s:=bB p w.2.1 (bB p qz v.2.2)
 aLu p w u s (mV p (bB p v.1 pz) u) (mV p (bB p v.2.1 (bB p pz w.2.2)) s) v.2.2
def aDc (p:Nat) (w v:Su):Su:=cond (bN w.2.2) v (cond (bN v.2.2) w (aLv p w v))
def Cm (x:R3):Bool:=ao x.1.1
def aw9 (x:R3):OT kz.Y:=.ok ⟨nH,((aDc (pS x.1.1) x.1.2.1 x.1.2.2.1,()),())⟩
theorem aCF:ac Tryz.prog 81 (kz.aH Cm aw9):=apU _ _ λx oy hp ho=>by
 rw [<-ho]
 clear ho
 obtain ⟨⟨c,⟨X,Y,Z⟩,⟨X2,Y2,Z2⟩,⟨⟩⟩,⟨⟩⟩:=x
 have hs:ao c=true:=hp
 show _=(OT.ok ⟨nH,((aDc (pS c) (X,Y,Z) (X2,Y2,Z2),()),())⟩:OT kz.Y).run
 unfold aDc
 dsimp only
 cases hz:bN Z
 ·refine (OT.ar hz).trans ?_
  cases hz2:bN Z2
  ·refine (OT.ar rfl).trans ((ah ?_).trans ?_)
   ·simp only [List.all_cons,List.all_nil,Bool.and_true,Bool.and_eq_true]
    exact ⟨hs,hs,hs,hs,hs,hs,hs,hs,hs,hs⟩
   ·unfold aLv aLu
    dsimp only [cond_false]
    cases hh:bN (mV (pS c) (bB (pS c) X2 (bB (pS c) Z Z)) (bB (pS c) X (bB (pS c) Z2 Z2)))
    ·refine (OT.ar hh).trans ((ah ?_).trans rfl)
     simp only [List.all_cons,List.all_nil,Bool.and_true,Bool.and_eq_true]
     exact ⟨hs,hs,hs,hs,hs,hs,hs,hs,hs,hs,hs,hs,hs⟩
    ·refine (OT.ap hh).trans ?_
     dsimp only [cond_true]
     cases hr:bN (mV (pS c) (bB (pS c) Y2 (bB (pS c) (bB (pS c) Z Z) Z)) (bB (pS c) Y (bB (pS c) (bB (pS c) Z2 Z2) Z2)))
     ·exact OT.ar hr
     ·refine (OT.ap hr).trans ((ah ?_).trans rfl)
      simp only [List.all_cons,List.all_nil,Bool.and_true]
      exact hs
  ·exact OT.ap rfl
 ·exact OT.ap hz
def FK:cf:=(kz.aH Cm aw9)
theorem afO:ac Tryz.prog 81 FK:=aCF
theorem afN:aF FK:=aA
def OK:Env:=ay 81 FK vg
theorem GF:aQ Tryz.prog OK:=ag afO vf
theorem H5:ax OK:=ae afN ym
theorem agS:aU Tryz.prog te OK:=aJ follows aq GF H5
def sb:aw:=⟨[.val false .int,.val true (.prod .elem (.prod .elem .bool)),.val true (.prod .elem (.prod .elem .bool))],[],true,0,false⟩
abbrev apT:Type:=((Int)×((aa×(aa×Bool)))×((aa×(aa×Bool)))×Unit)×(Unit)
def FJ:az:=⟨[.val true (.prod .elem (.prod .elem .bool))],[],false⟩
def alJ:SV->Option az:=λ_=>some FJ
def aw8 (a0:Int) (a1:(aa×(aa×Bool))) (a2:(aa×(aa×Bool))):OT sb.Y:=
 let z0:aa:= {w0:=0,w1:=0,w2:=0,w3:=0}
 let z1:aa×aa×Bool:=(z0,z0,true)
 let z2:aa×aa×aa:=ln a1
 let z3:aa×aa×aa:=ln a2
 let z4:Nat:=pS a0
 let z5:aa×aa×aa:=aDc z4 z2 z3
 (.br (!onB a0 a1)
 (.ok ⟨FJ,((z1,()),())⟩)
 (.br (!onB a0 a2)
  (.ok ⟨FJ,((z1,()),())⟩)
  (gd [Cm ((a0,z2,z3,()),()),my ((a0,z5,()),())] (.ok ⟨FJ,((n0 z4 z5,()),())⟩))))
theorem aKg (x:apT) (Q:sb.Y->Prop):wpf te OK av 1000 Tryz.f44 (sb.inp.inj x).tm (sb.inp.inj x).hp (fnK sb alJ Q) (λ_ _=>False)=(aw8 (x.1.1) (x.1.2.1) (x.1.2.2.1)).wpR Q:=by kernel_rfl
theorem aw7 (pre:apT->Bool) (F:apT->OT sb.Y) (hF:∀ (x:apT) oy,pre x=true->(F x).run=some oy->(aw8 (x.1.1) (x.1.2.1) (x.1.2.2.1)).run=some oy):ac Tryz.prog 44 (sb.aH pre F):=
 aD aq GF agS (f:=44) (fn:=Tryz.f44) (c:=aj Tryz.f44) (by kernel_rfl) (by kernel_rfl) (by kernel_rfl) (S:=sb) (k:=0) (by kernel_rfl) (λR hR=>af) (n:=1000) (sel:=alJ) (λv o h=>by cases h;rfl) (pre:=pre) (F:=F) (T:=λx=>aw8 (x.1.1) (x.1.2.1) (x.1.2.2.1)) (λx Q=>aKg x Q) hF
def kW (c:Int) (P Q:Pt):Pt:=cond (onB c P) (cond (onB c Q) (n0 (pS c) (aDc (pS c) (ln P) (ln Q))) bD) bD
def alK (_:apT):Bool:=true
def aD8 (x:apT):OT sb.Y:=.ok ⟨FJ,((kW x.1.1 x.1.2.1 x.1.2.2.1,()),())⟩
theorem aId:ac Tryz.prog 44 (sb.aH alK aD8):=aw7 _ _ λx oy _ ho=>by
 rw [<-ho]
 clear ho
 obtain ⟨⟨c,P,Q,⟨⟩⟩,⟨⟩⟩:=x
 show _=(OT.ok ⟨FJ,((kW c P Q,()),())⟩:OT sb.Y).run
 rcases (Bool.eq_false_or_eq_true (onB c P)).symm with h1|h1
 ·have e:kW c P Q=bD:=by unfold kW;rw [h1];rfl
  rw [e]
  exact OT.ap (b:= !onB c P) (by rw [h1];rfl)
 ·have hs:=BF h1
  refine (OT.ar (b:= !onB c P) (by rw [h1];rfl)).trans ?_
  rcases (Bool.eq_false_or_eq_true (onB c Q)).symm with h2|h2
  ·have e:kW c P Q=bD:=by unfold kW;rw [h1,h2];rfl
   rw [e]
   exact OT.ap (b:= !onB c Q) (by rw [h2];rfl)
  ·have e:kW c P Q=n0 (pS c) (aDc (pS c) (ln P) (ln Q)):=by unfold kW;rw [h1,h2];rfl
   rw [e]
   refine (OT.ar (b:= !onB c Q) (by rw [h2];rfl)).trans ((ah ?_).trans rfl)
   simp only [List.all_cons,List.all_nil,Bool.and_true,Bool.and_eq_true]
   exact ⟨hs,hs⟩
def MT:cf:=(sb.aH alK aD8)
theorem apS:ac Tryz.prog 44 MT:=aId
theorem apR:aF MT:=aA
def SQ:Env:=ay 44 MT OK
theorem DC:aQ Tryz.prog SQ:=ag apS GF
theorem OJ:ax SQ:=ae apR H5
theorem SP:aU Tryz.prog te SQ:=aJ follows aq DC OJ
def ky:aw:=⟨[.val false .int,.val true .elem,.val true (.prod .elem (.prod .elem .bool))],[],true,0,false⟩
abbrev RS:Type:=((Int)×(aa)×((aa×(aa×Bool)))×Unit)×(Unit)
def Cj:Shape:=⟨39,[(4,.ptr 0 0 0),(5,.ptr 1 0 0),(6,.ptr 2 0 0),(7,.val false .int),(8,.ptr 3 0 0),(9,.val false .int)],[(0,.row .u64),(1,.cells [.val false .u64,.val false .u64,.val false .u64,.val false .u64,.val false .u64,.val false .u64,.val false .u64,.val false .u64,.val false .bool]),(2,.cells [.val false .u64,.val false .u64,.val false .u64,.val false .u64,.val false .u64,.val false .u64,.val false .u64,.val false .u64,.val false .bool]),(3,.cells [.val false .u64,.val false .u64,.val false .u64,.val false .u64,.val false .u64,.val false .u64,.val false .u64,.val false .u64,.val false .u64,.val false .u64,.val false .u64,.val false .u64])],0,true⟩
abbrev cU:Type:=((Unit)×(Unit)×(Unit)×(Int)×(Unit)×(Int)×Unit)×((List (UInt64))×((UInt64)×(UInt64)×(UInt64)×(UInt64)×(UInt64)×(UInt64)×(UInt64)×(UInt64)×(Bool)×Unit)×((UInt64)×(UInt64)×(UInt64)×(UInt64)×(UInt64)×(UInt64)×(UInt64)×(UInt64)×(Bool)×Unit)×((UInt64)×(UInt64)×(UInt64)×(UInt64)×(UInt64)×(UInt64)×(UInt64)×(UInt64)×(UInt64)×(UInt64)×(UInt64)×(UInt64)×Unit)×Unit)
def wL:Shape:=⟨39,[(6,.ptr 0 0 0),(7,.val false .int),(8,.ptr 1 0 0)],[(0,.cells [.val false .u64,.val false .u64,.val false .u64,.val false .u64,.val false .u64,.val false .u64,.val false .u64,.val false .u64,.val false .bool]),(1,.cells [.val false .u64,.val false .u64,.val false .u64,.val false .u64,.val false .u64,.val false .u64,.val false .u64,.val false .u64,.val false .u64,.val false .u64,.val false .u64,.val false .u64])],0,true⟩
abbrev mz:Type:=((Unit)×(Int)×(Unit)×Unit)×(((UInt64)×(UInt64)×(UInt64)×(UInt64)×(UInt64)×(UInt64)×(UInt64)×(UInt64)×(Bool)×Unit)×((UInt64)×(UInt64)×(UInt64)×(UInt64)×(UInt64)×(UInt64)×(UInt64)×(UInt64)×(UInt64)×(UInt64)×(UInt64)×(UInt64)×Unit)×Unit)
def alz:SE->Option Shape:=fp [(0,wL)] none
def aCz (a7:Int) (a9:Int) (c0:List (UInt64)) (c1_0:UInt64) (c1_1:UInt64) (c1_2:UInt64) (c1_3:UInt64) (c1_4:UInt64) (c1_5:UInt64) (c1_6:UInt64) (c1_7:UInt64) (c1_8:Bool) (c2_0:UInt64) (c2_1:UInt64) (c2_2:UInt64) (c2_3:UInt64) (c2_4:UInt64) (c2_5:UInt64) (c2_6:UInt64) (c2_7:UInt64) (c2_8:Bool) (c3_0:UInt64) (c3_1:UInt64) (c3_2:UInt64) (c3_3:UInt64) (c3_4:UInt64) (c3_5:UInt64) (c3_6:UInt64) (c3_7:UInt64) (c3_8:UInt64) (c3_9:UInt64) (c3_10:UInt64) (c3_11:UInt64):OT (Sum cU aE):=
 let z0:aa×aa×aa:=({w0:=c3_0,w1:=c3_1,w2:=c3_2,w3:=c3_3},{w0:=c3_4,w1:=c3_5,w2:=c3_6,w3:=c3_7},{w0:=c3_8,w1:=c3_9,w2:=c3_10,w3:=c3_11})
 let z1:Nat:=pS a7
 let z2:aa×aa×aa:=aya z1 z0
 let z3:aa×aa×aa:=ln ({w0:=c1_0,w1:=c1_1,w2:=c1_2,w3:=c1_3},{w0:=c1_4,w1:=c1_5,w2:=c1_6,w3:=c1_7},c1_8)
 let z4:Bool:=inR (a9-(1:Int))
 let z5:aa×aa×aa:=aDc z1 z2 z3
 let z6:=z5.fst
 let z7:=z5.snd
 let z8:=z7.fst
 let z9:=z7.snd
 let z10:=z2.fst
 let z11:=z2.snd
 let z12:=z11.fst
 let z13:=z11.snd
 (.br (decide ((0:Int)<=a9))
 (gd [rr ((a7,z0,()),()),decide (4<=List.length c0)] (.br (xT {w0:=List.getD c0 0 0,w1:=List.getD c0 1 0,w2:=List.getD c0 2 0,w3:=List.getD c0 3 0} a9)
  (gd [Cm ((a7,z2,z3,()),()),z4] (.ok (.inl (((),((),((),(a7,((),(a9-(1:Int),())))))),(c0,((c1_0,(c1_1,(c1_2,(c1_3,(c1_4,(c1_5,(c1_6,(c1_7,(c1_8,()))))))))),((c2_0,(c2_1,(c2_2,(c2_3,(c2_4,(c2_5,(c2_6,(c2_7,(c2_8,()))))))))),((z6.w0,(z6.w1,(z6.w2,(z6.w3,(z8.w0,(z8.w1,(z8.w2,(z8.w3,(z9.w0,(z9.w1,(z9.w2,(z9.w3,())))))))))))),()))))))))
  (gd [z4] (.ok (.inl (((),((),((),(a7,((),(a9-(1:Int),())))))),(c0,((c1_0,(c1_1,(c1_2,(c1_3,(c1_4,(c1_5,(c1_6,(c1_7,(c1_8,()))))))))),((c2_0,(c2_1,(c2_2,(c2_3,(c2_4,(c2_5,(c2_6,(c2_7,(c2_8,()))))))))),((z10.w0,(z10.w1,(z10.w2,(z10.w3,(z12.w0,(z12.w1,(z12.w2,(z12.w3,(z13.w0,(z13.w1,(z13.w2,(z13.w3,())))))))))))),()))))))))))
 (.ok (.inr ⟨(.exit 0,wL),(((),(a7,((),()))),((c2_0,(c2_1,(c2_2,(c2_3,(c2_4,(c2_5,(c2_6,(c2_7,(c2_8,()))))))))),((c3_0,(c3_1,(c3_2,(c3_3,(c3_4,(c3_5,(c3_6,(c3_7,(c3_8,(c3_9,(c3_10,(c3_11,())))))))))))),())))⟩)))
def Ck (s:cU):OT (Sum cU aE):=aCz (s.1.2.2.2.1) (s.1.2.2.2.2.2.1) (s.2.1) (s.2.2.1.1) (s.2.2.1.2.1) (s.2.2.1.2.2.1) (s.2.2.1.2.2.2.1) (s.2.2.1.2.2.2.2.1) (s.2.2.1.2.2.2.2.2.1) (s.2.2.1.2.2.2.2.2.2.1) (s.2.2.1.2.2.2.2.2.2.2.1) (s.2.2.1.2.2.2.2.2.2.2.2.1) (s.2.2.2.1.1) (s.2.2.2.1.2.1) (s.2.2.2.1.2.2.1) (s.2.2.2.1.2.2.2.1) (s.2.2.2.1.2.2.2.2.1) (s.2.2.2.1.2.2.2.2.2.1) (s.2.2.2.1.2.2.2.2.2.2.1) (s.2.2.2.1.2.2.2.2.2.2.2.1) (s.2.2.2.1.2.2.2.2.2.2.2.2.1) (s.2.2.2.2.1.1) (s.2.2.2.2.1.2.1) (s.2.2.2.2.1.2.2.1) (s.2.2.2.2.1.2.2.2.1) (s.2.2.2.2.1.2.2.2.2.1) (s.2.2.2.2.1.2.2.2.2.2.1) (s.2.2.2.2.1.2.2.2.2.2.2.1) (s.2.2.2.2.1.2.2.2.2.2.2.2.1) (s.2.2.2.2.1.2.2.2.2.2.2.2.2.1) (s.2.2.2.2.1.2.2.2.2.2.2.2.2.2.1) (s.2.2.2.2.1.2.2.2.2.2.2.2.2.2.2.1) (s.2.2.2.2.1.2.2.2.2.2.2.2.2.2.2.2.1)
theorem aCw (s:cU) (Q:Sum cU aE->Prop):wps te SQ av 1000 (aV (aj Tryz.f45) 0) (Cj.inj s) (bV Cj alz (Q:Sum Cj.T aE->Prop))=(Ck s).wpR Q:=by kernel_rfl
def I6 (g0_0:cU->mz) (s:cU):OT aE:=(.ok ⟨(.exit 0,wL),g0_0 s⟩)
def wK:az:=⟨[.val true (.prod .elem (.prod .elem .bool))],[],false⟩
def aaC:SV->Option az:=λ_=>some wK
def afE (ok0:cU->Bool) (g0_0:cU->mz) (a0:Int) (a1:aa) (a2:(aa×(aa×Bool))):OT ky.Y:=
 let z0:aa:= {w0:=0,w1:=0,w2:=0,w3:=0}
 let z1:Int:=aqD a0 (1:Int)
 let z2:PUnit×PUnit×PUnit×Int×PUnit×Int×PUnit:=((),(),(),a0,(),(255:Int),())
 let z3:aa:=zK (pS z1) a1 z0
 let z4:(UInt64×UInt64×UInt64×UInt64×UInt64×UInt64×UInt64×UInt64×Bool×PUnit)×(UInt64×UInt64×UInt64×UInt64×UInt64×UInt64×UInt64×UInt64×Bool×PUnit)×(UInt64×UInt64×UInt64×UInt64×UInt64×UInt64×UInt64×UInt64×UInt64×UInt64×UInt64×UInt64×PUnit)×PUnit:=((a2.fst.w0,a2.fst.w1,a2.fst.w2,a2.fst.w3,a2.snd.fst.w0,a2.snd.fst.w1,a2.snd.fst.w2,a2.snd.fst.w3,a2.snd.snd,()),((0:UInt64),(0:UInt64),(0:UInt64),(0:UInt64),(0:UInt64),(0:UInt64),(0:UInt64),(0:UInt64),false,()),((0:UInt64),(0:UInt64),(0:UInt64),(0:UInt64),(0:UInt64),(0:UInt64),(0:UInt64),(0:UInt64),(0:UInt64),(0:UInt64),(0:UInt64),(0:UInt64),()),())
 let z5:(PUnit×PUnit×PUnit×Int×PUnit×Int×PUnit)×List UInt64×(UInt64×UInt64×UInt64×UInt64×UInt64×UInt64×UInt64×UInt64×Bool×PUnit)×(UInt64×UInt64×UInt64×UInt64×UInt64×UInt64×UInt64×UInt64×Bool×PUnit)×(UInt64×UInt64×UInt64×UInt64×UInt64×UInt64×UInt64×UInt64×UInt64×UInt64×UInt64×UInt64×PUnit)×PUnit:=(z2,[z3.w0,z3.w1,z3.w2,z3.w3],z4)
 let z6:(PUnit×Int×PUnit×PUnit)×(UInt64×UInt64×UInt64×UInt64×UInt64×UInt64×UInt64×UInt64×Bool×PUnit)×(UInt64×UInt64×UInt64×UInt64×UInt64×UInt64×UInt64×UInt64×UInt64×UInt64×UInt64×UInt64×PUnit)×PUnit:=g0_0 z5
 let z7:=z6.fst.snd.fst
 let z8:=z6.snd.snd.fst
 let z9:=z8.snd
 let z10:=z9.snd
 let z11:=z10.snd
 let z12:=z11.snd
 let z13:=z12.snd
 let z14:=z13.snd
 let z15:=z14.snd
 let z16:=z15.snd
 let z17:=z16.snd
 let z18:=z17.snd
 let z19:aa×aa×aa:=({w0:=z8.fst,w1:=z9.fst,w2:=z10.fst,w3:=z11.fst},{w0:=z12.fst,w1:=z13.fst,w2:=z14.fst,w3:=z15.fst},{w0:=z16.fst,w1:=z17.fst,w2:=z18.fst,w3:=z18.snd.fst})
 let z20:(PUnit×PUnit×PUnit×Int×PUnit×Int×PUnit)×List UInt64×(UInt64×UInt64×UInt64×UInt64×UInt64×UInt64×UInt64×UInt64×Bool×PUnit)×(UInt64×UInt64×UInt64×UInt64×UInt64×UInt64×UInt64×UInt64×Bool×PUnit)×(UInt64×UInt64×UInt64×UInt64×UInt64×UInt64×UInt64×UInt64×UInt64×UInt64×UInt64×UInt64×PUnit)×PUnit:=(z2,[(0:UInt64),(0:UInt64),(0:UInt64),(0:UInt64)],z4)
 let z21:(PUnit×Int×PUnit×PUnit)×(UInt64×UInt64×UInt64×UInt64×UInt64×UInt64×UInt64×UInt64×Bool×PUnit)×(UInt64×UInt64×UInt64×UInt64×UInt64×UInt64×UInt64×UInt64×UInt64×UInt64×UInt64×UInt64×PUnit)×PUnit:=g0_0 z20
 let z22:=z21.fst.snd.fst
 let z23:=z21.snd.snd.fst
 let z24:=z23.snd
 let z25:=z24.snd
 let z26:=z25.snd
 let z27:=z26.snd
 let z28:=z27.snd
 let z29:=z28.snd
 let z30:=z29.snd
 let z31:=z30.snd
 let z32:=z31.snd
 let z33:=z32.snd
 let z34:aa×aa×aa:=({w0:=z23.fst,w1:=z24.fst,w2:=z25.fst,w3:=z26.fst},{w0:=z27.fst,w1:=z28.fst,w2:=z29.fst,w3:=z30.fst},{w0:=z31.fst,w1:=z32.fst,w2:=z33.fst,w3:=z33.snd.fst})
 (.br (!onB a0 a2)
 (.ok ⟨wK,(((z0,z0,true),()),())⟩)
 (.br (ao z1)
  (gd [ok0 z5,my ((z7,z19,()),())] (.ok ⟨wK,((n0 (pS z7) z19,()),())⟩))
  (gd [ok0 z20,my ((z22,z34,()),())] (.ok ⟨wK,((n0 (pS z22) z34,()),())⟩))))
theorem aH7 (ok0:cU->Bool) (g0_0:cU->mz) (x:RS) (Q:ky.Y->Prop):wpf te SQ (aO 0 (cb Cj 0 ok0 (I6 g0_0)) av) 1000 Tryz.f45 (ky.inp.inj x).tm (ky.inp.inj x).hp (fnK ky aaC Q) (λ_ _=>False)=(afE ok0 g0_0 (x.1.1) (x.1.2.1) (x.1.2.2.1)).wpR Q:=by kernel_rfl
theorem apF (ok0:cU->Bool) (g0_0:cU->mz) (h0:∀ s:cU,ok0 s=true->∃ m e,al (Ck) m s=some e/\(I6 g0_0 s).run=some e) (pre:RS->Bool) (F:RS->OT ky.Y) (hF:∀ (x:RS) oy,pre x=true->(F x).run=some oy->(afE ok0 g0_0 (x.1.1) (x.1.2.1) (x.1.2.2.1)).run=some oy):ac Tryz.prog 45 (ky.aH pre F):=
 aD aq DC SP (f:=45) (fn:=Tryz.f45) (c:=aj Tryz.f45) (by kernel_rfl) (by kernel_rfl) (by kernel_rfl) (S:=ky) (k:=0) (by kernel_rfl) (λR hR=>(aB (c:=(aj Tryz.f45)) (by kernel_rfl) (id:=0) (by kernel_rfl) (aS aq DC SP (sh:=Cj) hR (xs:=alz) (aC (by kernel_rfl) (by kernel_rfl) hR) aK af (n:=1000) (T:=Ck) (λs Q=>aCw s Q) (ok:=ok0) (f:=I6 g0_0) h0) af)) (n:=1000) (sel:=aaC) (λv o h=>by cases h;rfl) (pre:=pre) (F:=F) (T:=λx=>afE ok0 g0_0 (x.1.1) (x.1.2.1) (x.1.2.2.1)) (λx Q=>aH7 ok0 g0_0 x Q) hF
abbrev C9:Type:=UInt64×UInt64×UInt64×UInt64×UInt64×UInt64×UInt64×UInt64×Bool×Unit
abbrev C12:Type:=UInt64×UInt64×UInt64×UInt64×UInt64×UInt64×UInt64×UInt64×UInt64×UInt64×UInt64×UInt64×Unit
def n5 (t:C9):Pt:=(⟨t.1,t.2.1,t.2.2.1,t.2.2.2.1⟩,⟨t.2.2.2.2.1,t.2.2.2.2.2.1,t.2.2.2.2.2.2.1,t.2.2.2.2.2.2.2.1⟩,t.2.2.2.2.2.2.2.2.1)
def aKf (t:C12):Su:=(⟨t.1,t.2.1,t.2.2.1,t.2.2.2.1⟩,⟨t.2.2.2.2.1,t.2.2.2.2.2.1,t.2.2.2.2.2.2.1,t.2.2.2.2.2.2.2.1⟩,⟨t.2.2.2.2.2.2.2.2.1,t.2.2.2.2.2.2.2.2.2.1,t.2.2.2.2.2.2.2.2.2.2.1,t.2.2.2.2.2.2.2.2.2.2.2.1⟩)
def aHH (w:Su):C12:=(w.1.w0,w.1.w1,w.1.w2,w.1.w3,w.2.1.w0,w.2.1.w1,w.2.1.w2,w.2.1.w3,w.2.2.w0,w.2.2.w1,w.2.2.w2,w.2.2.w3,())
def zb (p:Nat) (k:aa) (P:Su) (n:Nat) (w:Su):Su:=cond (xT k (255-(n:Int))) (aDc p (aya p w) P) (aya p w)
def ML (s:cU):Bool:=ao s.1.2.2.2.1&&decide (s.1.2.2.2.2.2.1=255/\s.2.1.length=4)
def alA (s:cU):mz:=(((),s.1.2.2.2.1,(),()),(s.2.2.2.1,aHH (upto (zb (pS s.1.2.2.2.1) (elemOf s.2.1) (ln (n5 s.2.2.1))) (aKf s.2.2.2.2.1) 256),()))
theorem aCy:∀ s:cU,ML s=true->∃ m e,al Ck m s=some e/\(I6 alA s).run=some e:=by
 rintro ⟨⟨⟨⟩,⟨⟩,⟨⟩,c,⟨⟩,i,⟨⟩⟩,⟨l,⟨p0,p1,p2,p3,p4,p5,p6,p7,p8,⟨⟩⟩,⟨q0,q1,q2,q3,q4,q5,q6,q7,q8,⟨⟩⟩,⟨w0,w1,w2,w3,w4,w5,w6,w7,w8,w9,w10,w11,⟨⟩⟩,⟨⟩⟩⟩ h
 simp only [ML,Bool.and_eq_true,decide_eq_true_eq] at h
 obtain ⟨hs,rfl,hl⟩:=h
 obtain ⟨k,rfl⟩:∃ a,l=lst a:=⟨elemOf l,(aR hl).symm⟩
 have:=(aP (T:=Ck) (λn w=>((((),(),(),c,(),255-(n:Int),()),(lst k,(p0,p1,p2,p3,p4,p5,p6,p7,p8,()),(q0,q1,q2,q3,q4,q5,q6,q7,q8,()),aHH w,())):cU)) (zb (pS c) k (ln (n5 (p0,p1,p2,p3,p4,p5,p6,p7,p8,()))))
  (λw=>(⟨(.exit 0,wL),(((),c,(),()),((q0,q1,q2,q3,q4,q5,q6,q7,q8,()),aHH w,()))⟩:aE)) 256 (aKf (w0,w1,w2,w3,w4,w5,w6,w7,w8,w9,w10,w11,())) (λ_ _=>True) trivial (λn w hn _=>⟨?_,trivial⟩) (λw _=> ?_)).1
 ·obtain ⟨m,hm⟩:=this
  exact ⟨m,_,hm,rfl⟩
 ·have e2:(255:Int)-(n:Int)-1=255-((n+1:Nat):Int):=by omega
  refine (OT.ap (decide_eq_true (by dsimp only;omega))).trans ((ah ?_).trans ?_)
  ·simp only [List.all_cons,List.all_nil,Bool.and_true,Bool.and_eq_true]
   exact ⟨hs,rfl⟩
  ·rcases (Bool.eq_false_or_eq_true (xT k (255-(n:Int)))).symm with hb|hb
   ·have e:zb (pS c) k (ln (n5 (p0,p1,p2,p3,p4,p5,p6,p7,p8,()))) n w=aya (pS c) w:=by unfold zb;rw [hb];rfl
    rw [e,<-e2]
    refine (OT.ar hb).trans ((ah ?_).trans rfl)
    simp only [List.all_cons,List.all_nil,Bool.and_true]
    exact aI (by omega)
   ·have e:zb (pS c) k (ln (n5 (p0,p1,p2,p3,p4,p5,p6,p7,p8,()))) n w=aDc (pS c) (aya (pS c) w) (ln (n5 (p0,p1,p2,p3,p4,p5,p6,p7,p8,()))):=by unfold zb;rw [hb];rfl
    rw [e,<-e2]
    refine (OT.ap hb).trans ((ah ?_).trans rfl)
    simp only [List.all_cons,List.all_nil,Bool.and_true,Bool.and_eq_true]
    exact ⟨hs,aI (by omega)⟩
 ·exact OT.ar (decide_eq_false (by dsimp only;omega))
def aKO:Su:=(⟨0,0,0,0⟩,⟨0,0,0,0⟩,⟨0,0,0,0⟩)
def aLr (p:Nat) (k:aa) (P:Su):Su:=upto (zb p k P) aKO 256
def acJ (c:Int) (k:aa):aa:=zK (pS (aqD c 1)) k ⟨0,0,0,0⟩
def Zi (c:Int) (k:aa) (P:Pt):Pt:=cond (onB c P) (n0 (pS c) (aLr (pS c) (acJ c k) (ln P))) bD
theorem D5 {c:Int} (h:ao c=true):ao (aqD c 1)=true:=by
 rcases cn h with rfl|rfl|rfl|rfl<;>decide+kernel
def aaD (_:RS):Bool:=true
def awR (x:RS):OT ky.Y:=.ok ⟨wK,((Zi x.1.1 x.1.2.1 x.1.2.2.1,()),())⟩
theorem aCx:ac Tryz.prog 45 (ky.aH aaD awR):=apF ML alA aCy _ _ λx oy _ ho=>by
 rw [<-ho]
 clear ho
 obtain ⟨⟨c,k,P,⟨⟩⟩,⟨⟩⟩:=x
 show _=(OT.ok ⟨wK,((Zi c k P,()),())⟩:OT ky.Y).run
 rcases (Bool.eq_false_or_eq_true (onB c P)).symm with h1|h1
 ·have e:Zi c k P=bD:=by unfold Zi;rw [h1];rfl
  rw [e]
  exact OT.ap (b:= !onB c P) (by rw [h1];rfl)
 ·have hs:=BF h1
  have e:Zi c k P=n0 (pS c) (aLr (pS c) (acJ c k) (ln P)):=by unfold Zi;rw [h1];rfl
  rw [e]
  refine (OT.ar (b:= !onB c P) (by rw [h1];rfl)).trans ((OT.ap (D5 hs)).trans ((ah ?_).trans ?_))
  ·simp only [List.all_cons,List.all_nil,Bool.and_true,Bool.and_eq_true]
   refine ⟨?_,hs⟩
   refine (Bool.and_eq_true _ _).mpr ⟨hs,?_⟩
   exact decide_eq_true (p:=(255:Int)=255/\(lst (acJ c k)).length=4) ⟨rfl,rfl⟩
  ·rfl
def FF:cf:=(ky.aH aaD awR)
theorem afD:ac Tryz.prog 45 FF:=aCx
theorem afC:aF FF:=aA
def OB:Env:=ay 45 FF SQ
theorem GB:aQ Tryz.prog OB:=ag afD DC
theorem H3:ax OB:=ae afC OJ
theorem agQ:aU Tryz.prog te OB:=aJ follows aq GB H3
def iu:aw:=⟨[.val false .int],[],true,0,false⟩
abbrev GQ:Type:=((Int)×Unit)×(Unit)
def kK:az:=⟨[.val true .elem,.val false .int],[],false⟩
def Yf:SV->Option az:=λ_=>some kK
def adH (a0:Int):OT iu.Y:=
 (.br (a0==(0:Int))
 (.ok ⟨kK,(({w0:=16513537,w1:=0,w2:=0,w3:=0},((0:Int),())),())⟩)
 (.br (a0==(1:Int))
  (.ok ⟨kK,(({w0:=16521217,w1:=0,w2:=0,w3:=0},((0:Int),())),())⟩)
  (.br (a0==(2:Int))
   (.ok ⟨kK,(({w0:=11037532056220336129,w1:=2469829653914515739,w2:=0,w3:=4611686018427387904},((0:Int),())),())⟩)
   (.br (a0==(3:Int))
    (.ok ⟨kK,(({w0:=10108024940646105089,w1:=2469829653919213789,w2:=0,w3:=4611686018427387904},((0:Int),())),())⟩)
    (.ok ⟨kK,(({w0:=0,w1:=0,w2:=0,w3:=0},((20:Int),())),())⟩)))))
theorem aGC (x:GQ) (Q:iu.Y->Prop):wpf te OB av 1000 Tryz.f92 (iu.inp.inj x).tm (iu.inp.inj x).hp (fnK iu Yf Q) (λ_ _=>False)=(adH (x.1.1)).wpR Q:=by kernel_rfl
theorem ana (pre:GQ->Bool) (F:GQ->OT iu.Y) (hF:∀ (x:GQ) oy,pre x=true->(F x).run=some oy->(adH (x.1.1)).run=some oy):ac Tryz.prog 92 (iu.aH pre F):=
 aD aq GB agQ (f:=92) (fn:=Tryz.f92) (c:=aj Tryz.f92) (by kernel_rfl) (by kernel_rfl) (by kernel_rfl) (S:=iu) (k:=0) (by kernel_rfl) (λR hR=>af) (n:=1000) (sel:=Yf) (λv o h=>by cases h;rfl) (pre:=pre) (F:=F) (T:=λx=>adH (x.1.1)) (λx Q=>aGC x Q) hF
def Yg (_:GQ):Bool:=true
def at4 (x:GQ):OT iu.Y:=.br (ao x.1.1) (.ok ⟨kK,(((aY x.1.1.toNat).1,((0:Int),())),())⟩) (.ok ⟨kK,((⟨0,0,0,0⟩,((20:Int),())),())⟩)
theorem ajR:ac Tryz.prog 92 (iu.aH Yg at4):=ana _ _ λx oy _ ho=>by
 rw [<-ho]
 clear ho
 obtain ⟨⟨s,⟨⟩⟩,⟨⟩⟩:=x
 cases hs:ao s
 ·obtain ⟨h0,h1,h2,h3⟩:=vm hs
  exact (OT.ar h0).trans ((OT.ar h1).trans ((OT.ar h2).trans ((OT.ar h3).trans (OT.ar (b:=ao s) hs).symm)))
 ·rcases cn hs with h|h|h|h
  all_goals
   have h:s=_:=h
   subst h
   rfl
def Ez:cf:=(iu.aH Yg at4)
theorem adG:ac Tryz.prog 92 Ez:=ajR
theorem adF:aF Ez:=aA
def NO:Env:=ay 92 Ez OB
theorem Gg:aQ Tryz.prog NO:=ag adG GB
theorem HC:ax NO:=ae adF H3
theorem agD:aU Tryz.prog te NO:=aJ follows aq Gg HC
def iA:aw:=⟨[.val false .int],[],true,0,false⟩
abbrev GX:Type:=((Int)×Unit)×(Unit)
def qQ:az:=⟨[.val false .int,.val false .int],[],false⟩
def Yw:SV->Option az:=λ_=>some qQ
def ad7 (a0:Int):OT iA.Y:=
 (.br (decide (a0<(0:Int)))
 (.ok ⟨qQ,(((0:Int),((20:Int),())),())⟩)
 (.br (decide ((3:Int)<a0))
  (.ok ⟨qQ,(((0:Int),((20:Int),())),())⟩)
  (gd [inB a0 4,decide (Int.toNat a0+0<4)] (.ok ⟨qQ,((List.getD [(9:Int),(11:Int),(32:Int),(32:Int)] (Int.toNat a0+0) (0:Int),((0:Int),())),())⟩))))
theorem aGI (x:GX) (Q:iA.Y->Prop):wpf te NO av 1000 Tryz.f131 (iA.inp.inj x).tm (iA.inp.inj x).hp (fnK iA Yw Q) (λ_ _=>False)=(ad7 (x.1.1)).wpR Q:=by kernel_rfl
theorem anu (pre:GX->Bool) (F:GX->OT iA.Y) (hF:∀ (x:GX) oy,pre x=true->(F x).run=some oy->(ad7 (x.1.1)).run=some oy):ac Tryz.prog 131 (iA.aH pre F):=
 aD aq Gg agD (f:=131) (fn:=Tryz.f131) (c:=aj Tryz.f131) (by kernel_rfl) (by kernel_rfl) (by kernel_rfl) (S:=iA) (k:=0) (by kernel_rfl) (λR hR=>af) (n:=1000) (sel:=Yw) (λv o h=>by cases h;rfl) (pre:=pre) (F:=F) (T:=λx=>ad7 (x.1.1)) (λx Q=>aGI x Q) hF
def Yx (_:GX):Bool:=true
def aui (x:GX):OT iA.Y:=.br (ao x.1.1) (.ok ⟨qQ,(((aY x.1.1.toNat).2.1,((0:Int),())),())⟩) (.ok ⟨qQ,(((0:Int),((20:Int),())),())⟩)
theorem aj0:ac Tryz.prog 131 (iA.aH Yx aui):=anu _ _ λx oy _ ho=>by
 rw [<-ho]
 clear ho
 obtain ⟨⟨s,⟨⟩⟩,⟨⟩⟩:=x
 rcases (Bool.eq_false_or_eq_true (ao s)).symm with hs|hs
 ·refine Eq.trans ?_ (OT.ar (b:=ao s) hs).symm
  by_cases h0:s<0
  ·exact OT.ap (decide_eq_true h0)
  ·refine (OT.ar (decide_eq_false h0)).trans (OT.ap (decide_eq_true ?_))
   show (3:Int)<s
   simp only [ao,Bool.and_eq_false_iff,decide_eq_false_iff_not] at hs
   omega
 ·rcases cn hs with h|h|h|h
  all_goals
   have h:s=_:=h
   subst h
   rfl
def EK:cf:=(iA.aH Yx aui)
theorem ad6:ac Tryz.prog 131 EK:=aj0
theorem ad5:aF EK:=aA
def NV:Env:=ay 131 EK NO
theorem Gm:aQ Tryz.prog NV:=ag ad6 Gg
theorem HI:ax NV:=ae ad5 HC
theorem agH:aU Tryz.prog te NV:=aJ follows aq Gm HI
def kj:aw:=⟨[.val false .int],[],true,0,false⟩
abbrev Qw:Type:=((Int)×Unit)×(Unit)
def Bo:az:=⟨[.val false .u64],[],false⟩
def Yi:SV->Option az:=λ_=>some Bo
def adK (a0:Int):OT kj.Y:=
 (.br (a0==(0:Int))
 (.ok ⟨Bo,(((16513537:UInt64),()),())⟩)
 (.ok ⟨Bo,(((16521217:UInt64),()),())⟩))
theorem aGD (x:Qw) (Q:kj.Y->Prop):wpf te NV av 1000 Tryz.f102 (kj.inp.inj x).tm (kj.inp.inj x).hp (fnK kj Yi Q) (λ_ _=>False)=(adK (x.1.1)).wpR Q:=by kernel_rfl
theorem ang (pre:Qw->Bool) (F:Qw->OT kj.Y) (hF:∀ (x:Qw) oy,pre x=true->(F x).run=some oy->(adK (x.1.1)).run=some oy):ac Tryz.prog 102 (kj.aH pre F):=
 aD aq Gm agH (f:=102) (fn:=Tryz.f102) (c:=aj Tryz.f102) (by kernel_rfl) (by kernel_rfl) (by kernel_rfl) (S:=kj) (k:=0) (by kernel_rfl) (λR hR=>af) (n:=1000) (sel:=Yi) (λv o h=>by cases h;rfl) (pre:=pre) (F:=F) (T:=λx=>adK (x.1.1)) (λx Q=>aGD x Q) hF
def WJ (s:Int):UInt64:=cond (s==0) 16513537 16521217
def Yj (_:Qw):Bool:=true
def at6 (x:Qw):OT kj.Y:=.ok ⟨Bo,((WJ x.1.1,()),())⟩
theorem aA1:ac Tryz.prog 102 (kj.aH Yj at6):=ang _ _ λx oy _ ho=>by
 rw [<-ho]
 clear ho
 obtain ⟨⟨s,⟨⟩⟩,⟨⟩⟩:=x
 show _=(OT.ok ⟨Bo,((WJ s,()),())⟩:OT kj.Y).run
 unfold WJ
 rcases (Bool.eq_false_or_eq_true (s==0)).symm with h|h
 ·rw [h];exact OT.ar h
 ·rw [h];exact OT.ap h
def EB:cf:=(kj.aH Yj at6)
theorem adJ:ac Tryz.prog 102 EB:=aA1
theorem adI:aF EB:=aA
def Gh:Env:=ay 102 EB NV
theorem xm:aQ Tryz.prog Gh:=ag adJ Gm
theorem HD:ax Gh:=ae adI HI
theorem NP:aU Tryz.prog te Gh:=aJ follows aq xm HD
def eF:aw:=⟨[.val true .elem,.val true .elem],[],true,0,false⟩
abbrev vI:Type:=((aa)×(aa)×Unit)×(Unit)
def oN:Shape:=⟨24,[(2,.ptr 0 0 0),(3,.ptr 1 0 0),(5,.val false .int)],[(0,.row .u64),(1,.row .u64)],0,true⟩
abbrev bf:Type:=((Unit)×(Unit)×(Int)×Unit)×((List (UInt64))×(List (UInt64))×Unit)
def j3:Shape:=⟨24,[(4,.val false .bool)],[],0,true⟩
abbrev iy:Type:=((Bool)×Unit)×(Unit)
def m9:Shape:=⟨24,[],[],0,true⟩
abbrev iz:Type:=(Unit)×(Unit)
def QG:SE->Option Shape:=fp [(0,m9)] (some j3)
def ant (a5:Int) (c0:List (UInt64)) (c1:List (UInt64)):OT (Sum bf aE):=
 let z0:Bool:=inB a5 4
 let z1:Bool:=decide (Int.toNat a5+0<List.length c0)
 let z2:Bool:=decide (Int.toNat a5+0<List.length c1)
 let z3:UInt64:=List.getD c0 (Int.toNat a5+0) (0:UInt64)
 let z4:UInt64:=List.getD c1 (Int.toNat a5+0) (0:UInt64)
 (.br (decide ((0:Int)<=a5))
 (gd [z0,z1,z0,z2] (.br (!z3==z4)
  (gd [z0,z1,z0,z2] (.ok (.inr ⟨(.ret,j3),((decide (z3<z4),()),())⟩)))
  (gd [inR (a5-(1:Int))] (.ok (.inl (((),((),(a5-(1:Int),()))),(c0,(c1,()))))))))
 (.ok (.inr ⟨(.exit 0,m9),((),())⟩)))
def gk (s:bf):OT (Sum bf aE):=ant (s.1.2.2.1) (s.2.1) (s.2.2.1)
theorem anq (s:bf) (Q:Sum bf aE->Prop):wps te Gh av 1000 (aV (aj Tryz.f99) 0) (oN.inj s) (bV oN QG (Q:Sum oN.T aE->Prop))=(gk s).wpR Q:=by kernel_rfl
def oO (g0_r:bf->iy) (c0_r:bf->Bool) (g0_0:bf->iz) (s:bf):OT aE:=(.br (c0_r s) (.ok ⟨(.ret,j3),g0_r s⟩) (.ok ⟨(.exit 0,m9),g0_0 s⟩))
def k9:az:=⟨[.val false .bool],[],false⟩
def Kw:SV->Option az:=λ_=>some k9
def Kz (ok0:bf->Bool) (g0_r:bf->iy) (c0_r:bf->Bool) (g0_0:bf->iz) (a0:aa) (a1:aa):OT eF.Y:=
 let z0:(PUnit×PUnit×Int×PUnit)×List UInt64×List UInt64×PUnit:=(((),(),(3:Int),()),[a0.w0,a0.w1,a0.w2,a0.w3],[a1.w0,a1.w1,a1.w2,a1.w3],())
 (gd [ok0 z0] (.br (c0_r z0)
 (.ok ⟨k9,(((g0_r z0).fst.fst,()),())⟩)
 (.ok ⟨k9,((false,()),())⟩)))
theorem aug (ok0:bf->Bool) (g0_r:bf->iy) (c0_r:bf->Bool) (g0_0:bf->iz) (x:vI) (Q:eF.Y->Prop):wpf te Gh (aO 0 (cb oN 0 ok0 (oO g0_r c0_r g0_0)) av) 1000 Tryz.f99 (eF.inp.inj x).tm (eF.inp.inj x).hp (fnK eF Kw Q) (λ_ _=>False)=(Kz ok0 g0_r c0_r g0_0 (x.1.1) (x.1.2.1)).wpR Q:=by kernel_rfl
theorem Ys (ok0:bf->Bool) (g0_r:bf->iy) (c0_r:bf->Bool) (g0_0:bf->iz) (h0:∀ s:bf,ok0 s=true->∃ m e,al (gk) m s=some e/\(oO g0_r c0_r g0_0 s).run=some e) (pre:vI->Bool) (F:vI->OT eF.Y) (hF:∀ (x:vI) oy,pre x=true->(F x).run=some oy->(Kz ok0 g0_r c0_r g0_0 (x.1.1) (x.1.2.1)).run=some oy):ac Tryz.prog 99 (eF.aH pre F):=
 aD aq xm NP (f:=99) (fn:=Tryz.f99) (c:=aj Tryz.f99) (by kernel_rfl) (by kernel_rfl) (by kernel_rfl) (S:=eF) (k:=0) (by kernel_rfl) (λR hR=>(aB (c:=(aj Tryz.f99)) (by kernel_rfl) (id:=0) (by kernel_rfl) (aS aq xm NP (sh:=oN) hR (xs:=QG) (aC (by kernel_rfl) (by kernel_rfl) hR) aK af (n:=1000) (T:=gk) (λs Q=>anq s Q) (ok:=ok0) (f:=oO g0_r c0_r g0_0) h0) af)) (n:=1000) (sel:=Kw) (λv o h=>by cases h;rfl) (pre:=pre) (F:=F) (T:=λx=>Kz ok0 g0_r c0_r g0_0 (x.1.1) (x.1.2.1)) (λx Q=>aug ok0 g0_r c0_r g0_0 x Q) hF
theorem sa {x y N M:Nat} (hx:x<18446744073709551616) (hy:y<18446744073709551616) (h:¬N=M):(x+18446744073709551616*N<y+18446744073709551616*M ↔ N<M)/\¬x+18446744073709551616*N=y+18446744073709551616*M:=by
 omega
theorem Rr {x y N:Nat}:(x+18446744073709551616*N<y+18446744073709551616*N ↔ x<y)/\(¬x=y->¬x+18446744073709551616*N=y+18446744073709551616*N):=by
 omega
theorem uF {n m:Nat} {x y:UInt64} (h:n<m ↔ x.toNat<y.toNat):decide (x<y)=Nat.blt n m:=by
 have h1:Nat.blt n m=true ↔ n<m:=⟨ed,λh=>Nat.ble_eq_true_of_le h⟩
 rw [Bool.eq_iff_iff,decide_eq_true_iff,h1,h,UInt64.lt_iff_toNat_lt]
theorem Fb {x y:UInt64} (h:¬x=y):¬x.toNat=y.toNat:=λe=>h (UInt64.toNat_inj.1 e)
def dP (a b:aa) (i:Int):bf:=(((),(),i,()),(lst a,lst b,()))
theorem wQ (a b:aa) (k:Nat) (hk:k<4) (h:(lst a).getD k 0=(lst b).getD k 0):(gk (dP a b (k:Int))).run=some (.inl (dP a b ((k:Int)-1))):=by
 refine (OT.ap (decide_eq_true (by dsimp only [dP];omega))).trans ((ah ?_).trans ((OT.ar ?_).trans ((ah ?_).trans rfl)))
 ·simp only [dP,Int.toNat_natCast,Nat.add_zero,cA,List.all_cons,List.all_nil,Bool.and_true,Bool.and_eq_true]
  exact ⟨aN (by omega),decide_eq_true hk,aN (by omega),decide_eq_true hk⟩
 ·simp only [dP,Int.toNat_natCast,Nat.add_zero,h,beq_self_eq_true,Bool.not_true]
 ·simp only [dP,List.all_cons,List.all_nil,Bool.and_true]
  exact aI (by omega)
theorem nI (a b:aa) (k:Nat) (hk:k<4) (h:¬(lst a).getD k 0=(lst b).getD k 0):(gk (dP a b (k:Int))).run=some (.inr ⟨(.ret,j3),((decide ((lst a).getD k 0<(lst b).getD k 0),()),())⟩):=by
 refine (OT.ap (decide_eq_true (by dsimp only [dP];omega))).trans ((ah ?_).trans ((OT.ap ?_).trans ((ah ?_).trans ?_)))
 ·simp only [dP,Int.toNat_natCast,Nat.add_zero,cA,List.all_cons,List.all_nil,Bool.and_true,Bool.and_eq_true]
  exact ⟨aN (by omega),decide_eq_true hk,aN (by omega),decide_eq_true hk⟩
 ·simp only [dP,Int.toNat_natCast,Nat.add_zero,beq_eq_false_iff_ne.2 h,Bool.not_false]
 ·simp only [dP,Int.toNat_natCast,Nat.add_zero,cA,List.all_cons,List.all_nil,Bool.and_true,Bool.and_eq_true]
  exact ⟨aN (by omega),decide_eq_true hk,aN (by omega),decide_eq_true hk⟩
 ·simp only [dP,Int.toNat_natCast,Nat.add_zero]
  rfl
def Ky (s:bf):Bool:=decide (s.1.2.2.1=3/\s.2.1.length=4/\s.2.2.1.length=4)
def EH (s:bf):iy:=((Nat.blt (elemOf s.2.1).nat (elemOf s.2.2.1).nat,()),())
def l9 (s:bf):Bool:= !eqE (elemOf s.2.1) (elemOf s.2.2.1)
def EI (_:bf):iz:=((),())
theorem Cu {a b:aa} (h:¬a=b) {r:Bool} (hr:r=Nat.blt a.nat b.nat) (hm:∃ m,al gk m (dP a b 3)=some ⟨(.ret,j3),((r,()),())⟩):
 ∃ m e,al gk m (dP a b 3)=some e/\(oO EH l9 EI (dP a b 3)).run=some e:=by
 obtain ⟨m,hm⟩:=hm
 refine ⟨m,_,hm,?_⟩
 have hc:l9 (dP a b 3)=true:=by
  show (!eqE a b)=true
  rw [Bool.eq_false_iff.2 λe=>h (zr.1 e)]
  rfl
 subst hr
 exact OT.ap hc
theorem ans:∀ s:bf,Ky s=true->∃ m e,al gk m s=some e/\(oO EH l9 EI s).run=some e:=by
 rintro ⟨⟨⟨⟩,⟨⟩,i,⟨⟩⟩,⟨l1,l2,⟨⟩⟩⟩ h
 have h':=of_decide_eq_true h
 dsimp only at h'
 obtain ⟨rfl,h1,h2⟩:=h'
 obtain ⟨a,rfl⟩:∃ a,l1=lst a:=⟨elemOf l1,(aR h1).symm⟩
 obtain ⟨b,rfl⟩:∃ a,l2=lst a:=⟨elemOf l2,(aR h2).symm⟩
 have ha0:=a.w0.toNat_lt
 have hb0:=b.w0.toNat_lt
 have ha1:=a.w1.toNat_lt
 have hb1:=b.w1.toNat_lt
 have ha2:=a.w2.toNat_lt
 have hb2:=b.w2.toNat_lt
 by_cases h3:a.w3=b.w3
 ·have s3:=wQ a b 3 (by omega) h3
  by_cases h2:a.w2=b.w2
  ·have s2:=wQ a b 2 (by omega) h2
   by_cases h1:a.w1=b.w1
   ·have s1:=wQ a b 1 (by omega) h1
    by_cases h0:a.w0=b.w0
    ·have s0:=wQ a b 0 (by omega) h0
     have e:a=b:=by cases a;cases b;simp_all
     have sx:(gk (dP a b (((0:Nat):Int)-1))).run=some (.inr ⟨(.exit 0,m9),((),())⟩):=OT.ar (decide_eq_false (by dsimp only [dP];omega))
     refine ⟨_,_,aG s3 (aG s2 (aG s1 (aG s0 (aM sx)))),?_⟩
     have hc:l9 (((),(),3,()),(lst a,lst b,()))=false:=by
      show (!eqE a b)=false
      rw [e,alr]
      rfl
     exact OT.ar hc
    ·refine Cu (λe=>h0 (by rw [e])) (uF ?_) ⟨_,aG s3 (aG s2 (aG s1 (aM (nI a b 0 (by omega) h0))))⟩
     show a.nat<b.nat ↔ a.w0.toNat<b.w0.toNat
     unfold Sx.aa.nat
     rw [h3,h2,h1]
     exact Rr.1
   ·refine Cu (λe=>h1 (by rw [e])) (uF ?_) ⟨_,aG s3 (aG s2 (aM (nI a b 1 (by omega) h1)))⟩
    show a.nat<b.nat ↔ a.w1.toNat<b.w1.toNat
    unfold Sx.aa.nat
    rw [h3,h2]
    have k:=Rr (x:=a.w1.toNat) (y:=b.w1.toNat) (N:=b.w2.toNat+18446744073709551616*b.w3.toNat)
    exact (sa ha0 hb0 (k.2 (Fb h1))).1.trans k.1
  ·refine Cu (λe=>h2 (by rw [e])) (uF ?_) ⟨_,aG s3 (aM (nI a b 2 (by omega) h2))⟩
   show a.nat<b.nat ↔ a.w2.toNat<b.w2.toNat
   unfold Sx.aa.nat
   rw [h3]
   have k:=Rr (x:=a.w2.toNat) (y:=b.w2.toNat) (N:=b.w3.toNat)
   have k1:=sa ha1 hb1 (k.2 (Fb h2))
   exact (sa ha0 hb0 k1.2).1.trans (k1.1.trans k.1)
 ·refine Cu (λe=>h3 (by rw [e])) (uF ?_) ⟨_,aM (nI a b 3 (by omega) h3)⟩
  show a.nat<b.nat ↔ a.w3.toNat<b.w3.toNat
  unfold Sx.aa.nat
  have k2:=sa ha2 hb2 (Fb h3)
  have k1:=sa ha1 hb1 k2.2
  exact (sa ha0 hb0 k1.2).1.trans (k1.1.trans k2.1)
def Kx (_:vI):Bool:=true
def Yt (x:vI):OT eF.Y:=.ok ⟨k9,((Nat.blt x.1.1.nat x.1.2.1.nat,()),())⟩
theorem anr:ac Tryz.prog 99 (eF.aH Kx Yt):=Ys Ky EH l9 EI ans _ _ λx oy _ ho=>by
 rw [<-ho]
 clear ho
 obtain ⟨⟨a,b,⟨⟩⟩,⟨⟩⟩:=x
 refine (ah ?_).trans ?_
 ·simp only [List.all_cons,List.all_nil,Bool.and_true]
  exact decide_eq_true ⟨rfl,rfl,rfl⟩
 ·rcases (Bool.eq_false_or_eq_true (eqE a b)).symm with h|h
  ·have hc:l9 (((),(),3,()),(lst a,lst b,()))=true:=by
    show (!eqE a b)=true
    rw [h]
    rfl
   exact OT.ap hc
  ·have hc:l9 (((),(),3,()),(lst a,lst b,()))=false:=by
    show (!eqE a b)=false
    rw [h]
    rfl
   refine (OT.ar hc).trans ?_
   have e:Nat.blt a.nat b.nat=false:=by
    rw [zr.1 h]
    cases hb:Nat.blt b.nat b.nat
    ·rfl
    ·exact absurd (ed hb) (Nat.lt_irrefl _)
   show (OT.ok ⟨k9,((false,()),())⟩:OT eF.Y).run=(OT.ok ⟨k9,((Nat.blt a.nat b.nat,()),())⟩:OT eF.Y).run
   rw [e]
def s8:cf:=(eF.aH Kx Yt)
theorem T6:ac Tryz.prog 99 s8:=anr
theorem T5:aF s8:=aA
def pZ:Env:=ay 99 s8 Gh
theorem nL:aQ Tryz.prog pZ:=ag T6 xm
theorem xY:ax pZ:=ae T5 HD
theorem C6:aU Tryz.prog te pZ:=aJ follows aq nL xY
def fJ:aw:=⟨[.val true .elem,.val true .elem],[],true,0,false⟩
abbrev vE:Type:=((aa)×(aa)×Unit)×(Unit)
def oF:Shape:=⟨39,[(2,.ptr 0 0 0),(3,.ptr 1 0 0),(4,.ptr 2 0 0),(5,.ptr 3 0 0),(6,.val false .u64),(7,.val false .int)],[(0,.row .u64),(1,.row .u64),(2,.row .u64),(3,.row .u64)],0,true⟩
abbrev bQ:Type:=((Unit)×(Unit)×(Unit)×(Unit)×(UInt64)×(Int)×Unit)×((List (UInt64))×(List (UInt64))×(List (UInt64))×(List (UInt64))×Unit)
def m6:Shape:=⟨39,[(4,.ptr 0 0 0),(5,.ptr 1 0 0)],[(0,.row .u64),(1,.row .u64)],0,true⟩
abbrev iv:Type:=((Unit)×(Unit)×Unit)×((List (UInt64))×(List (UInt64))×Unit)
def Qu:SE->Option Shape:=fp [(0,m6)] none
def anf (a6:UInt64) (a7:Int) (c0:List (UInt64)) (c1:List (UInt64)) (c2:List (UInt64)) (c3:List (UInt64)):OT (Sum bQ aE):=
 let z0:Bool:=inB a7 4
 let z1:Bool:=decide (Int.toNat a7+0<List.length c0)
 let z2:Bool:=decide (Int.toNat a7+0<List.length c1)
 let z3:UInt64:=List.getD c0 (Int.toNat a7+0) (0:UInt64)
 let z4:UInt64:=List.getD c1 (Int.toNat a7+0) (0:UInt64)
 let z5:Bool:=inR (a7+(1:Int))
 let z6:UInt64:=z3-z4
 let z7:List UInt64:=List.set c3 (Int.toNat a7+0) (z6-a6)
 (.br (decide (a7<(4:Int)))
 (gd [z0,z1,z0,z2,z0,decide (Int.toNat a7+0<List.length c3),z0,z1,z0,z2] (.br (decide (z3<z4))
  (gd [z5] (.ok (.inl (((),((),((),((),((1:UInt64),(a7+(1:Int),())))))),(c0,(c1,(c2,(z7,()))))))))
  (.br (decide (z6<a6))
   (gd [z5] (.ok (.inl (((),((),((),((),((1:UInt64),(a7+(1:Int),())))))),(c0,(c1,(c2,(z7,()))))))))
   (gd [z5] (.ok (.inl (((),((),((),((),((0:UInt64),(a7+(1:Int),())))))),(c0,(c1,(c2,(z7,())))))))))))
 (.ok (.inr ⟨(.exit 0,m6),(((),((),())),(c2,(c3,())))⟩)))
def oG (s:bQ):OT (Sum bQ aE):=anf (s.1.2.2.2.2.1) (s.1.2.2.2.2.2.1) (s.2.1) (s.2.2.1) (s.2.2.2.1) (s.2.2.2.2.1)
theorem anb (s:bQ) (Q:Sum bQ aE->Prop):wps te pZ av 1000 (aV (aj Tryz.f103) 0) (oF.inj s) (bV oF Qu (Q:Sum oF.T aE->Prop))=(oG s).wpR Q:=by kernel_rfl
def vD (g0_0:bQ->iv) (s:bQ):OT aE:=(.ok ⟨(.exit 0,m6),g0_0 s⟩)
def EA:az:=⟨[.val true .elem],[],false⟩
def Kh:SV->Option az:=λ_=>some EA
def Kk (ok0:bQ->Bool) (g0_0:bQ->iv) (a0:aa) (a1:aa):OT fJ.Y:=
 let z0:(PUnit×PUnit×PUnit×PUnit×UInt64×Int×PUnit)×List UInt64×List UInt64×List UInt64×List UInt64×PUnit:=(((),(),(),(),(0:UInt64),(0:Int),()),[a0.w0,a0.w1,a0.w2,a0.w3],[a1.w0,a1.w1,a1.w2,a1.w3],[(0:UInt64),(0:UInt64),(0:UInt64),(0:UInt64)],[(0:UInt64),(0:UInt64),(0:UInt64),(0:UInt64)],())
 let z1:=(g0_0 z0).snd
 let z2:=z1.snd.fst
 let z3:=z1.fst
 let z4:List UInt64:=lay z3 z2 4 (0:UInt64)
 (gd [ok0 z0,decide (4<=List.length z2),decide ((4/1:Nat)+0<=List.length z3),decide (4<=List.length z4)] (.ok ⟨EA,(({w0:=List.getD z4 0 0,w1:=List.getD z4 1 0,w2:=List.getD z4 2 0,w3:=List.getD z4 3 0},()),())⟩))
theorem at5 (ok0:bQ->Bool) (g0_0:bQ->iv) (x:vE) (Q:fJ.Y->Prop):wpf te pZ (aO 0 (cb oF 0 ok0 (vD g0_0)) av) 1000 Tryz.f103 (fJ.inp.inj x).tm (fJ.inp.inj x).hp (fnK fJ Kh Q) (λ_ _=>False)=(Kk ok0 g0_0 (x.1.1) (x.1.2.1)).wpR Q:=by kernel_rfl
theorem Yh (ok0:bQ->Bool) (g0_0:bQ->iv) (h0:∀ s:bQ,ok0 s=true->∃ m e,al (oG) m s=some e/\(vD g0_0 s).run=some e) (pre:vE->Bool) (F:vE->OT fJ.Y) (hF:∀ (x:vE) oy,pre x=true->(F x).run=some oy->(Kk ok0 g0_0 (x.1.1) (x.1.2.1)).run=some oy):ac Tryz.prog 103 (fJ.aH pre F):=
 aD aq nL C6 (f:=103) (fn:=Tryz.f103) (c:=aj Tryz.f103) (by kernel_rfl) (by kernel_rfl) (by kernel_rfl) (S:=fJ) (k:=0) (by kernel_rfl) (λR hR=>(aB (c:=(aj Tryz.f103)) (by kernel_rfl) (id:=0) (by kernel_rfl) (aS aq nL C6 (sh:=oF) hR (xs:=Qu) (aC (by kernel_rfl) (by kernel_rfl) hR) aK af (n:=1000) (T:=oG) (λs Q=>anb s Q) (ok:=ok0) (f:=vD g0_0) h0) af)) (n:=1000) (sel:=Kh) (λv o h=>by cases h;rfl) (pre:=pre) (F:=F) (T:=λx=>Kk ok0 g0_0 (x.1.1) (x.1.2.1)) (λx Q=>at5 ok0 g0_0 x Q) hF
theorem Rk {x y c:UInt64} (hc:c.toNat<=1):x-y-c=qq x y c:=by
 have hx:=x.toNat_lt
 have hy:=y.toNat_lt
 unfold qq
 rw [<-UInt64.toNat_inj,UInt64.toNat_sub,UInt64.toNat_sub,UInt64.toNat_ofNat']
 omega
theorem akA {x y c:UInt64} (h:x<y):WH x y c=1:=by
 have h:=UInt64.lt_iff_toNat_lt.1 h
 rw [<-UInt64.toNat_inj,AE,if_pos (by omega)]
 rfl
theorem akz {x y c:UInt64} (h:¬x<y) (hc:x-y<c):WH x y c=1:=by
 have hx:=x.toNat_lt
 have h:¬x.toNat<y.toNat:=λe=>h (UInt64.lt_iff_toNat_lt.2 e)
 have hc:=UInt64.lt_iff_toNat_lt.1 hc
 rw [UInt64.toNat_sub] at hc
 rw [<-UInt64.toNat_inj,AE,if_pos (by omega)]
 rfl
theorem aky {x y c:UInt64} (h:¬x<y) (hc:¬x-y<c):WH x y c=0:=by
 have hx:=x.toNat_lt
 have h:¬x.toNat<y.toNat:=λe=>h (UInt64.lt_iff_toNat_lt.2 e)
 have hc:¬(x-y).toNat<c.toNat:=λe=>hc (UInt64.lt_iff_toNat_lt.2 e)
 rw [UInt64.toNat_sub] at hc
 rw [<-UInt64.toNat_inj,AE,if_neg (by omega)]
 rfl
def Kj (s:bQ):Bool:=decide (s.1.2.2.2.2.1=0/\s.1.2.2.2.2.2.1=0/\s.2.1.length=4/\s.2.2.1.length=4/\s.2.2.2.2.1= [0,0,0,0])
def Qv (s:bQ):iv:=(((),(),()),(s.2.2.2.1,(upto (xD s.2.1 s.2.2.1) ([0,0,0,0],0) 4).1,()))
theorem ane:∀ s:bQ,Kj s=true->∃ m e,al oG m s=some e/\(vD Qv s).run=some e:=by
 rintro ⟨⟨⟨⟩,⟨⟩,⟨⟩,⟨⟩,c,i,⟨⟩⟩,⟨c0,c1,c2,c3,⟨⟩⟩⟩ h
 have h':=of_decide_eq_true h
 dsimp only at h'
 obtain ⟨rfl,rfl,h0,h1,rfl⟩:=h'
 have:=(aP (T:=oG) (λk s=>((((),(),(),(),s.2,(k:Int),()),(c0,c1,c2,s.1,())):bQ)) (xD c0 c1)
  (λs=>(⟨(.exit 0,m6),(((),(),()),(c2,s.1,()))⟩:aE)) 4 ([0,0,0,0],0) (λ_ s=>s.1.length=4/\s.2.toNat<=1) ⟨rfl,by decide⟩ (λk s hk hs=>⟨?_,?_⟩) (λs hs=> ?_)).1
 ·obtain ⟨m,hm⟩:=this
  exact ⟨m,_,hm,rfl⟩
 ·obtain ⟨o,c⟩:=s
  dsimp only at hs
  refine (OT.ap (decide_eq_true (by dsimp only;omega))).trans ((ah ?_).trans ?_)
  ·simp only [Int.toNat_natCast,Nat.add_zero,h0,h1,hs.1,List.all_cons,List.all_nil,Bool.and_true,Bool.and_eq_true]
   exact ⟨aN (by omega),decide_eq_true (by omega),aN (by omega),decide_eq_true (by omega),aN (by omega),decide_eq_true (by omega),aN (by omega),decide_eq_true (by omega),aN (by omega),decide_eq_true (by omega)⟩
  ·have hi:∀ z,(gd [inR ((k:Int)+1)] z:OT (Sum bQ aE)).run=z.run:=λz=>ah (by simp only [List.all_cons,List.all_nil,Bool.and_true];exact aI (by omega))
   have hw:=Rk (x:=c0.getD k 0) (y:=c1.getD k 0) hs.2
   by_cases hx:c0.getD k 0<c1.getD k 0
   ·have hk1:=akA (c:=c) hx
    refine (OT.ap (decide_eq_true ?_)).trans ((hi _).trans ?_)
    ·simp only [Int.toNat_natCast,Nat.add_zero];exact hx
    ·simp only [OT.cK,Int.toNat_natCast,Nat.add_zero,xD,hw,hk1]
     rfl
   ·refine (OT.ar (decide_eq_false ?_)).trans ?_
    ·simp only [Int.toNat_natCast,Nat.add_zero];exact hx
    ·by_cases hd:c0.getD k 0-c1.getD k 0<c
     ·have hk2:=akz hx hd
      refine (OT.ap (decide_eq_true ?_)).trans ((hi _).trans ?_)
      ·simp only [Int.toNat_natCast,Nat.add_zero];exact hd
      ·simp only [OT.cK,Int.toNat_natCast,Nat.add_zero,xD,hw,hk2]
       rfl
     ·have hk3:=aky hx hd
      refine (OT.ar (decide_eq_false ?_)).trans ((hi _).trans ?_)
      ·simp only [Int.toNat_natCast,Nat.add_zero];exact hd
      ·simp only [OT.cK,Int.toNat_natCast,Nat.add_zero,xD,hw,hk3]
       rfl
 ·exact ⟨by simp only [xD,List.length_set];exact hs.1,yu⟩
 ·exact OT.ar (decide_eq_false (by dsimp only;omega))
def Ki (_:vE):Bool:=true
def Kl (x:vE):OT fJ.Y:=.ok ⟨EA,(((ef x.1.1 x.1.2.1).1,()),())⟩
theorem anc:ac Tryz.prog 103 (fJ.aH Ki Kl):=Yh Kj Qv ane _ _ λx oy hp ho=>by
 rw [<-ho]
 clear ho
 obtain ⟨⟨a,b,⟨⟩⟩,⟨⟩⟩:=x
 obtain ⟨_,hw⟩:=DY a b
 refine (ah ?_).trans ?_
 ·simp only [List.all_cons,List.all_nil,Bool.and_true,Bool.and_eq_true]
  exact ⟨rfl,rfl,rfl,rfl⟩
 ·simp only [Kl,hw]
  rfl
def s4:cf:=(fJ.aH Ki Kl)
theorem TW:ac Tryz.prog 103 s4:=anc
theorem TV:aF s4:=aA
def pX:Env:=ay 103 s4 pZ
theorem nK:aQ Tryz.prog pX:=ag TW nL
theorem xW:ax pX:=ae TV xY
theorem C3:aU Tryz.prog te pX:=aJ follows aq nK xW
def iq:aw:=⟨[.val true .elem,.val true .elem],[],true,0,false⟩
abbrev Ev:Type:=((aa)×(aa)×Unit)×(Unit)
def sY:Shape:=⟨39,[(2,.ptr 0 0 0),(3,.ptr 1 0 0),(4,.ptr 2 0 0),(5,.ptr 3 0 0),(6,.val false .u64),(7,.val false .int)],[(0,.row .u64),(1,.row .u64),(2,.row .u64),(3,.row .u64)],0,true⟩
abbrev cm:Type:=((Unit)×(Unit)×(Unit)×(Unit)×(UInt64)×(Int)×Unit)×((List (UInt64))×(List (UInt64))×(List (UInt64))×(List (UInt64))×Unit)
def qF:Shape:=⟨39,[(4,.ptr 0 0 0),(5,.ptr 1 0 0)],[(0,.row .u64),(1,.row .u64)],0,true⟩
abbrev j0:Type:=((Unit)×(Unit)×Unit)×((List (UInt64))×(List (UInt64))×Unit)
def X5:SE->Option Shape:=fp [(0,qF)] none
def atU (a6:UInt64) (a7:Int) (c0:List (UInt64)) (c1:List (UInt64)) (c2:List (UInt64)) (c3:List (UInt64)):OT (Sum cm aE):=
 let z0:Bool:=inB a7 4
 let z1:Bool:=decide (Int.toNat a7+0<List.length c0)
 let z2:UInt64:=List.getD c0 (Int.toNat a7+0) (0:UInt64)
 let z3:UInt64:=z2+List.getD c1 (Int.toNat a7+0) (0:UInt64)
 let z4:Bool:=inR (a7+(1:Int))
 let z5:List UInt64:=List.set c3 (Int.toNat a7+0) (z3+a6)
 (.br (decide (a7<(4:Int)))
 (gd [z0,z1,z0,decide (Int.toNat a7+0<List.length c1),z0,decide (Int.toNat a7+0<List.length c3),z0,z1] (.br (decide (z3<z2))
  (gd [z4] (.ok (.inl (((),((),((),((),((1:UInt64),(a7+(1:Int),())))))),(c0,(c1,(c2,(z5,()))))))))
  (gd [z0,decide (Int.toNat a7+0<List.length z5)] (.br (decide (List.getD z5 (Int.toNat a7+0) (0:UInt64)<z3))
   (gd [z4] (.ok (.inl (((),((),((),((),((1:UInt64),(a7+(1:Int),())))))),(c0,(c1,(c2,(z5,()))))))))
   (gd [z4] (.ok (.inl (((),((),((),((),((0:UInt64),(a7+(1:Int),())))))),(c0,(c1,(c2,(z5,()))))))))))))
 (.ok (.inr ⟨(.exit 0,qF),(((),((),())),(c2,(c3,())))⟩)))
def sZ (s:cm):OT (Sum cm aE):=atU (s.1.2.2.2.2.1) (s.1.2.2.2.2.2.1) (s.2.1) (s.2.2.1) (s.2.2.2.1) (s.2.2.2.2.1)
theorem atR (s:cm) (Q:Sum cm aE->Prop):wps te pX av 1000 (aV (aj Tryz.f133) 0) (sY.inj s) (bV sY X5 (Q:Sum sY.T aE->Prop))=(sZ s).wpR Q:=by kernel_rfl
def Bk (g0_0:cm->j0) (s:cm):OT aE:=(.ok ⟨(.exit 0,qF),g0_0 s⟩)
def J9:az:=⟨[.val true .elem],[],false⟩
def Qn:SV->Option az:=λ_=>some J9
def TN (ok0:cm->Bool) (g0_0:cm->j0) (a0:aa) (a1:aa):OT iq.Y:=
 let z0:(PUnit×PUnit×PUnit×PUnit×UInt64×Int×PUnit)×List UInt64×List UInt64×List UInt64×List UInt64×PUnit:=(((),(),(),(),(0:UInt64),(0:Int),()),[a0.w0,a0.w1,a0.w2,a0.w3],[a1.w0,a1.w1,a1.w2,a1.w3],[(0:UInt64),(0:UInt64),(0:UInt64),(0:UInt64)],[(0:UInt64),(0:UInt64),(0:UInt64),(0:UInt64)],())
 let z1:=(g0_0 z0).snd
 let z2:=z1.snd.fst
 let z3:=z1.fst
 let z4:List UInt64:=lay z3 z2 4 (0:UInt64)
 (gd [ok0 z0,decide (4<=List.length z2),decide ((4/1:Nat)+0<=List.length z3),decide (4<=List.length z4)] (.ok ⟨J9,(({w0:=List.getD z4 0 0,w1:=List.getD z4 1 0,w2:=List.getD z4 2 0,w3:=List.getD z4 3 0},()),())⟩))
theorem aAV (ok0:cm->Bool) (g0_0:cm->j0) (x:Ev) (Q:iq.Y->Prop):wpf te pX (aO 0 (cb sY 0 ok0 (Bk g0_0)) av) 1000 Tryz.f133 (iq.inp.inj x).tm (iq.inp.inj x).hp (fnK iq Qn Q) (λ_ _=>False)=(TN ok0 g0_0 (x.1.1) (x.1.2.1)).wpR Q:=by kernel_rfl
theorem adq (ok0:cm->Bool) (g0_0:cm->j0) (h0:∀ s:cm,ok0 s=true->∃ m e,al (sZ) m s=some e/\(Bk g0_0 s).run=some e) (pre:Ev->Bool) (F:Ev->OT iq.Y) (hF:∀ (x:Ev) oy,pre x=true->(F x).run=some oy->(TN ok0 g0_0 (x.1.1) (x.1.2.1)).run=some oy):ac Tryz.prog 133 (iq.aH pre F):=
 aD aq nK C3 (f:=133) (fn:=Tryz.f133) (c:=aj Tryz.f133) (by kernel_rfl) (by kernel_rfl) (by kernel_rfl) (S:=iq) (k:=0) (by kernel_rfl) (λR hR=>(aB (c:=(aj Tryz.f133)) (by kernel_rfl) (id:=0) (by kernel_rfl) (aS aq nK C3 (sh:=sY) hR (xs:=X5) (aC (by kernel_rfl) (by kernel_rfl) hR) aK af (n:=1000) (T:=sZ) (λs Q=>atR s Q) (ok:=ok0) (f:=Bk g0_0) h0) af)) (n:=1000) (sel:=Qn) (λv o h=>by cases h;rfl) (pre:=pre) (F:=F) (T:=λx=>TN ok0 g0_0 (x.1.1) (x.1.2.1)) (λx Q=>aAV ok0 g0_0 x Q) hF
theorem auC {x y c:UInt64}:x+y+c=xH x y c:=by
 have hx:=x.toNat_lt
 have hy:=y.toNat_lt
 unfold xH
 rw [<-UInt64.toNat_inj,UInt64.toNat_add,UInt64.toNat_add,UInt64.toNat_ofNat']
 omega
theorem Wf {x y c:UInt64} (hc:c.toNat<=1):(An x y c).toNat=(x.toNat+y.toNat+c.toNat)/18446744073709551616:=by
 have hx:=x.toNat_lt
 have hy:=y.toNat_lt
 unfold An
 rw [UInt64.toNat_ofNat']
 omega
theorem aGQ {x y c:UInt64} (hc:c.toNat<=1) (h:x+y<x):An x y c=1:=by
 have hx:=x.toNat_lt
 have hy:=y.toNat_lt
 have h:=UInt64.lt_iff_toNat_lt.1 h
 rw [UInt64.toNat_add] at h
 rw [<-UInt64.toNat_inj,Wf hc,show (1:UInt64).toNat=1 from rfl]
 omega
theorem aGP {x y c:UInt64} (hc:c.toNat<=1) (h:¬x+y<x) (h2:x+y+c<x+y):An x y c=1:=by
 have hx:=x.toNat_lt
 have hy:=y.toNat_lt
 have h:¬(x+y).toNat<x.toNat:=λe=>h (UInt64.lt_iff_toNat_lt.2 e)
 have h2:=UInt64.lt_iff_toNat_lt.1 h2
 rw [UInt64.toNat_add] at h
 rw [UInt64.toNat_add,UInt64.toNat_add] at h2
 rw [<-UInt64.toNat_inj,Wf hc,show (1:UInt64).toNat=1 from rfl]
 omega
theorem aGO {x y c:UInt64} (hc:c.toNat<=1) (h:¬x+y<x) (h2:¬x+y+c<x+y):An x y c=0:=by
 have hx:=x.toNat_lt
 have hy:=y.toNat_lt
 have h:¬(x+y).toNat<x.toNat:=λe=>h (UInt64.lt_iff_toNat_lt.2 e)
 have h2:¬(x+y+c).toNat<(x+y).toNat:=λe=>h2 (UInt64.lt_iff_toNat_lt.2 e)
 rw [UInt64.toNat_add] at h
 rw [UInt64.toNat_add,UInt64.toNat_add] at h2
 rw [<-UInt64.toNat_inj,Wf hc,show (0:UInt64).toNat=0 from rfl]
 omega
def Qp (s:cm):Bool:=decide (s.1.2.2.2.2.1=0/\s.1.2.2.2.2.2.1=0/\s.2.1.length=4/\s.2.2.1.length=4/\s.2.2.2.2.1= [0,0,0,0])
def X8 (s:cm):j0:=(((),(),()),(s.2.2.2.1,(upto (PC s.2.1 s.2.2.1) ([0,0,0,0],0) 4).1,()))
theorem atT:∀ s:cm,Qp s=true->∃ m e,al sZ m s=some e/\(Bk X8 s).run=some e:=by
 rintro ⟨⟨⟨⟩,⟨⟩,⟨⟩,⟨⟩,c,i,⟨⟩⟩,⟨c0,c1,c2,c3,⟨⟩⟩⟩ h
 have h':=of_decide_eq_true h
 dsimp only at h'
 obtain ⟨rfl,rfl,h0,h1,rfl⟩:=h'
 have:=(aP (T:=sZ) (λk s=>((((),(),(),(),s.2,(k:Int),()),(c0,c1,c2,s.1,())):cm)) (PC c0 c1)
  (λs=>(⟨(.exit 0,qF),(((),(),()),(c2,s.1,()))⟩:aE)) 4 ([0,0,0,0],0) (λ_ s=>s.1.length=4/\s.2.toNat<=1) ⟨rfl,by decide⟩ (λk s hk hs=>⟨?_,?_⟩) (λs hs=> ?_)).1
 ·obtain ⟨m,hm⟩:=this
  exact ⟨m,_,hm,rfl⟩
 ·obtain ⟨o,c⟩:=s
  dsimp only at hs
  refine (OT.ap (decide_eq_true (by dsimp only;omega))).trans ((ah ?_).trans ?_)
  ·simp only [Int.toNat_natCast,Nat.add_zero,h0,h1,hs.1,List.all_cons,List.all_nil,Bool.and_true,Bool.and_eq_true]
   exact ⟨aN (by omega),decide_eq_true (by omega),aN (by omega),decide_eq_true (by omega),aN (by omega),decide_eq_true (by omega),aN (by omega),decide_eq_true (by omega)⟩
  ·have hi:∀ z,(gd [inR ((k:Int)+1)] z:OT (Sum cm aE)).run=z.run:=λz=>ah (by simp only [List.all_cons,List.all_nil,Bool.and_true];exact aI (by omega))
   have hw:=auC (x:=c0.getD k 0) (y:=c1.getD k 0) (c:=c)
   by_cases hx:c0.getD k 0+c1.getD k 0<c0.getD k 0
   ·have hk1:=aGQ hs.2 hx
    refine (OT.ap (decide_eq_true ?_)).trans ((hi _).trans ?_)
    ·simp only [Int.toNat_natCast,Nat.add_zero];exact hx
    ·simp only [OT.cK,Int.toNat_natCast,Nat.add_zero,PC,hw,hk1]
     rfl
   ·have hs2:∀ v,(o.set k v).getD k 0=v:=λv=>by
     rw [List.getD_eq_getElem?_getD,List.getElem?_set_self (by omega)]
     rfl
    refine (OT.ar (decide_eq_false ?_)).trans ((ah ?_).trans ?_)
    ·simp only [Int.toNat_natCast,Nat.add_zero];exact hx
    ·simp only [Int.toNat_natCast,Nat.add_zero,List.length_set,hs.1,List.all_cons,List.all_nil,Bool.and_true,Bool.and_eq_true]
     exact ⟨aN (by omega),decide_eq_true (by omega)⟩
    ·by_cases hd:c0.getD k 0+c1.getD k 0+c<c0.getD k 0+c1.getD k 0
     ·have hk2:=aGP hs.2 hx hd
      refine (OT.ap (decide_eq_true ?_)).trans ((hi _).trans ?_)
      ·simp only [Int.toNat_natCast,Nat.add_zero,hs2];exact hd
      ·simp only [OT.cK,Int.toNat_natCast,Nat.add_zero,PC,hw,hk2]
       rfl
     ·have hk3:=aGO hs.2 hx hd
      refine (OT.ar (decide_eq_false ?_)).trans ((hi _).trans ?_)
      ·simp only [Int.toNat_natCast,Nat.add_zero,hs2];exact hd
      ·simp only [OT.cK,Int.toNat_natCast,Nat.add_zero,PC,hw,hk3]
       rfl
 ·exact ⟨by simp only [PC,List.length_set];exact hs.1,F3 hs.2⟩
 ·exact OT.ar (decide_eq_false (by dsimp only;omega))
def Qo (_:Ev):Bool:=true
def TO (x:Ev):OT iq.Y:=.ok ⟨J9,(((qk x.1.1 x.1.2.1).1,()),())⟩
theorem atS:ac Tryz.prog 133 (iq.aH Qo TO):=adq Qp X8 atT _ _ λx oy hp ho=>by
 rw [<-ho]
 clear ho
 obtain ⟨⟨a,b,⟨⟩⟩,⟨⟩⟩:=x
 obtain ⟨_,hw⟩:=PJ a b
 refine (ah ?_).trans ?_
 ·simp only [List.all_cons,List.all_nil,Bool.and_true,Bool.and_eq_true]
  exact ⟨rfl,rfl,rfl,rfl⟩
 ·simp only [TO,hw]
  rfl
def yJ:cf:=(iq.aH Qo TO)
theorem X7:ac Tryz.prog 133 yJ:=atS
theorem X6:aF yJ:=aA
def rJ:Env:=ay 133 yJ pX
theorem mP:aQ Tryz.prog rJ:=ag X7 nK
theorem C2:ax rJ:=ae X6 xW
theorem uN:aU Tryz.prog te rJ:=aJ follows aq mP C2
def lR:aw:=⟨[.val false .int,.val true .elem],[],true,0,false⟩
abbrev X9:Type:=((Int)×(aa)×Unit)×(Unit)
def Kc:Shape:=⟨60,[(3,.ptr 0 0 0),(4,.ptr 1 0 0),(5,.val false .u64),(6,.val false .u64),(7,.val false .int)],[(0,.row .u64),(1,.row .u64)],0,true⟩
abbrev dJ:Type:=((Unit)×(Unit)×(UInt64)×(UInt64)×(Int)×Unit)×((List (UInt64))×(List (UInt64))×Unit)
def Bm:Shape:=⟨60,[(4,.ptr 0 0 0),(6,.val false .u64)],[(0,.row .u64)],0,true⟩
abbrev oC:Type:=((Unit)×(UInt64)×Unit)×((List (UInt64))×Unit)
def atY:SE->Option Shape:=fp [(0,Bm)] none
def aGz (a5:UInt64) (a6:UInt64) (a7:Int) (c0:List (UInt64)) (c1:List (UInt64)):OT (Sum dJ aE):=
 let z0:Bool:=inB a7 4
 let z1:Bool:=decide (Int.toNat a7+0<List.length c0)
 let z2:Bool:= !a5==(0:UInt64)
 let z3:UInt64:=List.getD c0 (Int.toNat a7+0) (0:UInt64)
 (.br (decide ((0:Int)<=a7))
 (gd [z0,z1,z2,z0,z1,z2,inR (a7-(1:Int))] (.ok (.inl (((),((),(a5,((bP ((bP a6 (32:Int)+be z3 (32:Int))%a5) (32:Int)+(z3&&&(4294967295:UInt64)))%a5,(a7-(1:Int),()))))),(c0,(c1,()))))))
 (.ok (.inr ⟨(.exit 0,Bm),(((),(a6,())),(c1,()))⟩)))
def Ke (s:dJ):OT (Sum dJ aE):=aGz (s.1.2.2.1) (s.1.2.2.2.1) (s.1.2.2.2.2.1) (s.2.1) (s.2.2.1)
theorem aGv (s:dJ) (Q:Sum dJ aE->Prop):wps te rJ av 1000 (aV (aj Tryz.f62) 0) (Kc.inj s) (bV Kc atY (Q:Sum Kc.T aE->Prop))=(Ke s).wpR Q:=by kernel_rfl
def TR (g0_0:dJ->oC) (s:dJ):OT aE:=(.ok ⟨(.exit 0,Bm),g0_0 s⟩)
def Kb:Shape:=⟨60,[(3,.ptr 0 0 0),(4,.ptr 1 0 0),(8,.ptr 2 0 0)],[(0,.row .u64),(1,.row .u64),(2,.row .u64)],0,true⟩
abbrev dV:Type:=((Unit)×(Unit)×(Unit)×Unit)×((List (UInt64))×(List (UInt64))×(List (UInt64))×Unit)
def Bl:Shape:=⟨60,[(3,.ptr 0 0 0),(4,.ptr 1 0 0)],[(0,.row .u64),(1,.row .u64)],0,true⟩
abbrev oB:Type:=((Unit)×(Unit)×Unit)×((List (UInt64))×(List (UInt64))×Unit)
def atX:SE->Option Shape:=fp [(2,Bl)] none
def aGy (c0:List (UInt64)) (c1:List (UInt64)) (c2:List (UInt64)):OT (Sum dV aE):=
 let z0:Nat:=List.length c0
 let z1:Bool:=decide (4<=z0)
 let z2:Bool:=decide (4<=List.length c2)
 let z3:aa:= {w0:=List.getD c0 0 0,w1:=List.getD c0 1 0,w2:=List.getD c0 2 0,w3:=List.getD c0 3 0}
 let z4:aa:= {w0:=List.getD c2 0 0,w1:=List.getD c2 1 0,w2:=List.getD c2 2 0,w3:=List.getD c2 3 0}
 let z5:=(ef z3 z4).fst
 (gd [z1,z2] (.br (!Nat.blt (aa.nat z3) (aa.nat z4))
 (gd [z1,z2,decide ((4/1:Nat)+0<=z0)] (.ok (.inl (((),((),((),()))),(List.set (List.set (List.set (List.set c0 0 z5.w0) 1 z5.w1) 2 z5.w2) 3 z5.w3,(c1,(c2,())))))))
 (.ok (.inr ⟨(.exit 2,Bl),(((),((),())),(c0,(c1,())))⟩))))
def Kd (s:dV):OT (Sum dV aE):=aGy (s.2.1) (s.2.2.1) (s.2.2.2.1)
theorem aGu (s:dV) (Q:Sum dV aE->Prop):wps te rJ av 1000 (aV (aj Tryz.f62) 2) (Kb.inj s) (bV Kb atX (Q:Sum Kb.T aE->Prop))=(Kd s).wpR Q:=by kernel_rfl
def TQ (g2_2:dV->oB) (s:dV):OT aE:=(.ok ⟨(.exit 2,Bl),g2_2 s⟩)
def nZ:az:=⟨[.val true .elem],[],false⟩
def ajK:SV->Option az:=λ_=>some nZ
def ajM (ok0:dJ->Bool) (g0_0:dJ->oC) (ok2:dV->Bool) (g2_2:dV->oB) (a0:Int) (a1:aa):OT lR.Y:=
 let z0:(PUnit×PUnit×UInt64×UInt64×Int×PUnit)×List UInt64×List UInt64×PUnit:=(((),(),WJ a0,(0:UInt64),(3:Int),()),[a1.w0,a1.w1,a1.w2,a1.w3],[(0:UInt64),(0:UInt64),(0:UInt64),(0:UInt64)],())
 let z1:Bool:=ok0 z0
 let z2:(PUnit×UInt64×PUnit)×List UInt64×PUnit:=g0_0 z0
 let z3:=z2.snd.fst
 let z4:Bool:=decide ((4/1:Nat)+0<=List.length z3)
 let z5:List UInt64:=List.set (List.set (List.set (List.set z3 0 z2.fst.snd.fst) 1 (0:UInt64)) 2 (0:UInt64)) 3 (0:UInt64)
 let z6:Bool:=decide (4<=List.length z5)
 let z7:aa:= {w0:=List.getD z5 0 0,w1:=List.getD z5 1 0,w2:=List.getD z5 2 0,w3:=List.getD z5 3 0}
 let z8:aa:=(aY (Int.toNat a0)).fst
 let z9:(PUnit×PUnit×PUnit×PUnit)×List UInt64×List UInt64×List UInt64×PUnit:=(((),(),(),()),[a1.w0,a1.w1,a1.w2,a1.w3],[(0:UInt64),(0:UInt64),(0:UInt64),(0:UInt64)],[z8.w0,z8.w1,z8.w2,z8.w3],())
 let z10:=(g2_2 z9).snd
 let z11:=z10.fst
 let z12:=z10.snd.fst
 let z13:List UInt64:=lay z12 z11 4 (0:UInt64)
 (.br (a0==(0:Int))
 (gd [z1,z4,z6] (.ok ⟨nZ,((z7,()),())⟩))
 (.br (a0==(1:Int))
  (gd [z1,z4,z6] (.ok ⟨nZ,((z7,()),())⟩))
  (.br (ao a0)
   (gd [ok2 z9,decide (4<=List.length z11),decide ((4/1:Nat)+0<=List.length z12),decide (4<=List.length z13)] (.ok ⟨nZ,(({w0:=List.getD z13 0 0,w1:=List.getD z13 1 0,w2:=List.getD z13 2 0,w3:=List.getD z13 3 0},()),())⟩))
   (.ok ⟨nZ,(({w0:=0,w1:=0,w2:=0,w3:=0},()),())⟩))))
theorem aJs (ok0:dJ->Bool) (g0_0:dJ->oC) (ok2:dV->Bool) (g2_2:dV->oB) (x:X9) (Q:lR.Y->Prop):wpf te rJ (aO 2 (cb Kb 2 ok2 (TQ g2_2)) (aO 0 (cb Kc 0 ok0 (TR g0_0)) av)) 1000 Tryz.f62 (lR.inp.inj x).tm (lR.inp.inj x).hp (fnK lR ajK Q) (λ_ _=>False)=(ajM ok0 g0_0 ok2 g2_2 (x.1.1) (x.1.2.1)).wpR Q:=by kernel_rfl
theorem at0 (ok0:dJ->Bool) (g0_0:dJ->oC) (ok2:dV->Bool) (g2_2:dV->oB) (h0:∀ s:dJ,ok0 s=true->∃ m e,al (Ke) m s=some e/\(TR g0_0 s).run=some e) (h2:∀ s:dV,ok2 s=true->∃ m e,al (Kd) m s=some e/\(TQ g2_2 s).run=some e) (pre:X9->Bool) (F:X9->OT lR.Y) (hF:∀ (x:X9) oy,pre x=true->(F x).run=some oy->(ajM ok0 g0_0 ok2 g2_2 (x.1.1) (x.1.2.1)).run=some oy):ac Tryz.prog 62 (lR.aH pre F):=
 aD aq mP uN (f:=62) (fn:=Tryz.f62) (c:=aj Tryz.f62) (by kernel_rfl) (by kernel_rfl) (by kernel_rfl) (S:=lR) (k:=0) (by kernel_rfl) (λR hR=>(aB (c:=(aj Tryz.f62)) (by kernel_rfl) (id:=2) (by kernel_rfl) (aS aq mP uN (sh:=Kb) hR (xs:=atX) (aC (by kernel_rfl) (by kernel_rfl) hR) aK af (n:=1000) (T:=Kd) (λs Q=>aGu s Q) (ok:=ok2) (f:=TQ g2_2) h2) (aB (c:=(aj Tryz.f62)) (by kernel_rfl) (id:=0) (by kernel_rfl) (aS aq mP uN (sh:=Kc) hR (xs:=atY) (aC (by kernel_rfl) (by kernel_rfl) hR) aK af (n:=1000) (T:=Ke) (λs Q=>aGv s Q) (ok:=ok0) (f:=TR g0_0) h0) af))) (n:=1000) (sel:=ajK) (λv o h=>by cases h;rfl) (pre:=pre) (F:=F) (T:=λx=>ajM ok0 g0_0 ok2 g2_2 (x.1.1) (x.1.2.1)) (λx Q=>aJs ok0 g0_0 ok2 g2_2 x Q) hF
theorem aJz {r w m:Nat}:((r*4294967296+w/4294967296)%m*4294967296+w%4294967296)%m=(r*18446744073709551616+w)%m:=by
 have e:(r*4294967296+w/4294967296)*4294967296+w%4294967296=r*18446744073709551616+w:=by omega
 rw [Nat.add_mod,Nat.mul_mod,Nat.mod_mod,<-Nat.mul_mod,<-Nat.add_mod,e]
theorem aGW {r w m:UInt64} (hs:fQ m=true) (hr:r.toNat<m.toNat):(bP ((bP r 32+be w 32)%m) 32+(w&&&4294967295))%m=aat r w m:=by
 have hm:=lC hs
 have hb:m.toNat<=16521217:=by rcases dY hs with rfl|rfl<;>decide
 have hw:=w.toNat_lt
 have e1:(bP r 32).toNat=r.toNat*4294967296:=by
  have:(bP r 32).toNat=r.toNat*2^32%2^64:=lD r 32 (by omega)
  rw [this]
  omega
 have e2:(be w 32).toNat=w.toNat/4294967296:=eY w 32 (by omega)
 have e3:((bP r 32+be w 32)%m).toNat=(r.toNat*4294967296+w.toNat/4294967296)%m.toNat:=by
  rw [UInt64.toNat_mod,UInt64.toNat_add,e1,e2,Nat.mod_eq_of_lt (a:=r.toNat*4294967296+w.toNat/4294967296) (by omega)]
 generalize (bP r 32+be w 32)%m=q at e3
 have hq:q.toNat<m.toNat:=by rw [e3];exact Nat.mod_lt _ hm
 have e4:(bP q 32).toNat=q.toNat*4294967296:=by
  have:(bP q 32).toNat=q.toNat*2^32%2^64:=lD q 32 (by omega)
  rw [this]
  omega
 rw [<-UInt64.toNat_inj,rq hm,UInt64.toNat_mod,UInt64.toNat_add,e4,jL,Nat.mod_eq_of_lt (a:=q.toNat*4294967296+w.toNat%4294967296) (by omega),e3,aJz]
def IF (s:dJ):Bool:=decide (s.1.2.2.2.1=0/\s.1.2.2.2.2.1=3/\s.2.1.length=4)&&fQ s.1.2.2.1
def adu (s:dJ):oC:=(((),aJm s.2.1 s.1.2.2.1,()),(s.2.2.1,()))
theorem aGx:∀ s:dJ,IF s=true->∃ m e,al Ke m s=some e/\(TR adu s).run=some e:=by
 rintro ⟨⟨⟨⟩,⟨⟩,sm,r,i,⟨⟩⟩,⟨c1,c2,⟨⟩⟩⟩ h
 simp only [IF,Bool.and_eq_true,decide_eq_true_eq] at h
 obtain ⟨⟨rfl,rfl,hl⟩,hs⟩:=h
 have hm:=lC hs
 have hz:(!(sm==0))=true:=by rcases dY hs with rfl|rfl<;>rfl
 have:=(aP (T:=Ke) (λk r=>((((),(),sm,r,3-(k:Int),()),(c1,c2,())):dJ)) (λk r=>aat r (c1.getD (3-k) 0) sm)
  (λr=>(⟨(.exit 0,Bm),(((),r,()),(c2,()))⟩:aE)) 4 0 (λ_ r=>r.toNat<sm.toNat) hm (λk r hk hr=>⟨?_,?_⟩) (λr hr=> ?_)).1
 ·obtain ⟨m,hm⟩:=this
  exact ⟨m,_,hm,rfl⟩
 ·have e1:(3-(k:Int)).toNat=3-k:=by omega
  have e2:(3:Int)-(k:Int)-1=3-((k+1:Nat):Int):=by omega
  refine (OT.ap (decide_eq_true (by dsimp only;omega))).trans ((ah ?_).trans ?_)
  ·simp only [e1,Nat.add_zero,hl,hz,List.all_cons,List.all_nil,Bool.and_true,Bool.true_and,Bool.and_eq_true]
   exact ⟨aN (by omega),decide_eq_true (by omega),aN (by omega),decide_eq_true (by omega),aI (by omega)⟩
  ·simp only [OT.cK,e1,e2,Nat.add_zero,aGW hs hr]
 ·rw [rq hm]
  exact Nat.mod_lt _ hm
 ·exact OT.ar (decide_eq_false (by dsimp only;omega))
def TP (s:dV):Bool:=decide (s.2.1.length=4/\s.2.2.2.1.length=4/\0<(elemOf s.2.2.2.1).nat)
def adt (s:dV):oB:=(((),(),()),(lst (ofN ((elemOf s.2.1).nat%(elemOf s.2.2.2.1).nat)),s.2.2.1,()))
theorem am5 {M:aa} {c2:List UInt64} (hm:0<M.nat):∀ (n:Nat) (a:aa),a.nat=n->
 ∃ m,al Kd m (((),(),(),()),(lst a,c2,lst M,()))=some ⟨(.exit 2,Bl),(((),(),()),(lst (ofN (a.nat%M.nat)),c2,()))⟩:=by
 intro n
 induction n using Nat.strongRecOn with
 |_ n ih=>
  intro a hn
  rcases (Bool.eq_false_or_eq_true (Nat.blt a.nat M.nat)).symm with hb|hb
  ·have hle:M.nat<=a.nat:=by
    rcases Nat.lt_or_ge a.nat M.nat with h|h
    ·have:Nat.blt a.nat M.nat=true:=Nat.ble_eq_true_of_le h
     rw [this] at hb;cases hb
    ·exact h
   have hd:=mU hle
   obtain ⟨m,hm2⟩:=ih (a.nat-M.nat) (by omega) (ef a M).1 hd
   rw [hd,<-Nat.mod_eq_sub_mod hle] at hm2
   refine ⟨m+1,aG ?_ hm2⟩
   refine (ah rfl).trans ((OT.ap (b:= !Nat.blt a.nat M.nat) (by rw [hb];rfl)).trans ((ah rfl).trans rfl))
  ·have hlt:=ed hb
   rw [Nat.mod_eq_of_lt hlt,wa]
   refine ⟨1,aM ?_⟩
   exact (ah rfl).trans (OT.ar (b:= !Nat.blt a.nat M.nat) (by rw [hb];rfl))
theorem aGw:∀ s:dV,TP s=true->∃ m e,al Kd m s=some e/\(TQ adt s).run=some e:=by
 rintro ⟨⟨⟨⟩,⟨⟩,⟨⟩,⟨⟩⟩,⟨l,c2,l2,⟨⟩⟩⟩ h
 have h':=of_decide_eq_true h
 dsimp only at h'
 obtain ⟨h1,h2,h3⟩:=h'
 obtain ⟨a,rfl⟩:∃ a,l=lst a:=⟨elemOf l,(aR h1).symm⟩
 obtain ⟨M,rfl⟩:∃ a,l2=lst a:=⟨elemOf l2,(aR h2).symm⟩
 obtain ⟨m,hm⟩:=am5 (c2:=c2) (M:=M) h3 _ a rfl
 exact ⟨m,_,hm,rfl⟩
def ofP (p:Nat) (a:aa):aa:=ofN (a.nat%p)
def ajL (_:X9):Bool:=true
def aDA (x:X9):OT lR.Y:=.br (ao x.1.1) (.ok ⟨nZ,((ofP (pS x.1.1) x.1.2.1,()),())⟩) (.ok ⟨nZ,((⟨0,0,0,0⟩,()),())⟩)
theorem Ze {a:aa} {p:Nat} {m:UInt64} (hp:p=m.toNat) (hs:fQ m=true):(⟨aJm (lst a) m,0,0,0⟩:aa)=ofP p a:=by
 have hm:=lC hs
 unfold ofP
 rw [ajt hs,hp,tu (n:=a.nat%m.toNat) (Nat.lt_trans (Nat.mod_lt _ hm) m.toNat_lt)]
theorem akg {s:Int} {a:aa} (h0:(s==0)=false) (h1:(s==1)=false) (hs:ao s=true):(ajM IF adu TP adt s a).run=some ⟨nZ,((ofP (pS s) a,()),())⟩:=by
 refine (OT.ar h0).trans ((OT.ar h1).trans ((OT.ap hs).trans ((ah ?_).trans rfl)))
 simp only [List.all_cons,List.all_nil,Bool.and_true,Bool.and_eq_true]
 exact ⟨decide_eq_true ⟨rfl,rfl,(o7 hs).1⟩,rfl,rfl,rfl⟩
theorem atZ:ac Tryz.prog 62 (lR.aH ajL aDA):=at0 IF adu TP adt aGx aGw _ _ λx oy _ ho=>by
 rw [<-ho]
 clear ho
 obtain ⟨⟨s,a,⟨⟩⟩,⟨⟩⟩:=x
 rcases (Bool.eq_false_or_eq_true (ao s)).symm with hs|hs
 ·obtain ⟨h0,h1,_,_⟩:=vm hs
  exact (OT.ar h0).trans ((OT.ar h1).trans ((OT.ar hs).trans (OT.ar (b:=ao s) hs).symm))
 ·refine Eq.trans ?_ (OT.ap (b:=ao s) hs).symm
  show _=some (⟨nZ,((ofP (pS s) a,()),())⟩:lR.Y)
  rcases cn hs with rfl|rfl|rfl|rfl
  ·rw [<-Ze (a:=a) (p:=pS 0) (m:=16513537) (by decide+kernel) rfl]
   refine (OT.ap rfl).trans ((ah ?_).trans rfl)
   exact rfl
  ·rw [<-Ze (a:=a) (p:=pS 1) (m:=16521217) (by decide+kernel) rfl]
   refine (OT.ar rfl).trans ((OT.ap rfl).trans ((ah ?_).trans rfl))
   exact rfl
  ·exact akg rfl rfl rfl
  ·exact akg rfl rfl rfl
def Ka:cf:=(lR.aH ajL aDA)
theorem am6:ac Tryz.prog 62 Ka:=atZ
theorem am4:aF Ka:=aA
def abH:Env:=ay 62 Ka rJ
theorem NL:aQ Tryz.prog abH:=ag am6 mP
theorem NM:ax abH:=ae am4 C2
theorem aqn:aU Tryz.prog te abH:=aJ follows aq NL NM
def gO:aw:=⟨[.val false .int,.val true .elem,.val true .elem],[],true,0,false⟩
abbrev QH:Type:=((Int)×(aa)×(aa)×Unit)×(Unit)
def cP:az:=⟨[.val true .elem],[],false⟩
def Yy:SV->Option az:=λ_=>some cP
def aea (a0:Int) (a1:aa) (a2:aa):OT gO.Y:=
 let z0:Bool:=ao a0
 let z1:UInt64:=WJ a0
 let z2:Bool:= !z1==(0:UInt64)
 let z3:Nat:=pS a0
 let z4:aa:=ofP z3 a1
 let z5:=z4.w0
 let z6:aa:=ofP z3 a2
 let z7:=z6.w0
 let z8:aa:= {w0:=(z5+z7)%z1,w1:=0,w2:=0,w3:=0}
 let z9:aa:= {w0:=(z5+(0:UInt64))%z1,w1:=0,w2:=0,w3:=0}
 let z10:aa:= {w0:=((0:UInt64)+z7)%z1,w1:=0,w2:=0,w3:=0}
 let z11:aa:= {w0:=0%z1,w1:=0,w2:=0,w3:=0}
 let z12:aa:= {w0:=0,w1:=0,w2:=0,w3:=0}
 (.br (a0==(0:Int))
 (.br (z0)
  (.br (z0)
   (gd [z2] (.ok ⟨cP,((z8,()),())⟩))
   (gd [z2] (.ok ⟨cP,((z9,()),())⟩)))
  (.br (z0)
   (gd [z2] (.ok ⟨cP,((z10,()),())⟩))
   (gd [z2] (.ok ⟨cP,((z11,()),())⟩))))
 (.br (a0==(1:Int))
  (.br (z0)
   (.br (z0)
    (gd [z2] (.ok ⟨cP,((z8,()),())⟩))
    (gd [z2] (.ok ⟨cP,((z9,()),())⟩)))
   (.br (z0)
    (gd [z2] (.ok ⟨cP,((z10,()),())⟩))
    (gd [z2] (.ok ⟨cP,((z11,()),())⟩))))
  (.br (z0)
   (.br (z0)
    (.br (z0)
     (.ok ⟨cP,((ofP z3 (qk z4 z6).fst,()),())⟩)
     (.ok ⟨cP,((z12,()),())⟩))
    (.br (z0)
     (.ok ⟨cP,((ofP z3 (qk z4 z12).fst,()),())⟩)
     (.ok ⟨cP,((z12,()),())⟩)))
   (.br (z0)
    (.br (z0)
     (.ok ⟨cP,((ofP z3 (qk z12 z6).fst,()),())⟩)
     (.ok ⟨cP,((z12,()),())⟩))
    (.br (z0)
     (.ok ⟨cP,((ofP z3 z12,()),())⟩)
     (.ok ⟨cP,((z12,()),())⟩))))))
theorem aGJ (x:QH) (Q:gO.Y->Prop):wpf te abH av 1000 Tryz.f134 (gO.inp.inj x).tm (gO.inp.inj x).hp (fnK gO Yy Q) (λ_ _=>False)=(aea (x.1.1) (x.1.2.1) (x.1.2.2.1)).wpR Q:=by kernel_rfl
theorem anv (pre:QH->Bool) (F:QH->OT gO.Y) (hF:∀ (x:QH) oy,pre x=true->(F x).run=some oy->(aea (x.1.1) (x.1.2.1) (x.1.2.2.1)).run=some oy):ac Tryz.prog 134 (gO.aH pre F):=
 aD aq NL aqn (f:=134) (fn:=Tryz.f134) (c:=aj Tryz.f134) (by kernel_rfl) (by kernel_rfl) (by kernel_rfl) (S:=gO) (k:=0) (by kernel_rfl) (λR hR=>af) (n:=1000) (sel:=Yy) (λv o h=>by cases h;rfl) (pre:=pre) (F:=F) (T:=λx=>aea (x.1.1) (x.1.2.1) (x.1.2.2.1)) (λx Q=>aGJ x Q) hF
theorem BU {s:Int} (h:s=0\/s=1):pS s=(WJ s).toNat/\0<(WJ s).toNat/\(WJ s).toNat<=16521217/\(!(WJ s==0))=true:=by
 rcases h with rfl|rfl<;>exact ⟨by decide+kernel,by decide+kernel,by decide+kernel,rfl⟩
theorem aqg {s:Int} (h:s=0\/s=1) (a b:aa):(⟨((ofP (pS s) a).w0+(ofP (pS s) b).w0)%WJ s,0,0,0⟩:aa)=zK (pS s) a b:=by
 obtain ⟨hp,h0,h1,_⟩:=BU h
 rw [hp]
 generalize WJ s=m at*
 have ha:=Nat.mod_lt a.nat h0
 have hb:=Nat.mod_lt b.nat h0
 have hc:=Nat.mod_lt (a.nat+b.nat) h0
 unfold zK
 rw [tu (by omega)]
 have e:((ofP m.toNat a).w0+(ofP m.toNat b).w0)%m=UInt64.ofNat ((a.nat+b.nat)%m.toNat):=by
  show (UInt64.ofNat (a.nat%m.toNat)+UInt64.ofNat (b.nat%m.toNat))%m=_
  rw [<-UInt64.toNat_inj,UInt64.toNat_mod,UInt64.toNat_add,UInt64.toNat_ofNat',UInt64.toNat_ofNat',UInt64.toNat_ofNat',Nat.mod_eq_of_lt (a:=a.nat%m.toNat) (by omega),Nat.mod_eq_of_lt (a:=b.nat%m.toNat) (by omega),
   Nat.mod_eq_of_lt (a:=a.nat%m.toNat+b.nat%m.toNat) (by omega),Nat.mod_eq_of_lt (a:=(a.nat+b.nat)%m.toNat) (by omega),<-Nat.add_mod]
 rw [e]
def s9 (x:QH):Bool:=ao x.1.1
def auj (x:QH):OT gO.Y:=.ok ⟨cP,((zK (pS x.1.1) x.1.2.1 x.1.2.2.1,()),())⟩
theorem aBb:ac Tryz.prog 134 (gO.aH s9 auj):=anv _ _ λx oy hp ho=>by
 rw [<-ho]
 clear ho
 obtain ⟨⟨s,a,b,⟨⟩⟩,⟨⟩⟩:=x
 have hs:ao s=true:=hp
 show _=some (⟨cP,((zK (pS s) a b,()),())⟩:gO.Y)
 have little:(s=0\/s=1)->(gd [!(WJ s==0)] (.ok ⟨cP,((⟨((ofP (pS s) a).w0+(ofP (pS s) b).w0)%WJ s,0,0,0⟩,()),())⟩):OT gO.Y).run=some (⟨cP,((zK (pS s) a b,()),())⟩:gO.Y):=λh=>by
  obtain ⟨_,_,_,hz⟩:=BU h
  rw [aqg h]
  exact ah (by simp only [hz,List.all_cons,List.all_nil,Bool.and_true])
 by_cases h0:s=0
 ·exact (OT.ap (by simpa using h0)).trans ((OT.ap hs).trans ((OT.ap hs).trans (little (.inl h0))))
 ·refine (OT.ar (by simpa using h0)).trans ?_
  by_cases h1:s=1
  ·exact (OT.ap (by simpa using h1)).trans ((OT.ap hs).trans ((OT.ap hs).trans (little (.inr h1))))
  ·refine (OT.ar (by simpa using h1)).trans ((OT.ap hs).trans ((OT.ap hs).trans ((OT.ap hs).trans ?_)))
   have e:ofP (pS s) (qk (ofP (pS s) a) (ofP (pS s) b)).1=zK (pS s) a b:=axV (o7 hs) a b
   show some (⟨cP,((ofP (pS s) (qk (ofP (pS s) a) (ofP (pS s) b)).1,()),())⟩:gO.Y)=_
   rw [e]
def EL:cf:=(gO.aH s9 auj)
theorem ad9:ac Tryz.prog 134 EL:=aBb
theorem ad8:aF EL:=aA
def NW:Env:=ay 134 EL abH
theorem Gn:aQ Tryz.prog NW:=ag ad9 NL
theorem HJ:ax NW:=ae ad8 NM
theorem agI:aU Tryz.prog te NW:=aJ follows aq Gn HJ
def ki:aw:=⟨[.val false .int,.val true .elem],[],true,0,false⟩
abbrev Qs:Type:=((Int)×(aa)×Unit)×(Unit)
def m5:az:=⟨[.val true .elem],[],false⟩
def Ya:SV->Option az:=λ_=>some m5
def adB (a0:Int) (a1:aa):OT ki.Y:=
 let z0:Bool:=ao a0
 let z1:Nat:=pS a0
 let z2:aa:=(aY (Int.toNat a0)).fst
 let z3:aa:= {w0:=0,w1:=0,w2:=0,w3:=0}
 (.br (z0)
 (.br (z0)
  (.br (z0)
   (.ok ⟨m5,((ofP z1 (ef z2 (ofP z1 a1)).fst,()),())⟩)
   (.ok ⟨m5,((z3,()),())⟩))
  (.br (z0)
   (.ok ⟨m5,((ofP z1 (ef z2 z3).fst,()),())⟩)
   (.ok ⟨m5,((z3,()),())⟩)))
 (.ok ⟨m5,((z3,()),())⟩))
theorem aGA (x:Qs) (Q:ki.Y->Prop):wpf te NW av 1000 Tryz.f96 (ki.inp.inj x).tm (ki.inp.inj x).hp (fnK ki Ya Q) (λ_ _=>False)=(adB (x.1.1) (x.1.2.1)).wpR Q:=by kernel_rfl
theorem am8 (pre:Qs->Bool) (F:Qs->OT ki.Y) (hF:∀ (x:Qs) oy,pre x=true->(F x).run=some oy->(adB (x.1.1) (x.1.2.1)).run=some oy):ac Tryz.prog 96 (ki.aH pre F):=
 aD aq Gn agI (f:=96) (fn:=Tryz.f96) (c:=aj Tryz.f96) (by kernel_rfl) (by kernel_rfl) (by kernel_rfl) (S:=ki) (k:=0) (by kernel_rfl) (λR hR=>af) (n:=1000) (sel:=Ya) (λv o h=>by cases h;rfl) (pre:=pre) (F:=F) (T:=λx=>adB (x.1.1) (x.1.2.1)) (λx Q=>aGA x Q) hF
theorem neg_eq {s:Int} (hs:ao s=true) (a:aa):ofP (pS s) (ef (aY s.toNat).1 (ofP (pS s) a)).1=Ik (pS s) a:=by
 have hp:=o7 hs
 have hlt:=Nat.mod_lt a.nat hp.1
 have e:(ofP (pS s) a).nat=a.nat%pS s:=dm hp
 unfold Ik
 have e2:(ef (aY s.toNat).1 (ofP (pS s) a)).1.nat=pS s-a.nat%pS s:=by
  rw [mU (by rw [e];exact Nat.le_of_lt hlt),e]
  rfl
 show ofN (_%_)=_
 rw [e2]
def j1 (x:Qs):Bool:=ao x.1.1
def at1 (x:Qs):OT ki.Y:=.ok ⟨m5,((Ik (pS x.1.1) x.1.2.1,()),())⟩
theorem aAX:ac Tryz.prog 96 (ki.aH j1 at1):=am8 _ _ λx oy hp ho=>by
 rw [<-ho]
 clear ho
 obtain ⟨⟨s,a,⟨⟩⟩,⟨⟩⟩:=x
 have hs:ao s=true:=hp
 show _=some (⟨m5,((Ik (pS s) a,()),())⟩:ki.Y)
 rw [<-neg_eq hs]
 exact (OT.ap hs).trans ((OT.ap hs).trans ((OT.ap hs).trans rfl))
def Ex:cf:=(ki.aH j1 at1)
theorem adA:ac Tryz.prog 96 Ex:=aAX
theorem adz:aF Ex:=aA
def NN:Env:=ay 96 Ex NW
theorem Gf:aQ Tryz.prog NN:=ag adA Gn
theorem HA:ax NN:=ae adz HJ
theorem agB:aU Tryz.prog te NN:=aJ follows aq Gf HA
def lP:aw:=⟨[.val false .int,.val true .elem,.val true .elem],[],true,0,false⟩
abbrev Ql:Type:=((Int)×(aa)×(aa)×Unit)×(Unit)
def TL:az:=⟨[.val true .elem],[],false⟩
def XY:SV->Option az:=λ_=>some TL
def ado (a0:Int) (a1:aa) (a2:aa):OT lP.Y:=
 let z0:Nat:=pS a0
 let z1:aa:=Ik z0 a2
 (gd [j1 ((a0,a2,()),()),s9 ((a0,a1,z1,()),())] (.ok ⟨TL,((zK z0 a1 z1,()),())⟩))
theorem aGt (x:Ql) (Q:lP.Y->Prop):wpf te NN av 1000 Tryz.f172 (lP.inp.inj x).tm (lP.inp.inj x).hp (fnK lP XY Q) (λ_ _=>False)=(ado (x.1.1) (x.1.2.1) (x.1.2.2.1)).wpR Q:=by kernel_rfl
theorem am3 (pre:Ql->Bool) (F:Ql->OT lP.Y) (hF:∀ (x:Ql) oy,pre x=true->(F x).run=some oy->(ado (x.1.1) (x.1.2.1) (x.1.2.2.1)).run=some oy):ac Tryz.prog 172 (lP.aH pre F):=
 aD aq Gf agB (f:=172) (fn:=Tryz.f172) (c:=aj Tryz.f172) (by kernel_rfl) (by kernel_rfl) (by kernel_rfl) (S:=lP) (k:=0) (by kernel_rfl) (λR hR=>af) (n:=1000) (sel:=XY) (λv o h=>by cases h;rfl) (pre:=pre) (F:=F) (T:=λx=>ado (x.1.1) (x.1.2.1) (x.1.2.2.1)) (λx Q=>aGt x Q) hF
def fb (x:Ql):Bool:=ao x.1.1
def atK (x:Ql):OT lP.Y:=.ok ⟨TL,((mV (pS x.1.1) x.1.2.1 x.1.2.2.1,()),())⟩
theorem aAT:ac Tryz.prog 172 (lP.aH fb atK):=am3 _ _ λx oy hp ho=>by
 rw [<-ho]
 clear ho
 obtain ⟨⟨s,a,b,⟨⟩⟩,⟨⟩⟩:=x
 have hs:ao s=true:=hp
 refine (ah ?_).trans rfl
 simp only [List.all_cons,List.all_nil,Bool.and_true,Bool.and_eq_true]
 exact ⟨hs,hs⟩
def Es:cf:=(lP.aH fb atK)
theorem adn:ac Tryz.prog 172 Es:=aAT
theorem adm:aF Es:=aA
def Gd:Env:=ay 172 Es NN
theorem xl:aQ Tryz.prog Gd:=ag adn Gf
theorem Hy:ax Gd:=ae adm HA
theorem NJ:aU Tryz.prog te Gd:=aJ follows aq xl Hy
def gN:aw:=⟨[.val false .int,.val true .elem,.val true .elem],[],true,0,false⟩
abbrev Qt:Type:=((Int)×(aa)×(aa)×Unit)×(Unit)
def Bn:Shape:=⟨80,[(4,.ptr 0 0 0),(5,.ptr 1 0 0),(6,.ptr 2 0 0),(7,.ptr 3 0 0),(9,.ptr 4 0 0),(10,.val false .int)],[(0,.row .u64),(1,.row .u64),(2,.row .u64),(3,.row .u64),(4,.row .u64)],0,true⟩
abbrev cj:Type:=((Unit)×(Unit)×(Unit)×(Unit)×(Unit)×(Int)×Unit)×((List (UInt64))×(List (UInt64))×(List (UInt64))×(List (UInt64))×(List (UInt64))×Unit)
def vB:Shape:=⟨80,[(6,.ptr 0 0 0),(9,.ptr 1 0 0)],[(0,.row .u64),(1,.row .u64)],0,true⟩
abbrev lU:Type:=((Unit)×(Unit)×Unit)×((List (UInt64))×(List (UInt64))×Unit)
def ajN:SE->Option Shape:=fp [(0,vB)] none
def TU (a10:Int) (c0:List (UInt64)) (c1:List (UInt64)) (c2:List (UInt64)) (c3:List (UInt64)) (c4:List (UInt64)):OT (Sum cj aE):=
 let z0:Nat:=List.length c4
 let z1:Bool:=decide (4<=z0)
 let z2:aa:= {w0:=List.getD c4 0 0,w1:=List.getD c4 1 0,w2:=List.getD c4 2 0,w3:=List.getD c4 3 0}
 let z3:=(qk z2 z2).fst
 let z4:List UInt64:=List.set (List.set (List.set (List.set c4 0 z3.w0) 1 z3.w1) 2 z3.w2) 3 z3.w3
 let z5:Nat:=List.length z4
 let z6:Bool:=decide (4<=z5)
 let z7:Bool:=decide (4<=List.length c3)
 let z8:aa:= {w0:=List.getD z4 0 0,w1:=List.getD z4 1 0,w2:=List.getD z4 2 0,w3:=List.getD z4 3 0}
 let z9:aa:= {w0:=List.getD c3 0 0,w1:=List.getD c3 1 0,w2:=List.getD c3 2 0,w3:=List.getD c3 3 0}
 let z10:Nat:=aa.nat z9
 let z11:Int:=Int.tdiv a10 (64:Int)
 let z12:Bool:=true&&inR z11
 let z13:Bool:=inB z11 4
 let z14:Bool:=decide (Int.toNat z11+0<List.length c1)
 let z15:=(ef z8 z9).fst
 let z16:List UInt64:=List.set (List.set (List.set (List.set z4 0 z15.w0) 1 z15.w1) 2 z15.w2) 3 z15.w3
 let z17:Nat:=List.length z16
 let z18:Bool:=decide (4<=List.length c0)
 let z19:aa:= {w0:=List.getD c0 0 0,w1:=List.getD c0 1 0,w2:=List.getD c0 2 0,w3:=List.getD c0 3 0}
 let z20:aa:=(qk {w0:=List.getD z16 0 0,w1:=List.getD z16 1 0,w2:=List.getD z16 2 0,w3:=List.getD z16 3 0} z19).fst
 let z21:List UInt64:=List.set (List.set (List.set (List.set z16 0 z20.w0) 1 z20.w1) 2 z20.w2) 3 z20.w3
 let z22:Nat:=List.length z21
 let z23:Bool:=decide (4<=z22)
 let z24:aa:= {w0:=List.getD z21 0 0,w1:=List.getD z21 1 0,w2:=List.getD z21 2 0,w3:=List.getD z21 3 0}
 let z25:Bool:=inR (a10-(1:Int))
 let z26:=(ef z24 z9).fst
 let z27:=(qk z8 z19).fst
 let z28:List UInt64:=List.set (List.set (List.set (List.set z4 0 z27.w0) 1 z27.w1) 2 z27.w2) 3 z27.w3
 let z29:Nat:=List.length z28
 let z30:Bool:=decide (4<=z29)
 let z31:aa:= {w0:=List.getD z28 0 0,w1:=List.getD z28 1 0,w2:=List.getD z28 2 0,w3:=List.getD z28 3 0}
 let z32:=(ef z31 z9).fst
 (.br (decide ((0:Int)<=a10))
 (gd [z1,z1,decide ((4/1:Nat)+0<=z0),z6,z7] (.br (!Nat.blt (aa.nat z8) z10)
  (gd [z6,z7,decide ((4/1:Nat)+0<=z5),z12,z13,z14] (.br (be (List.getD c1 (Int.toNat z11+0) (0:UInt64)) (↑(UInt64.toNat (i2u (Int.tmod a10 (64:Int)))):Int)&&&(1:UInt64)==(1:UInt64))
   (gd [decide (4<=z17),z18,decide ((4/1:Nat)+0<=z17),z23,z7] (.br (!Nat.blt (aa.nat z24) z10)
    (gd [z23,z7,decide ((4/1:Nat)+0<=z22),z25] (.ok (.inl (((),((),((),((),((),(a10-(1:Int),())))))),(c0,(c1,(c2,(c3,(List.set (List.set (List.set (List.set z21 0 z26.w0) 1 z26.w1) 2 z26.w2) 3 z26.w3,())))))))))
    (gd [z25] (.ok (.inl (((),((),((),((),((),(a10-(1:Int),())))))),(c0,(c1,(c2,(c3,(z21,())))))))))))
   (gd [z25] (.ok (.inl (((),((),((),((),((),(a10-(1:Int),())))))),(c0,(c1,(c2,(c3,(z16,())))))))))))
  (gd [z12,z13,z14] (.br (be (List.getD c1 (Int.toNat z11+0) (0:UInt64)) (↑(UInt64.toNat (i2u (Int.tmod a10 (64:Int)))):Int)&&&(1:UInt64)==(1:UInt64))
   (gd [z6,z18,decide ((4/1:Nat)+0<=z5),z30,z7] (.br (!Nat.blt (aa.nat z31) z10)
    (gd [z30,z7,decide ((4/1:Nat)+0<=z29),z25] (.ok (.inl (((),((),((),((),((),(a10-(1:Int),())))))),(c0,(c1,(c2,(c3,(List.set (List.set (List.set (List.set z28 0 z32.w0) 1 z32.w1) 2 z32.w2) 3 z32.w3,())))))))))
    (gd [z25] (.ok (.inl (((),((),((),((),((),(a10-(1:Int),())))))),(c0,(c1,(c2,(c3,(z28,())))))))))))
   (gd [z25] (.ok (.inl (((),((),((),((),((),(a10-(1:Int),())))))),(c0,(c1,(c2,(c3,(z4,())))))))))))))
 (.ok (.inr ⟨(.exit 0,vB),(((),((),())),(c2,(c4,())))⟩)))
def vC (s:cj):OT (Sum cj aE):=TU (s.1.2.2.2.2.2.1) (s.2.1) (s.2.2.1) (s.2.2.2.1) (s.2.2.2.2.1) (s.2.2.2.2.2.1)
theorem aAY (s:cj) (Q:Sum cj aE->Prop):wps te Gd av 1000 (aV (aj Tryz.f113) 0) (Bn.inj s) (bV Bn ajN (Q:Sum Bn.T aE->Prop))=(vC s).wpR Q:=by kernel_rfl
def IG (g0_0:cj->lU) (s:cj):OT aE:=(.ok ⟨(.exit 0,vB),g0_0 s⟩)
def dv:az:=⟨[.val true .elem],[],false⟩
def Yb:SV->Option az:=λ_=>some dv
def adE (ok0:cj->Bool) (g0_0:cj->lU) (a0:Int) (a1:aa) (a2:aa):OT gN.Y:=
 let z0:Bool:=ao a0
 let z1:UInt64:=WJ a0
 let z2:Bool:= !z1==(0:UInt64)
 let z3:Nat:=pS a0
 let z4:aa:=ofP z3 a1
 let z5:=z4.w0
 let z6:aa:=ofP z3 a2
 let z7:=z6.w0
 let z8:aa:= {w0:=z5*z7%z1,w1:=0,w2:=0,w3:=0}
 let z9:aa:= {w0:=z5*(0:UInt64)%z1,w1:=0,w2:=0,w3:=0}
 let z10:aa:= {w0:=0*z7%z1,w1:=0,w2:=0,w3:=0}
 let z11:aa:= {w0:=0%z1,w1:=0,w2:=0,w3:=0}
 let z12:PUnit×PUnit×PUnit×PUnit×PUnit×Int×PUnit:=((),(),(),(),(),(255:Int),())
 let z13:aa:=(aY (Int.toNat a0)).fst
 let z14:List UInt64×List UInt64×List UInt64×PUnit:=([(0:UInt64),(0:UInt64),(0:UInt64),(0:UInt64)],[z13.w0,z13.w1,z13.w2,z13.w3],[(0:UInt64),(0:UInt64),(0:UInt64),(0:UInt64)],())
 let z15:List UInt64×List UInt64×List UInt64×List UInt64×PUnit:=([z7,z6.w1,z6.w2,z6.w3],z14)
 let z16:(PUnit×PUnit×PUnit×PUnit×PUnit×Int×PUnit)×List UInt64×List UInt64×List UInt64×List UInt64×List UInt64×PUnit:=(z12,[z5,z4.w1,z4.w2,z4.w3],z15)
 let z17:=(g0_0 z16).snd
 let z18:=z17.snd.fst
 let z19:=z17.fst
 let z20:List UInt64:=lay z19 z18 4 (0:UInt64)
 let z21:List UInt64×List UInt64×List UInt64×List UInt64×PUnit:=([(0:UInt64),(0:UInt64),(0:UInt64),(0:UInt64)],z14)
 let z22:(PUnit×PUnit×PUnit×PUnit×PUnit×Int×PUnit)×List UInt64×List UInt64×List UInt64×List UInt64×List UInt64×PUnit:=(z12,[z5,z4.w1,z4.w2,z4.w3],z21)
 let z23:=(g0_0 z22).snd
 let z24:=z23.snd.fst
 let z25:=z23.fst
 let z26:List UInt64:=lay z25 z24 4 (0:UInt64)
 let z27:(PUnit×PUnit×PUnit×PUnit×PUnit×Int×PUnit)×List UInt64×List UInt64×List UInt64×List UInt64×List UInt64×PUnit:=(z12,[(0:UInt64),(0:UInt64),(0:UInt64),(0:UInt64)],z15)
 let z28:=(g0_0 z27).snd
 let z29:=z28.snd.fst
 let z30:=z28.fst
 let z31:List UInt64:=lay z30 z29 4 (0:UInt64)
 let z32:(PUnit×PUnit×PUnit×PUnit×PUnit×Int×PUnit)×List UInt64×List UInt64×List UInt64×List UInt64×List UInt64×PUnit:=(z12,[(0:UInt64),(0:UInt64),(0:UInt64),(0:UInt64)],z21)
 let z33:=(g0_0 z32).snd
 let z34:=z33.snd.fst
 let z35:=z33.fst
 let z36:List UInt64:=lay z35 z34 4 (0:UInt64)
 (.br (a0==(0:Int))
 (.br (z0)
  (.br (z0)
   (gd [z2] (.ok ⟨dv,((z8,()),())⟩))
   (gd [z2] (.ok ⟨dv,((z9,()),())⟩)))
  (.br (z0)
   (gd [z2] (.ok ⟨dv,((z10,()),())⟩))
   (gd [z2] (.ok ⟨dv,((z11,()),())⟩))))
 (.br (a0==(1:Int))
  (.br (z0)
   (.br (z0)
    (gd [z2] (.ok ⟨dv,((z8,()),())⟩))
    (gd [z2] (.ok ⟨dv,((z9,()),())⟩)))
   (.br (z0)
    (gd [z2] (.ok ⟨dv,((z10,()),())⟩))
    (gd [z2] (.ok ⟨dv,((z11,()),())⟩))))
  (.br (z0)
   (.br (z0)
    (.br (z0)
     (gd [ok0 z16,decide (4<=List.length z18),decide ((4/1:Nat)+0<=List.length z19),decide (4<=List.length z20)] (.ok ⟨dv,(({w0:=List.getD z20 0 0,w1:=List.getD z20 1 0,w2:=List.getD z20 2 0,w3:=List.getD z20 3 0},()),())⟩))
     (gd [ok0 z22,decide (4<=List.length z24),decide ((4/1:Nat)+0<=List.length z25),decide (4<=List.length z26)] (.ok ⟨dv,(({w0:=List.getD z26 0 0,w1:=List.getD z26 1 0,w2:=List.getD z26 2 0,w3:=List.getD z26 3 0},()),())⟩)))
    (.br (z0)
     (gd [ok0 z27,decide (4<=List.length z29),decide ((4/1:Nat)+0<=List.length z30),decide (4<=List.length z31)] (.ok ⟨dv,(({w0:=List.getD z31 0 0,w1:=List.getD z31 1 0,w2:=List.getD z31 2 0,w3:=List.getD z31 3 0},()),())⟩))
     (gd [ok0 z32,decide (4<=List.length z34),decide ((4/1:Nat)+0<=List.length z35),decide (4<=List.length z36)] (.ok ⟨dv,(({w0:=List.getD z36 0 0,w1:=List.getD z36 1 0,w2:=List.getD z36 2 0,w3:=List.getD z36 3 0},()),())⟩))))
   (.ok ⟨dv,(({w0:=0,w1:=0,w2:=0,w3:=0},()),())⟩))))
theorem aGB (ok0:cj->Bool) (g0_0:cj->lU) (x:Qt) (Q:gN.Y->Prop):wpf te Gd (aO 0 (cb Bn 0 ok0 (IG g0_0)) av) 1000 Tryz.f113 (gN.inp.inj x).tm (gN.inp.inj x).hp (fnK gN Yb Q) (λ_ _=>False)=(adE ok0 g0_0 (x.1.1) (x.1.2.1) (x.1.2.2.1)).wpR Q:=by kernel_rfl
theorem am9 (ok0:cj->Bool) (g0_0:cj->lU) (h0:∀ s:cj,ok0 s=true->∃ m e,al (vC) m s=some e/\(IG g0_0 s).run=some e) (pre:Qt->Bool) (F:Qt->OT gN.Y) (hF:∀ (x:Qt) oy,pre x=true->(F x).run=some oy->(adE ok0 g0_0 (x.1.1) (x.1.2.1) (x.1.2.2.1)).run=some oy):ac Tryz.prog 113 (gN.aH pre F):=
 aD aq xl NJ (f:=113) (fn:=Tryz.f113) (c:=aj Tryz.f113) (by kernel_rfl) (by kernel_rfl) (by kernel_rfl) (S:=gN) (k:=0) (by kernel_rfl) (λR hR=>(aB (c:=(aj Tryz.f113)) (by kernel_rfl) (id:=0) (by kernel_rfl) (aS aq xl NJ (sh:=Bn) hR (xs:=ajN) (aC (by kernel_rfl) (by kernel_rfl) hR) aK af (n:=1000) (T:=vC) (λs Q=>aAY s Q) (ok:=ok0) (f:=IG g0_0) h0) af)) (n:=1000) (sel:=Yb) (λv o h=>by cases h;rfl) (pre:=pre) (F:=F) (T:=λx=>adE ok0 g0_0 (x.1.1) (x.1.2.1) (x.1.2.2.1)) (λx Q=>aGB ok0 g0_0 x Q) hF
theorem an9 {s:Int} (h:s=0\/s=1) (a b:aa):(⟨(ofP (pS s) a).w0*(ofP (pS s) b).w0%WJ s,0,0,0⟩:aa)=bB (pS s) a b:=by
 obtain ⟨hp,h0,h1,_⟩:=BU h
 rw [hp]
 generalize WJ s=m at*
 have ha:=Nat.mod_lt a.nat h0
 have hb:=Nat.mod_lt b.nat h0
 have hc:=Nat.mod_lt (a.nat*b.nat) h0
 have hab:a.nat%m.toNat*(b.nat%m.toNat)<18446744073709551616:=by
  have:a.nat%m.toNat*(b.nat%m.toNat)<=16521217*16521217:=Nat.mul_le_mul (by omega) (by omega)
  omega
 unfold bB
 rw [tu (n:=a.nat*b.nat%m.toNat) (by omega)]
 have e:(ofP m.toNat a).w0*(ofP m.toNat b).w0%m=UInt64.ofNat (a.nat*b.nat%m.toNat):=by
  show UInt64.ofNat (a.nat%m.toNat)*UInt64.ofNat (b.nat%m.toNat)%m=_
  rw [<-UInt64.toNat_inj,UInt64.toNat_mod,UInt64.toNat_mul,UInt64.toNat_ofNat',UInt64.toNat_ofNat',UInt64.toNat_ofNat',Nat.mod_eq_of_lt (a:=a.nat%m.toNat) (by omega),Nat.mod_eq_of_lt (a:=b.nat%m.toNat) (by omega),
   Nat.mod_eq_of_lt (a:=a.nat%m.toNat*(b.nat%m.toNat)) (by omega),Nat.mod_eq_of_lt (a:=a.nat*b.nat%m.toNat) (by omega),<-Nat.mul_mod]
 rw [e]
def Cg (p a b:Nat) (n o:Nat):Nat:=cond (Sj b (255-n)) ((2*o%p+a)%p) (2*o%p)
theorem awF (p a b:Nat) (hb:b<2^256):∀ n,n<=256->upto (Cg p a b) 0 n=a*(b/2^(256-n))%p
 |0,_=>by
  show 0=_
  rw [Nat.div_eq_of_lt (by exact hb),Nat.mul_zero,Nat.zero_mod]
 |n+1,hn=>by
  show Cg p a b n (upto (Cg p a b) 0 n)=_
  rw [awF p a b hb n (by omega)]
  have e1:256-n=(255-n)+1:=by omega
  have e2:256-(n+1)=255-n:=by omega
  rw [e1,e2,Nat.pow_succ,<-Nat.div_div_eq_div_mul]
  unfold Cg Sj
  generalize b/2^(255-n)=q
  have hd:2*(a*(q/2)%p)%p=a*(2*(q/2))%p:=by
   rw [Nat.mul_mod,Nat.mod_mod,<-Nat.mul_mod,Nat.mul_left_comm]
  cases hq:Nat.beq (q%2) 1
  ·simp only [cond_false]
   have:¬q%2=1:=λe=>by rw [e] at hq;cases hq
   rw [hd,show 2*(q/2)=q by omega]
  ·have hq:=Nat.eq_of_beq_eq_true hq
   simp only [cond_true]
   rw [hd,Nat.mod_add_mod]
   have e3:a*(2*(q/2))+a=a*q:=by
    rw [<-Nat.mul_succ,show (2*(q/2)).succ=q by omega]
   rw [e3]
theorem aJo {z M:aa} (h:Nat.blt z.nat M.nat=true):z=ofN (z.nat%M.nat):=by
 rw [Nat.mod_eq_of_lt (ed h),wa]
theorem auY {n m:Nat} (h:Nat.blt n m=false):m<=n:=by
 rcases Nat.lt_or_ge n m with h'|h'
 ·have:Nat.blt n m=true:=Nat.ble_eq_true_of_le h'
  rw [this] at h;cases h
 ·exact h'
theorem aJn {z M:aa} (h:Nat.blt z.nat M.nat=false) (h2:z.nat<2*M.nat):(ef z M).1=ofN (z.nat%M.nat):=by
 have hle:=auY h
 have hz:=iQ z
 apply qW
 rw [mU hle,Nat.mod_eq_sub_mod hle,Nat.mod_eq_of_lt (by omega),ko (by omega)]
theorem sum_nat {a b:aa} (h:a.nat+b.nat<115792089237316195423570985008687907853269984665640564039457584007913129639936):(qk a b).1.nat=a.nat+b.nat:=ko h
theorem LR {k:Nat} (hk:k<64):(((i2u (k:Int)).toNat:Nat):Int)=(k:Int):=by
 unfold i2u
 rw [UInt64.toNat_ofNat']
 omega
theorem aD3 {b:aa} {n:Nat} (hn:n<256):(be (List.getD (lst b) (Int.toNat (Int.tdiv (255-(n:Int)) 64)+0) 0) (((i2u (Int.tmod (255-(n:Int)) 64)).toNat:Nat):Int)&&&1==1)=Sj b.nat (255-n):=by
 have t0:(255:Int)-(n:Int)=((255-n:Nat):Int):=by omega
 rw [t0]
 generalize hk:255-n=k
 have hk2:k<256:=by omega
 have t1:Int.tdiv (k:Int) 64=((k/64:Nat):Int):=by rw [Int.tdiv_eq_ediv_of_nonneg (by omega)];omega
 have t2:Int.tmod (k:Int) 64=((k%64:Nat):Int):=by rw [Int.tmod_eq_emod_of_nonneg (by omega)];omega
 rw [t1,t2,LR (by omega),V5,eY _ _ (by omega),Int.toNat_natCast,Nat.add_zero]
 have:=rB (a:=b) (q:=k/64) (r:=k%64) (by omega) (by omega)
 rw [show 64*(k/64)+k%64=k by omega] at this
 unfold Sj
 rw [<-this]
theorem aIz (e f:aa):List.set (List.set (List.set (List.set (lst e) 0 f.w0) 1 f.w1) 2 f.w2) 3 f.w3=lst f:=rfl
theorem aII (e:aa):(⟨List.getD (lst e) 0 0,List.getD (lst e) 1 0,List.getD (lst e) 2 0,List.getD (lst e) 3 0⟩:aa)=e:=rfl
def awG (A B:aa) (c2:List UInt64) (M:aa) (n o:Nat):cj:=(((),(),(),(),(),255-(n:Int),()),(lst A,lst B,c2,lst M,lst (ofN o),()))
theorem aH2 {A B M:aa} {c2:List UInt64} {n o:Nat} (hn:n<256) (hA:A.nat<M.nat) (ho:o<M.nat) (hM:2*M.nat<=115792089237316195423570985008687907853269984665640564039457584007913129639936):
 (vC (awG A B c2 M n o)).run=some (.inl (awG A B c2 M (n+1) (Cg M.nat A.nat B.nat n o))):=by
 have e2:(255:Int)-(n:Int)-1=255-((n+1:Nat):Int):=by omega
 have hO:(ofN o).nat=o:=ko (by omega)
 have hz:(qk (ofN o) (ofN o)).1.nat=2*o:=by rw [sum_nat (by omega),hO];omega
 have hbit:=aD3 (b:=B) hn
 have t0:(255:Int)-(n:Int)=((255-n:Nat):Int):=by omega
 have t1:Int.tdiv (255-(n:Int)) 64=(((255-n)/64:Nat):Int):=by rw [t0,Int.tdiv_eq_ediv_of_nonneg (by omega)];omega
 have gb:∀ z:OT (Sum cj aE),(gd [true&&inR (Int.tdiv (255-(n:Int)) 64),inB (Int.tdiv (255-(n:Int)) 64) 4,decide (Int.toNat (Int.tdiv (255-(n:Int)) 64)+0<(lst B).length)] z).run=z.run:=λz=>ah (by
  simp only [t1,Int.toNat_natCast,Nat.add_zero,cA,List.all_cons,List.all_nil,Bool.and_true,Bool.true_and,Bool.and_eq_true]
  exact ⟨aI (by omega),aN (by omega),decide_eq_true (by omega)⟩)
 have gb2:∀ z:OT (Sum cj aE),(gd [true,true,true,true&&inR (Int.tdiv (255-(n:Int)) 64),inB (Int.tdiv (255-(n:Int)) 64) 4,decide (Int.toNat (Int.tdiv (255-(n:Int)) 64)+0<(lst B).length)] z).run=z.run:=λz=>ah (by
  simp only [t1,Int.toNat_natCast,Nat.add_zero,cA,List.all_cons,List.all_nil,Bool.and_true,Bool.true_and,Bool.and_eq_true]
  exact ⟨aI (by omega),aN (by omega),decide_eq_true (by omega)⟩)
 have hi:inR ((255:Int)-(n:Int)-1)=true:=aI (by omega)
 have gi:∀ z:OT (Sum cj aE),(gd [inR ((255:Int)-(n:Int)-1)] z).run=z.run:=λz=>ah (by simp only [hi,List.all_cons,List.all_nil,Bool.and_true])
 have gi2:∀ z:OT (Sum cj aE),(gd [true,true,true,inR ((255:Int)-(n:Int)-1)] z).run=z.run:=λz=>ah (by simp only [hi,List.all_cons,List.all_nil,Bool.and_true])
 --behind the doubling
 have tail:∀ D:aa,D=ofN (2*o%M.nat)->
  (OT.br (be (List.getD (lst B) (Int.toNat (Int.tdiv (255-(n:Int)) 64)+0) 0) (((i2u (Int.tmod (255-(n:Int)) 64)).toNat:Nat):Int)&&&1==1)
   (gd [true,true,true,true,true] (OT.br (!Nat.blt (qk D A).1.nat M.nat)
    (gd [true,true,true,inR ((255:Int)-(n:Int)-1)] (.ok (.inl (((),(),(),(),(),(255:Int)-(n:Int)-1,()),(lst A,lst B,c2,lst M,lst (ef (qk D A).1 M).1,())))))
    (gd [inR ((255:Int)-(n:Int)-1)] (.ok (.inl (((),(),(),(),(),(255:Int)-(n:Int)-1,()),(lst A,lst B,c2,lst M,lst (qk D A).1,())))))))
   (gd [inR ((255:Int)-(n:Int)-1)] (.ok (.inl (((),(),(),(),(),(255:Int)-(n:Int)-1,()),(lst A,lst B,c2,lst M,lst D,()))))):OT (Sum cj aE)).run
  =some (.inl (awG A B c2 M (n+1) (Cg M.nat A.nat B.nat n o))):=λD hD=>by
  rw [hbit,e2]
  rw [e2] at gi gi2
  have hlt:=Nat.mod_lt (2*o) (show 0<M.nat by omega)
  have hDn:D.nat=2*o%M.nat:=by rw [hD];exact ko (by omega)
  have hw:(qk D A).1.nat=2*o%M.nat+A.nat:=by rw [sum_nat (by omega),hDn]
  unfold Cg
  rcases (Bool.eq_false_or_eq_true (Sj B.nat (255-n))).symm with hb|hb
  ·rw [hb,hD]
   exact (OT.ar rfl).trans (gi _)
  ·rw [hb]
   refine (OT.ap rfl).trans ((ah rfl).trans ?_)
   rcases (Bool.eq_false_or_eq_true (Nat.blt (qk D A).1.nat M.nat)).symm with hc|hc
   ·have er:=aJn hc (by omega)
    rw [hw] at er
    refine (OT.ap (by rw [hc];rfl)).trans ((gi2 _).trans ?_)
    rw [er]
    rfl
   ·have er:=aJo hc
    rw [hw] at er
    refine (OT.ar (by rw [hc];rfl)).trans ((gi _).trans ?_)
    rw [er]
    rfl
 show (TU (255-(n:Int)) (lst A) (lst B) c2 (lst M) (lst (ofN o))).run=_
 unfold TU
 simp only [aIz,aII,cA]
 refine (OT.ap (decide_eq_true (by omega))).trans ((ah rfl).trans ?_)
 rcases (Bool.eq_false_or_eq_true (Nat.blt (qk (ofN o) (ofN o)).1.nat M.nat)).symm with hc|hc
 ·have er:=aJn hc (by omega)
  rw [hz] at er
  exact (OT.ap (b:= !Nat.blt (qk (ofN o) (ofN o)).1.nat M.nat) (by rw [hc];rfl)).trans ((gb2 _).trans (tail _ er))
 ·have er:=aJo hc
  rw [hz] at er
  exact (OT.ar (b:= !Nat.blt (qk (ofN o) (ofN o)).1.nat M.nat) (by rw [hc];rfl)).trans ((gb _).trans (tail _ er))
def Yc (s:cj):Bool:=decide (s.1.2.2.2.2.2.1=255/\s.2.1.length=4/\s.2.2.1.length=4/\s.2.2.2.2.1.length=4/\s.2.2.2.2.2.1= [0,0,0,0]/\(elemOf s.2.1).nat<(elemOf s.2.2.2.2.1).nat/\2*(elemOf s.2.2.2.2.1).nat<=115792089237316195423570985008687907853269984665640564039457584007913129639936)
def ajO (s:cj):lU:=(((),(),()),(s.2.2.2.1,lst (ofN ((elemOf s.2.1).nat*(elemOf s.2.2.1).nat%(elemOf s.2.2.2.2.1).nat)),()))
theorem aA0:∀ s:cj,Yc s=true->∃ m e,al vC m s=some e/\(IG ajO s).run=some e:=by
 rintro ⟨⟨⟨⟩,⟨⟩,⟨⟩,⟨⟩,⟨⟩,i,⟨⟩⟩,⟨l0,l1,c2,l3,l4,⟨⟩⟩⟩ h
 have h':=of_decide_eq_true h
 dsimp only at h'
 obtain ⟨rfl,h0,h1,h3,rfl,hA,hM⟩:=h'
 obtain ⟨A,rfl⟩:∃ a,l0=lst a:=⟨elemOf l0,(aR h0).symm⟩
 obtain ⟨B,rfl⟩:∃ a,l1=lst a:=⟨elemOf l1,(aR h1).symm⟩
 obtain ⟨M,rfl⟩:∃ a,l3=lst a:=⟨elemOf l3,(aR h3).symm⟩
 have hA:A.nat<M.nat:=hA
 have:=(aP (T:=vC) (awG A B c2 M) (Cg M.nat A.nat B.nat)
  (λo=>(⟨(.exit 0,vB),(((),(),()),(c2,lst (ofN o),()))⟩:aE)) 256 0 (λ_ o=>o<M.nat) (by omega) (λn o hn ho=>⟨aH2 hn hA ho hM,?_⟩) (λo ho=> ?_)).1
 ·rw [awF M.nat A.nat B.nat (iQ B) 256 (by omega),Nat.sub_self,Nat.pow_zero,Nat.div_one] at this
  obtain ⟨m,hm⟩:=this
  exact ⟨m,_,hm,rfl⟩
 ·unfold Cg
  cases Sj B.nat (255-n)
  ·exact Nat.mod_lt _ (by omega)
  ·exact Nat.mod_lt _ (by omega)
 ·exact OT.ar (decide_eq_false (by dsimp only [awG];omega))
def cC (x:Qt):Bool:=ao x.1.1
def at2 (x:Qt):OT gN.Y:=.ok ⟨dv,((bB (pS x.1.1) x.1.2.1 x.1.2.2.1,()),())⟩
theorem au1 {s:Int} (hs:ao s=true) (a b:aa):ofN ((ofP (pS s) a).nat*(ofP (pS s) b).nat%pS s)=bB (pS s) a b:=by
 have hp:=o7 hs
 unfold ofP bB
 rw [dm hp,dm hp,<-Nat.mul_mod]
theorem aAZ:ac Tryz.prog 113 (gN.aH cC at2):=am9 Yc ajO aA0 _ _ λx oy hp ho=>by
 rw [<-ho]
 clear ho
 obtain ⟨⟨s,a,b,⟨⟩⟩,⟨⟩⟩:=x
 have hs:ao s=true:=hp
 show _=some (⟨dv,((bB (pS s) a b,()),())⟩:gN.Y)
 have little:(s=0\/s=1)->(gd [!(WJ s==0)] (.ok ⟨dv,((⟨(ofP (pS s) a).w0*(ofP (pS s) b).w0%WJ s,0,0,0⟩,()),())⟩):OT gN.Y).run=some (⟨dv,((bB (pS s) a b,()),())⟩:gN.Y):=λh=>by
  obtain ⟨_,_,_,hz⟩:=BU h
  rw [an9 h]
  exact ah (by simp only [hz,List.all_cons,List.all_nil,Bool.and_true])
 by_cases h0:s=0
 ·exact (OT.ap (by simpa using h0)).trans ((OT.ap hs).trans ((OT.ap hs).trans (little (.inl h0))))
 ·refine (OT.ar (by simpa using h0)).trans ?_
  by_cases h1:s=1
  ·exact (OT.ap (by simpa using h1)).trans ((OT.ap hs).trans ((OT.ap hs).trans (little (.inr h1))))
  ·refine (OT.ar (by simpa using h1)).trans ((OT.ap hs).trans ((OT.ap hs).trans ((OT.ap hs).trans ?_)))
   have hpp:=o7 hs
   have hA:(ofP (pS s) a).nat<pS s:=by
    show (ofN _).nat<_
    rw [dm hpp]
    exact Nat.mod_lt _ hpp.1
   refine (ah ?_).trans ?_
   ·simp only [List.all_cons,List.all_nil,Bool.and_true,Bool.and_eq_true]
    exact ⟨decide_eq_true ⟨rfl,rfl,rfl,rfl,rfl,hA,(by show 2*pS s<=_;omega)⟩,rfl,rfl,rfl⟩
   ·rw [<-au1 hs]
    show some (⟨dv,((elemOf (lay [0,0,0,0] (lst (ofN ((ofP (pS s) a).nat*(ofP (pS s) b).nat%pS s))) 4 0),()),())⟩:gN.Y)=_
    rw [aID _ _ rfl rfl]
    rfl
def Ey:cf:=(gN.aH cC at2)
theorem adD:ac Tryz.prog 113 Ey:=aAZ
theorem adC:aF Ey:=aA
def zU:Env:=ay 113 Ey Gd
theorem pW:aQ Tryz.prog zU:=ag adD xl
theorem HB:ax zU:=ae adC Hy
theorem zT:aU Tryz.prog te zU:=aJ follows aq pW HB
def jw:aw:=⟨[.val false .int,.val true .elem,.val true .elem],[],true,0,false⟩
abbrev QD:Type:=((Int)×(aa)×(aa)×Unit)×(Unit)
def Bs:Shape:=⟨53,[(0,.val false .int),(4,.ptr 0 0 0),(5,.ptr 1 0 0),(6,.ptr 2 0 0),(7,.ptr 3 0 0),(8,.val false .int)],[(0,.row .u64),(1,.row .u64),(2,.row .u64),(3,.row .u64)],0,true⟩
abbrev cS:Type:=((Int)×(Unit)×(Unit)×(Unit)×(Unit)×(Int)×Unit)×((List (UInt64))×(List (UInt64))×(List (UInt64))×(List (UInt64))×Unit)
def oI:Shape:=⟨53,[(0,.val false .int),(4,.ptr 0 0 0),(5,.ptr 1 0 0),(6,.ptr 2 0 0),(7,.ptr 3 0 0),(8,.val false .int)],[(0,.row .u64),(1,.row .u64),(2,.row .u64),(3,.row .u64)],0,true⟩
abbrev l5:Type:=((Int)×(Unit)×(Unit)×(Unit)×(Unit)×(Int)×Unit)×((List (UInt64))×(List (UInt64))×(List (UInt64))×(List (UInt64))×Unit)
def ajU:SE->Option Shape:=fp [(0,oI)] none
def aBa (a0:Int) (a8:Int) (c0:List (UInt64)) (c1:List (UInt64)) (c2:List (UInt64)) (c3:List (UInt64)):OT (Sum cS aE):=
 let z0:Int:=Int.tdiv a8 (64:Int)
 (.br (decide ((0:Int)<=a8))
 (gd [true&&inR z0,inB z0 4,decide (Int.toNat z0+0<List.length c1)] (.br (be (List.getD c1 (Int.toNat z0+0) (0:UInt64)) (↑(UInt64.toNat (i2u (Int.tmod a8 (64:Int)))):Int)&&&(1:UInt64)==(0:UInt64))
  (gd [inR (a8-(1:Int))] (.ok (.inl ((a0,((),((),((),((),(a8-(1:Int),())))))),(c0,(c1,(c2,(c3,()))))))))
  (.ok (.inr ⟨(.exit 0,oI),((a0,((),((),((),((),(a8,())))))),(c0,(c1,(c2,(c3,())))))⟩))))
 (.ok (.inr ⟨(.exit 0,oI),((a0,((),((),((),((),(a8,())))))),(c0,(c1,(c2,(c3,())))))⟩)))
def Bt (s:cS):OT (Sum cS aE):=aBa (s.1.1) (s.1.2.2.2.2.2.1) (s.2.1) (s.2.2.1) (s.2.2.2.1) (s.2.2.2.2.1)
theorem aA6 (s:cS) (Q:Sum cS aE->Prop):wps te zU av 1000 (aV (aj Tryz.f129) 0) (Bs.inj s) (bV Bs ajU (Q:Sum Bs.T aE->Prop))=(Bt s).wpR Q:=by kernel_rfl
def II (g0_0:cS->l5) (s:cS):OT aE:=(.ok ⟨(.exit 0,oI),g0_0 s⟩)
def Br:Shape:=⟨53,[(0,.val false .int),(4,.ptr 0 0 0),(5,.ptr 1 0 0),(6,.ptr 2 0 0),(7,.ptr 3 0 0),(9,.val false .int)],[(0,.row .u64),(1,.row .u64),(2,.row .u64),(3,.row .u64)],0,true⟩
abbrev dg:Type:=((Int)×(Unit)×(Unit)×(Unit)×(Unit)×(Int)×Unit)×((List (UInt64))×(List (UInt64))×(List (UInt64))×(List (UInt64))×Unit)
def vG:Shape:=⟨53,[(6,.ptr 0 0 0),(7,.ptr 1 0 0)],[(0,.row .u64),(1,.row .u64)],0,true⟩
abbrev lZ:Type:=((Unit)×(Unit)×Unit)×((List (UInt64))×(List (UInt64))×Unit)
def ajT:SE->Option Shape:=fp [(2,vG)] none
def TZ (a0:Int) (a9:Int) (c0:List (UInt64)) (c1:List (UInt64)) (c2:List (UInt64)) (c3:List (UInt64)):OT (Sum dg aE):=
 let z0:Nat:=List.length c3
 let z1:Bool:=decide (4<=z0)
 let z2:aa:= {w0:=List.getD c3 0 0,w1:=List.getD c3 1 0,w2:=List.getD c3 2 0,w3:=List.getD c3 3 0}
 let z3:Int:=Int.tdiv a9 (64:Int)
 let z4:Nat:=pS a0
 let z5:aa:=bB z4 z2 z2
 let z6:List UInt64:=List.set (List.set (List.set (List.set c3 0 z5.w0) 1 z5.w1) 2 z5.w2) 3 z5.w3
 let z7:Nat:=List.length z6
 let z8:aa:= {w0:=List.getD z6 0 0,w1:=List.getD z6 1 0,w2:=List.getD z6 2 0,w3:=List.getD z6 3 0}
 let z9:aa:= {w0:=List.getD c0 0 0,w1:=List.getD c0 1 0,w2:=List.getD c0 2 0,w3:=List.getD c0 3 0}
 let z10:Bool:=inR (a9-(1:Int))
 let z11:aa:=bB z4 z8 z9
 (.br (decide ((0:Int)<=a9))
 (gd [z1,z1,cC ((a0,z2,z2,()),()),decide ((4/1:Nat)+0<=z0),true&&inR z3,inB z3 4,decide (Int.toNat z3+0<List.length c1)] (.br (be (List.getD c1 (Int.toNat z3+0) (0:UInt64)) (↑(UInt64.toNat (i2u (Int.tmod a9 (64:Int)))):Int)&&&(1:UInt64)==(1:UInt64))
  (gd [decide (4<=z7),decide (4<=List.length c0),cC ((a0,z8,z9,()),()),decide ((4/1:Nat)+0<=z7),z10] (.ok (.inl ((a0,((),((),((),((),(a9-(1:Int),())))))),(c0,(c1,(c2,(List.set (List.set (List.set (List.set z6 0 z11.w0) 1 z11.w1) 2 z11.w2) 3 z11.w3,()))))))))
  (gd [z10] (.ok (.inl ((a0,((),((),((),((),(a9-(1:Int),())))))),(c0,(c1,(c2,(z6,()))))))))))
 (.ok (.inr ⟨(.exit 2,vG),(((),((),())),(c2,(c3,())))⟩)))
def vH (s:dg):OT (Sum dg aE):=TZ (s.1.1) (s.1.2.2.2.2.2.1) (s.2.1) (s.2.2.1) (s.2.2.2.1) (s.2.2.2.2.1)
theorem aA5 (s:dg) (Q:Sum dg aE->Prop):wps te zU av 1000 (aV (aj Tryz.f129) 2) (Br.inj s) (bV Br ajT (Q:Sum Br.T aE->Prop))=(vH s).wpR Q:=by kernel_rfl
def IH (g2_2:dg->lZ) (s:dg):OT aE:=(.ok ⟨(.exit 2,vG),g2_2 s⟩)
def vF:az:=⟨[.val true .elem],[],false⟩
def Yq:SV->Option az:=λ_=>some vF
def adZ (ok0:cS->Bool) (g0_0:cS->l5) (ok2:dg->Bool) (g2_2:dg->lZ) (a0:Int) (a1:aa) (a2:aa):OT jw.Y:=
 let z0:Int×PUnit×PUnit×PUnit×PUnit×Int×PUnit:=(a0,(),(),(),(),(255:Int),())
 let z1:aa:=ofP (pS a0) {w0:=1,w1:=0,w2:=0,w3:=0}
 let z2:(Int×PUnit×PUnit×PUnit×PUnit×Int×PUnit)×List UInt64×List UInt64×List UInt64×List UInt64×PUnit:=(z0,[a1.w0,a1.w1,a1.w2,a1.w3],[a2.w0,a2.w1,a2.w2,a2.w3],[(0:UInt64),(0:UInt64),(0:UInt64),(0:UInt64)],[z1.w0,z1.w1,z1.w2,z1.w3],())
 let z3:(Int×PUnit×PUnit×PUnit×PUnit×Int×PUnit)×List UInt64×List UInt64×List UInt64×List UInt64×PUnit:=g0_0 z2
 let z4:=z3.fst
 let z5:=z3.snd
 let z6:=z5.snd
 let z7:=z6.snd
 let z8:(Int×PUnit×PUnit×PUnit×PUnit×Int×PUnit)×List UInt64×List UInt64×List UInt64×List UInt64×PUnit:=((z4.fst,(),(),(),(),z4.snd.snd.snd.snd.snd.fst,()),z5.fst,z6.fst,z7.fst,z7.snd.fst,())
 let z9:=(g2_2 z8).snd
 let z10:=z9.snd.fst
 let z11:=z9.fst
 let z12:List UInt64:=lay z11 z10 4 (0:UInt64)
 let z13:(Int×PUnit×PUnit×PUnit×PUnit×Int×PUnit)×List UInt64×List UInt64×List UInt64×List UInt64×PUnit:=(z0,[a1.w0,a1.w1,a1.w2,a1.w3],[a2.w0,a2.w1,a2.w2,a2.w3],[(0:UInt64),(0:UInt64),(0:UInt64),(0:UInt64)],[(0:UInt64),(0:UInt64),(0:UInt64),(0:UInt64)],())
 let z14:(Int×PUnit×PUnit×PUnit×PUnit×Int×PUnit)×List UInt64×List UInt64×List UInt64×List UInt64×PUnit:=g0_0 z13
 let z15:=z14.fst
 let z16:=z14.snd
 let z17:=z16.snd
 let z18:=z17.snd
 let z19:(Int×PUnit×PUnit×PUnit×PUnit×Int×PUnit)×List UInt64×List UInt64×List UInt64×List UInt64×PUnit:=((z15.fst,(),(),(),(),z15.snd.snd.snd.snd.snd.fst,()),z16.fst,z17.fst,z18.fst,z18.snd.fst,())
 let z20:=(g2_2 z19).snd
 let z21:=z20.snd.fst
 let z22:=z20.fst
 let z23:List UInt64:=lay z22 z21 4 (0:UInt64)
 (.br (ao a0)
 (gd [ok0 z2,ok2 z8,decide (4<=List.length z10),decide ((4/1:Nat)+0<=List.length z11),decide (4<=List.length z12)] (.ok ⟨vF,(({w0:=List.getD z12 0 0,w1:=List.getD z12 1 0,w2:=List.getD z12 2 0,w3:=List.getD z12 3 0},()),())⟩))
 (gd [ok0 z13,ok2 z19,decide (4<=List.length z21),decide ((4/1:Nat)+0<=List.length z22),decide (4<=List.length z23)] (.ok ⟨vF,(({w0:=List.getD z23 0 0,w1:=List.getD z23 1 0,w2:=List.getD z23 2 0,w3:=List.getD z23 3 0},()),())⟩)))
theorem aGG (ok0:cS->Bool) (g0_0:cS->l5) (ok2:dg->Bool) (g2_2:dg->lZ) (x:QD) (Q:jw.Y->Prop):wpf te zU (aO 2 (cb Br 2 ok2 (IH g2_2)) (aO 0 (cb Bs 0 ok0 (II g0_0)) av)) 1000 Tryz.f129 (jw.inp.inj x).tm (jw.inp.inj x).hp (fnK jw Yq Q) (λ_ _=>False)=(adZ ok0 g0_0 ok2 g2_2 (x.1.1) (x.1.2.1) (x.1.2.2.1)).wpR Q:=by kernel_rfl
theorem ank (ok0:cS->Bool) (g0_0:cS->l5) (ok2:dg->Bool) (g2_2:dg->lZ) (h0:∀ s:cS,ok0 s=true->∃ m e,al (Bt) m s=some e/\(II g0_0 s).run=some e) (h2:∀ s:dg,ok2 s=true->∃ m e,al (vH) m s=some e/\(IH g2_2 s).run=some e) (pre:QD->Bool) (F:QD->OT jw.Y) (hF:∀ (x:QD) oy,pre x=true->(F x).run=some oy->(adZ ok0 g0_0 ok2 g2_2 (x.1.1) (x.1.2.1) (x.1.2.2.1)).run=some oy):ac Tryz.prog 129 (jw.aH pre F):=
 aD aq pW zT (f:=129) (fn:=Tryz.f129) (c:=aj Tryz.f129) (by kernel_rfl) (by kernel_rfl) (by kernel_rfl) (S:=jw) (k:=0) (by kernel_rfl) (λR hR=>(aB (c:=(aj Tryz.f129)) (by kernel_rfl) (id:=2) (by kernel_rfl) (aS aq pW zT (sh:=Br) hR (xs:=ajT) (aC (by kernel_rfl) (by kernel_rfl) hR) aK af (n:=1000) (T:=vH) (λs Q=>aA5 s Q) (ok:=ok2) (f:=IH g2_2) h2) (aB (c:=(aj Tryz.f129)) (by kernel_rfl) (id:=0) (by kernel_rfl) (aS aq pW zT (sh:=Bs) hR (xs:=ajU) (aC (by kernel_rfl) (by kernel_rfl) hR) aK af (n:=1000) (T:=Bt) (λs Q=>aA6 s Q) (ok:=ok0) (f:=II g0_0) h0) af))) (n:=1000) (sel:=Yq) (λv o h=>by cases h;rfl) (pre:=pre) (F:=F) (T:=λx=>adZ ok0 g0_0 ok2 g2_2 (x.1.1) (x.1.2.1) (x.1.2.2.1)) (λx Q=>aGG ok0 g0_0 ok2 g2_2 x Q) hF
theorem aek {p:Nat}:∀ (n o x k:Nat),k<2^n->o<p->aDD p n o x k=o*x^k%p
 |0,o,x,k,hk,ho=>by
  have:k=0:=by omega
  subst this
  show o=_
  rw [Nat.pow_zero,Nat.mul_one,Nat.mod_eq_of_lt ho]
 |n+1,o,x,k,hk,ho=>by
  unfold aDD
  rw [Nat.pow_succ] at hk
  cases h0:Nat.beq k 0
  ·simp only [cond_false]
   have hsq:(x*x%p)^(k/2)%p=x^(2*(k/2))%p:=by
    rw [<-Nat.pow_mod,Nat.pow_mul,Nat.pow_two]
   cases h1:Nat.beq (k%2) 1
   ·have h1':¬k%2=1:=λe=>by rw [e] at h1;cases h1
    simp only [cond_false]
    rw [aek n _ _ _ (by omega) ho,Nat.mul_mod,hsq,<-Nat.mul_mod,show 2*(k/2)=k by omega]
   ·have h1:=Nat.eq_of_beq_eq_true h1
    simp only [cond_true]
    rw [aek n _ _ _ (by omega) (Nat.mod_lt _ (by omega)),Nat.mul_mod,hsq,Nat.mod_mod,<-Nat.mul_mod,Nat.mul_assoc,<-Nat.pow_succ',show (2*(k/2)).succ=k by omega]
  ·have h0:=Nat.eq_of_beq_eq_true h0
   subst h0
   simp only [cond_true]
   rw [Nat.pow_zero,Nat.mul_one,Nat.mod_eq_of_lt ho]
theorem awt {p:Nat} (hp:1<p) (a k:aa):gD p a k=ofN (a.nat^k.nat%p):=by
 rw [Vw (by omega),aek 256 1 _ _ (iQ k) hp,Nat.one_mul,<-Nat.pow_mod]
theorem aKM {b:aa} {k:Nat} (hk:k<256):(be (List.getD (lst b) (Int.toNat (Int.tdiv (k:Int) 64)+0) 0) (((i2u (Int.tmod (k:Int) 64)).toNat:Nat):Int)&&&1==1)=Sj b.nat k:=by
 have h:=aD3 (b:=b) (n:=255-k) (by omega)
 rw [show (255:Int)-((255-k:Nat):Int)=(k:Int) by omega,show 255-(255-k)=k by omega] at h
 exact h
theorem amc (x:UInt64):(x&&&1==0)= !(x&&&1==1):=by
 have h:=V5 x
 have e:(x&&&1).toNat=x.toNat%2:=by
  rw [UInt64.toNat_and]
  exact Nat.and_two_pow_sub_one_eq_mod x.toNat 1
 have h2:x.toNat%2=0\/x.toNat%2=1:=by omega
 rcases h2 with h2|h2
 ·have:x&&&1=0:=UInt64.toNat_inj.1 (by rw [e,h2];rfl)
  rw [this];rfl
 ·have:x&&&1=1:=UInt64.toNat_inj.1 (by rw [e,h2];rfl)
  rw [this];rfl
def amA (e:Nat):Nat->Int
 |0=> -1
 |n+1=>cond (Sj e n) (n:Int) (amA e n)
theorem al2 {e n:Nat} (h:Sj e n=false):e/2^n%2=0:=by
 unfold Sj at h
 have:¬e/2^n%2=1:=λe=>by rw [e] at h;cases h
 omega
theorem JA (e:Nat):∀ n,e/2^n=0->∃ t:Nat,amA e n=(t:Int)-1/\t<=n/\e/2^t=0
 |0,h=>⟨0,rfl,Nat.le_refl _,h⟩
 |n+1,h=>by
  unfold amA
  cases hb:Sj e n
  ·simp only [cond_false]
   have h0:=al2 hb
   have h1:e/2^n/2=0:=by rw [Nat.div_div_eq_div_mul,<-Nat.pow_succ];exact h
   obtain ⟨t,e1,e2,e3⟩:=JA e n (by omega)
   exact ⟨t,e1,by omega,e3⟩
  ·exact ⟨n+1,by simp only [cond_true];omega,Nat.le_refl _,h⟩
def Pq (s:Int) (A B:aa) (c2:List UInt64) (O:aa) (i:Int):cS:=((s,(),(),(),(),i,()),(lst A,lst B,c2,lst O,()))
theorem aCk {B:aa} {k:Nat} (hk:k<256) {α:Type} (z:OT α):(gd [true&&inR (Int.tdiv (k:Int) 64),inB (Int.tdiv (k:Int) 64) 4,decide (Int.toNat (Int.tdiv (k:Int) 64)+0<(lst B).length)] z).run=z.run:=by
 have t1:Int.tdiv (k:Int) 64=((k/64:Nat):Int):=by rw [Int.tdiv_eq_ediv_of_nonneg (by omega)];omega
 refine ah ?_
 simp only [t1,Int.toNat_natCast,Nat.add_zero,cA,List.all_cons,List.all_nil,Bool.and_true,Bool.true_and,Bool.and_eq_true]
 exact ⟨aI (by omega),aN (by omega),decide_eq_true (by omega)⟩
theorem alo (s:Int) (A B:aa) (c2:List UInt64) (O:aa):∀ n:Nat,n<=256->∃ m,al Bt m (Pq s A B c2 O ((n:Int)-1))=some ⟨(.exit 0,oI),Pq s A B c2 O (amA B.nat n)⟩
 |0,_=>⟨1,aM (OT.ar (decide_eq_false (by dsimp only [Pq];omega)))⟩
 |n+1,hn=>by
  have e1:((n+1:Nat):Int)-1=(n:Int):=by omega
  rw [e1]
  have hb:=aKM (b:=B) (k:=n) (by omega)
  unfold amA
  rcases (Bool.eq_false_or_eq_true (Sj B.nat n)).symm with h|h
  ·obtain ⟨m,hm⟩:=alo s A B c2 O n (by omega)
   rw [h] at hb⊢
   refine ⟨m+1,aG ?_ hm⟩
   refine (OT.ap (decide_eq_true (by dsimp only [Pq];omega))).trans ((aCk (B:=B) (k:=n) (by omega) _).trans ((OT.ap ?_).trans ((ah ?_).trans rfl)))
   ·exact (amc _).trans (congrArg Bool.not hb)
   ·simp only [List.all_cons,List.all_nil,Bool.and_true]
    exact aI (by dsimp only [Pq];omega)
  ·rw [h] at hb⊢
   refine ⟨1,aM ?_⟩
   refine (OT.ap (decide_eq_true (by dsimp only [Pq];omega))).trans ((aCk (B:=B) (k:=n) (by omega) _).trans ((OT.ar ?_).trans rfl))
   exact (amc _).trans (congrArg Bool.not hb)
def Yr (s:cS):Bool:=decide (s.1.2.2.2.2.2.1=255/\s.2.1.length=4/\s.2.2.1.length=4/\s.2.2.2.2.1.length=4)
def ajW (s:cS):l5:=((s.1.1,(),(),(),(),amA (elemOf s.2.2.1).nat 256,()),s.2)
theorem aA9:∀ s:cS,Yr s=true->∃ m e,al Bt m s=some e/\(II ajW s).run=some e:=by
 rintro ⟨⟨s,⟨⟩,⟨⟩,⟨⟩,⟨⟩,i,⟨⟩⟩,⟨l0,l1,c2,l3,⟨⟩⟩⟩ h
 have h':=of_decide_eq_true h
 dsimp only at h'
 obtain ⟨rfl,h0,h1,h3⟩:=h'
 obtain ⟨A,rfl⟩:∃ a,l0=lst a:=⟨elemOf l0,(aR h0).symm⟩
 obtain ⟨B,rfl⟩:∃ a,l1=lst a:=⟨elemOf l1,(aR h1).symm⟩
 obtain ⟨O,rfl⟩:∃ a,l3=lst a:=⟨elemOf l3,(aR h3).symm⟩
 obtain ⟨m,hm⟩:=alo s A B c2 O 256 (by omega)
 exact ⟨m,_,hm,rfl⟩
theorem aHT {s:Int} (hs:ao s=true) (A B:aa) (c2:List UInt64) (O:aa) {k:Nat} (hk:k<256) (hO:O=ofN (A.nat^(B.nat/2^(k+1))%pS s)):
 (vH (Pq s A B c2 O (k:Int))).run=some (.inl (Pq s A B c2 (ofN (A.nat^(B.nat/2^k)%pS s)) ((k:Int)-1))):=by
 have hp:=o7 hs
 have hb:=aKM (b:=B) (k:=k) hk
 have t1:Int.tdiv (k:Int) 64=((k/64:Nat):Int):=by rw [Int.tdiv_eq_ediv_of_nonneg (by omega)];omega
 have hOn:O.nat=A.nat^(B.nat/2^(k+1))%pS s:=by rw [hO];exact dm hp
 have hi:inR ((k:Int)-1)=true:=aI (by omega)
 have hpre:∀ x y,cC ((s,x,y,()),())=true:=λ_ _=>hs
 have hD:bB (pS s) O O=ofN (A.nat^(2*(B.nat/2^(k+1)))%pS s):=by
  unfold bB
  rw [hOn,<-Nat.mul_mod,<-Nat.pow_add,<-Nat.two_mul]
 have hq:B.nat/2^k/2=B.nat/2^(k+1):=by rw [Nat.div_div_eq_div_mul,<-Nat.pow_succ]
 show (TZ s (k:Int) (lst A) (lst B) c2 (lst O)).run=_
 unfold TZ
 simp only [aIz,aII,cA,hpre,hi]
 refine (OT.ap (decide_eq_true (by omega))).trans ((ah ?_).trans ?_)
 ·simp only [t1,Int.toNat_natCast,Nat.add_zero,cA,List.all_cons,List.all_nil,Bool.and_true,Bool.true_and,Bool.and_eq_true]
  exact ⟨rfl,rfl,rfl,aI (by omega),aN (by omega),decide_eq_true (by omega)⟩
 ·rcases (Bool.eq_false_or_eq_true (Sj B.nat k)).symm with h|h
  ·have h0:=al2 h
   rw [h] at hb
   refine (OT.ar hb).trans ((ah rfl).trans ?_)
   rw [hD,<-hq,show 2*(B.nat/2^k/2)=B.nat/2^k by omega]
   rfl
  ·have h0:B.nat/2^k%2=1:=Nat.eq_of_beq_eq_true h
   rw [h] at hb
   refine (OT.ap hb).trans ((ah rfl).trans ?_)
   have e:bB (pS s) (bB (pS s) O O) A=ofN (A.nat^(B.nat/2^k)%pS s):=by
    have e2:(bB (pS s) O O).nat=A.nat^(2*(B.nat/2^(k+1)))%pS s:=by rw [hD];exact dm hp
    show ofN (_*_%_)=_
    rw [e2,Nat.mod_mul_mod,<-Nat.pow_succ,<-hq,show (2*(B.nat/2^k/2)).succ=B.nat/2^k by omega]
   rw [e]
   rfl
theorem aln {s:Int} (hs:ao s=true) (A B:aa) (c2:List UInt64):∀ (n:Nat) (O:aa),n<=256->O=ofN (A.nat^(B.nat/2^n)%pS s)->
 ∃ m,al vH m (Pq s A B c2 O ((n:Int)-1))=some ⟨(.exit 2,vG),(((),(),()),(c2,lst (ofN (A.nat^B.nat%pS s)),()))⟩
 |0,O,_,hO=>by
  rw [Nat.pow_zero,Nat.div_one] at hO
  rw [<-hO]
  exact ⟨1,aM (OT.ar (decide_eq_false (by dsimp only [Pq];omega)))⟩
 |n+1,O,hn,hO=>by
  obtain ⟨m,hm⟩:=aln hs A B c2 n (ofN (A.nat^(B.nat/2^n)%pS s)) (by omega) rfl
  rw [show ((n+1:Nat):Int)-1=(n:Int) by omega]
  exact ⟨m+1,aG (aHT hs A B c2 O (by omega) hO) hm⟩
def Kr (s:dg):Bool:=ao s.1.1&&decide (s.1.2.2.2.2.2.1=amA (elemOf s.2.2.1).nat 256/\s.2.1.length=4/\s.2.2.1.length=4/\s.2.2.2.2.1=lst (ofP (pS s.1.1) ⟨1,0,0,0⟩))
def ajV (s:dg):lZ:=(((),(),()),(s.2.2.2.1,lst (ofN ((elemOf s.2.1).nat^(elemOf s.2.2.1).nat%pS s.1.1)),()))
theorem aA8:∀ s:dg,Kr s=true->∃ m e,al vH m s=some e/\(IH ajV s).run=some e:=by
 rintro ⟨⟨s,⟨⟩,⟨⟩,⟨⟩,⟨⟩,i,⟨⟩⟩,⟨l0,l1,c2,l3,⟨⟩⟩⟩ h
 simp only [Kr,Bool.and_eq_true,decide_eq_true_eq] at h
 obtain ⟨hs,rfl,h0,h1,rfl⟩:=h
 obtain ⟨A,rfl⟩:∃ a,l0=lst a:=⟨elemOf l0,(aR h0).symm⟩
 obtain ⟨B,rfl⟩:∃ a,l1=lst a:=⟨elemOf l1,(aR h1).symm⟩
 obtain ⟨t,e1,e2,e3⟩:=JA B.nat 256 (Nat.div_eq_of_lt (iQ B))
 obtain ⟨m,hm⟩:=aln hs A B c2 t (ofP (pS s) ⟨1,0,0,0⟩) e2 (by rw [e3,Nat.pow_zero];rfl)
 rw [<-e1] at hm
 exact ⟨m,_,hm,rfl⟩
theorem aJx {s:Int} (h:ao s=true):1<pS s:=aDF h
def lY (x:QD):Bool:=ao x.1.1
def aud (x:QD):OT jw.Y:=.ok ⟨vF,((gD (pS x.1.1) x.1.2.1 x.1.2.2.1,()),())⟩
theorem aA7:ac Tryz.prog 129 (jw.aH lY aud):=ank Yr ajW Kr ajV aA9 aA8 _ _ λx oy hp ho=>by
 rw [<-ho]
 clear ho
 obtain ⟨⟨s,a,b,⟨⟩⟩,⟨⟩⟩:=x
 have hs:ao s=true:=hp
 show _=some (⟨vF,((gD (pS s) a b,()),())⟩:jw.Y)
 rw [awt (aJx hs)]
 refine (OT.ap hs).trans ((ah ?_).trans ?_)
 ·simp only [List.all_cons,List.all_nil,Bool.and_true,Bool.and_eq_true]
  refine ⟨decide_eq_true ⟨rfl,rfl,rfl,rfl⟩,?_,rfl,rfl,rfl⟩
  refine (Bool.and_eq_true _ _).mpr ⟨hs,?_⟩
  exact decide_eq_true ⟨rfl,rfl,rfl,rfl⟩
 ·show some (⟨vF,((elemOf (lay [0,0,0,0] (lst (ofN (a.nat^b.nat%pS s))) 4 0),()),())⟩:jw.Y)=_
  rw [aID _ _ rfl rfl]
  rfl
def EG:cf:=(jw.aH lY aud)
theorem adY:ac Tryz.prog 129 EG:=aA7
theorem adX:aF EG:=aA
def NT:Env:=ay 129 EG zU
theorem Gl:aQ Tryz.prog NT:=ag adY pW
theorem HH:ax NT:=ae adX HB
theorem agF:aU Tryz.prog te NT:=aJ follows aq Gl HH
def kk:aw:=⟨[.val false .int,.val true .elem],[],true,0,false⟩
abbrev Qx:Type:=((Int)×(aa)×Unit)×(Unit)
def kL:az:=⟨[.val true .elem,.val false .int],[],false⟩
def Yk:SV->Option az:=λ_=>some kL
def adN (a0:Int) (a1:aa):OT kk.Y:=
 let z0:Bool:=ao a0
 let z1:Nat:=pS a0
 let z2:aa:=ofP z1 a1
 let z3:aa:= {w0:=0,w1:=0,w2:=0,w3:=0}
 let z4:aa:=(ef (aY (Int.toNat a0)).fst {w0:=2,w1:=0,w2:=0,w3:=0}).fst
 (.br (z0)
 (.br (z0)
  (.br (z2.w0==(0:UInt64)&&(z2.w1==(0:UInt64)&&(z2.w2==(0:UInt64)&&(z2.w3==(0:UInt64)&&true))))
   (.ok ⟨kL,((z3,((10:Int),())),())⟩)
   (gd [lY ((a0,a1,z4,()),())] (.ok ⟨kL,((gD z1 a1 z4,((0:Int),())),())⟩)))
  (.ok ⟨kL,((z3,((10:Int),())),())⟩))
 (.ok ⟨kL,((z3,((20:Int),())),())⟩))
theorem aGE (x:Qx) (Q:kk.Y->Prop):wpf te NT av 1000 Tryz.f174 (kk.inp.inj x).tm (kk.inp.inj x).hp (fnK kk Yk Q) (λ_ _=>False)=(adN (x.1.1) (x.1.2.1)).wpR Q:=by kernel_rfl
theorem anh (pre:Qx->Bool) (F:Qx->OT kk.Y) (hF:∀ (x:Qx) oy,pre x=true->(F x).run=some oy->(adN (x.1.1) (x.1.2.1)).run=some oy):ac Tryz.prog 174 (kk.aH pre F):=
 aD aq Gl agF (f:=174) (fn:=Tryz.f174) (c:=aj Tryz.f174) (by kernel_rfl) (by kernel_rfl) (by kernel_rfl) (S:=kk) (k:=0) (by kernel_rfl) (λR hR=>af) (n:=1000) (sel:=Yk) (λv o h=>by cases h;rfl) (pre:=pre) (F:=F) (T:=λx=>adN (x.1.1) (x.1.2.1)) (λx Q=>aGE x Q) hF
def Km (x:Qx):Bool:=ao x.1.1
def at7 (x:Qx):OT kk.Y:=.br (Nat.beq (x.1.2.1.nat%pS x.1.1) 0) (.ok ⟨kL,((⟨0,0,0,0⟩,((10:Int),())),())⟩) (.ok ⟨kL,((aBU (pS x.1.1) x.1.2.1,((0:Int),())),())⟩)
theorem aA2:ac Tryz.prog 174 (kk.aH Km at7):=anh _ _ λx oy hp ho=>by
 rw [<-ho]
 clear ho
 obtain ⟨⟨s,a,⟨⟩⟩,⟨⟩⟩:=x
 have hs:ao s=true:=hp
 have hz:bN (ofP (pS s) a)=Nat.beq (a.nat%pS s) 0:=agX (o7 hs) _
 refine (OT.ap hs).trans ((OT.ap hs).trans ?_)
 show _=(OT.br (Nat.beq (a.nat%pS s) 0) (.ok ⟨kL,((⟨0,0,0,0⟩,((10:Int),())),())⟩) (.ok ⟨kL,((aBU (pS s) a,((0:Int),())),())⟩):OT kk.Y).run
 rw [<-avv hs,<-hz]
 rcases (Bool.eq_false_or_eq_true (bN (ofP (pS s) a))).symm with h|h
 ·refine (OT.ar h).trans (Eq.trans ((ah ?_).trans rfl) (OT.ar (b:=bN (ofP (pS s) a)) h).symm)
  simp only [List.all_cons,List.all_nil,Bool.and_true]
  exact hs
 ·exact (OT.ap h).trans (OT.ap (b:=bN (ofP (pS s) a)) h).symm
def EC:cf:=(kk.aH Km at7)
theorem adM:ac Tryz.prog 174 EC:=aA2
theorem adL:aF EC:=aA
def NQ:Env:=ay 174 EC NT
theorem Gi:aQ Tryz.prog NQ:=ag adM Gl
theorem HE:ax NQ:=ae adL HH
theorem agE:aU Tryz.prog te NQ:=aJ follows aq Gi HE
def rY:aw:=⟨[.val false .int,.val true .elem,.val true .elem],[],true,0,false⟩
abbrev anp:Type:=((Int)×(aa)×(aa)×Unit)×(Unit)
def Kv:az:=⟨[.val true .elem],[],false⟩
def ajX:SV->Option az:=λ_=>some Kv
def auf (a0:Int) (a1:aa) (a2:aa):OT rY.Y:=
 let z0:Nat:=pS a0
 let z1:aa:= {w0:=0,w1:=0,w2:=0,w3:=0}
 let z2:aa:=aBU z0 a2
 (gd [Km ((a0,a2,()),())] (.br (Nat.beq (aa.nat a2%z0) 0)
 (gd [cC ((a0,a1,z1,()),())] (.ok ⟨Kv,((bB z0 a1 z1,()),())⟩))
 (gd [cC ((a0,a1,z2,()),())] (.ok ⟨Kv,((bB z0 a1 z2,()),())⟩))))
theorem aJt (x:anp) (Q:rY.Y->Prop):wpf te NQ av 1000 Tryz.f173 (rY.inp.inj x).tm (rY.inp.inj x).hp (fnK rY ajX Q) (λ_ _=>False)=(auf (x.1.1) (x.1.2.1) (x.1.2.2.1)).wpR Q:=by kernel_rfl
theorem aue (pre:anp->Bool) (F:anp->OT rY.Y) (hF:∀ (x:anp) oy,pre x=true->(F x).run=some oy->(auf (x.1.1) (x.1.2.1) (x.1.2.2.1)).run=some oy):ac Tryz.prog 173 (rY.aH pre F):=
 aD aq Gi agE (f:=173) (fn:=Tryz.f173) (c:=aj Tryz.f173) (by kernel_rfl) (by kernel_rfl) (by kernel_rfl) (S:=rY) (k:=0) (by kernel_rfl) (λR hR=>af) (n:=1000) (sel:=ajX) (λv o h=>by cases h;rfl) (pre:=pre) (F:=F) (T:=λx=>auf (x.1.1) (x.1.2.1) (x.1.2.2.1)) (λx Q=>aJt x Q) hF
def byP (p:Nat) (a b:aa):aa:=bB p a (aHm p b)
def IJ (x:anp):Bool:=ao x.1.1
def aDB (x:anp):OT rY.Y:=.ok ⟨Kv,((byP (pS x.1.1) x.1.2.1 x.1.2.2.1,()),())⟩
theorem aGH:ac Tryz.prog 173 (rY.aH IJ aDB):=aue _ _ λx oy hp ho=>by
 rw [<-ho]
 clear ho
 obtain ⟨⟨s,a,b,⟨⟩⟩,⟨⟩⟩:=x
 have hs:ao s=true:=hp
 show _=some (⟨Kv,((byP (pS s) a b,()),())⟩:rY.Y)
 refine (ah ?_).trans ?_
 ·simp only [List.all_cons,List.all_nil,Bool.and_true,Bool.and_eq_true]
  exact hs
 ·rcases (Bool.eq_false_or_eq_true (Nat.beq (b.nat%pS s) 0)).symm with h|h
  ·have e:aHm (pS s) b=aBU (pS s) b:=by unfold aHm;rw [h];rfl
   unfold byP
   rw [e]
   refine (OT.ar h).trans ((ah ?_).trans rfl)
   simp only [List.all_cons,List.all_nil,Bool.and_true]
   exact hs
  ·have e:aHm (pS s) b=⟨0,0,0,0⟩:=by unfold aHm;rw [h];rfl
   unfold byP
   rw [e]
   refine (OT.ap h).trans ((ah ?_).trans rfl)
   simp only [List.all_cons,List.all_nil,Bool.and_true]
   exact hs
def Ku:cf:=(rY.aH IJ aDB)
theorem ano:ac Tryz.prog 173 Ku:=aGH
theorem ann:aF Ku:=aA
def SG:Env:=ay 173 Ku NQ
theorem C5:aQ Tryz.prog SG:=ag ano Gi
theorem NU:ax SG:=ae ann HE
theorem SF:aU Tryz.prog te SG:=aJ follows aq C5 NU
def gI:aw:=⟨[.val true .elem],[],true,0,false⟩
abbrev EF:Type:=((aa)×Unit)×(Unit)
def s6:Shape:=⟨29,[(1,.ptr 0 0 0),(2,.ptr 1 0 0),(3,.ptr 2 0 0),(4,.val false .int)],[(0,.row .u64),(1,.row .u64),(2,.row .u64)],0,true⟩
abbrev cy:Type:=((Unit)×(Unit)×(Unit)×(Int)×Unit)×((List (UInt64))×(List (UInt64))×(List (UInt64))×Unit)
def qL:Shape:=⟨29,[(2,.ptr 0 0 0),(3,.ptr 1 0 0)],[(0,.row .u64),(1,.row .u64)],0,true⟩
abbrev j2:Type:=((Unit)×(Unit)×Unit)×((List (UInt64))×(List (UInt64))×Unit)
def Ym:SE->Option Shape:=fp [(0,qL)] none
def auc (a4:Int) (c0:List (UInt64)) (c1:List (UInt64)) (c2:List (UInt64)):OT (Sum cy aE):=
 let z0:Bool:=inB a4 4
 let z1:Nat:=List.length c0
 let z2:List UInt64:=List.set c2 (Int.toNat a4+0) (be (List.getD c0 (Int.toNat a4+0) (0:UInt64)) (1:Int))
 let z3:Bool:=decide (Int.toNat a4+0<List.length z2)
 let z4:Bool:=inR (a4+(1:Int))
 (.br (decide (a4<(4:Int)))
 (gd [z0,decide (Int.toNat a4+0<z1),z0,decide (Int.toNat a4+0<List.length c2)] (.br (decide (a4<(3:Int)))
  (gd [z0,z3,z4,inB (a4+(1:Int)) 4,decide (Int.toNat (a4+(1:Int))+0<z1),z0,z3,z4] (.ok (.inl (((),((),((),(a4+(1:Int),())))),(c0,(c1,(List.set z2 (Int.toNat a4+0) (List.getD z2 (Int.toNat a4+0) (0:UInt64)|||bP (List.getD c0 (Int.toNat (a4+(1:Int))+0) (0:UInt64)) (63:Int)),())))))))
  (gd [z4] (.ok (.inl (((),((),((),(a4+(1:Int),())))),(c0,(c1,(z2,())))))))))
 (.ok (.inr ⟨(.exit 0,qL),(((),((),())),(c1,(c2,())))⟩)))
def iw (s:cy):OT (Sum cy aE):=auc (s.1.2.2.2.1) (s.2.1) (s.2.2.1) (s.2.2.2.1)
theorem at9 (s:cy) (Q:Sum cy aE->Prop):wps te SG av 1000 (aV (aj Tryz.f130) 0) (s6.inj s) (bV s6 Ym (Q:Sum s6.T aE->Prop))=(iw s).wpR Q:=by kernel_rfl
def Bq (g0_0:cy->j2) (s:cy):OT aE:=(.ok ⟨(.exit 0,qL),g0_0 s⟩)
def s7:az:=⟨[.val true .elem],[],false⟩
def QA:SV->Option az:=λ_=>some s7
def TY (ok0:cy->Bool) (g0_0:cy->j2) (a0:aa):OT gI.Y:=
 let z0:(PUnit×PUnit×PUnit×Int×PUnit)×List UInt64×List UInt64×List UInt64×PUnit:=(((),(),(),(0:Int),()),[a0.w0,a0.w1,a0.w2,a0.w3],[(0:UInt64),(0:UInt64),(0:UInt64),(0:UInt64)],[(0:UInt64),(0:UInt64),(0:UInt64),(0:UInt64)],())
 let z1:=(g0_0 z0).snd
 let z2:=z1.snd.fst
 let z3:=z1.fst
 let z4:List UInt64:=lay z3 z2 4 (0:UInt64)
 (gd [ok0 z0,decide (4<=List.length z2),decide ((4/1:Nat)+0<=List.length z3),decide (4<=List.length z4)] (.ok ⟨s7,(({w0:=List.getD z4 0 0,w1:=List.getD z4 1 0,w2:=List.getD z4 2 0,w3:=List.getD z4 3 0},()),())⟩))
theorem aA4 (ok0:cy->Bool) (g0_0:cy->j2) (x:EF) (Q:gI.Y->Prop):wpf te SG (aO 0 (cb s6 0 ok0 (Bq g0_0)) av) 1000 Tryz.f130 (gI.inp.inj x).tm (gI.inp.inj x).hp (fnK gI QA Q) (λ_ _=>False)=(TY ok0 g0_0 (x.1.1)).wpR Q:=by kernel_rfl
theorem adW (ok0:cy->Bool) (g0_0:cy->j2) (h0:∀ s:cy,ok0 s=true->∃ m e,al (iw) m s=some e/\(Bq g0_0 s).run=some e) (pre:EF->Bool) (F:EF->OT gI.Y) (hF:∀ (x:EF) oy,pre x=true->(F x).run=some oy->(TY ok0 g0_0 (x.1.1)).run=some oy):ac Tryz.prog 130 (gI.aH pre F):=
 aD aq C5 SF (f:=130) (fn:=Tryz.f130) (c:=aj Tryz.f130) (by kernel_rfl) (by kernel_rfl) (by kernel_rfl) (S:=gI) (k:=0) (by kernel_rfl) (λR hR=>(aB (c:=(aj Tryz.f130)) (by kernel_rfl) (id:=0) (by kernel_rfl) (aS aq C5 SF (sh:=s6) hR (xs:=Ym) (aC (by kernel_rfl) (by kernel_rfl) hR) aK af (n:=1000) (T:=iw) (λs Q=>at9 s Q) (ok:=ok0) (f:=Bq g0_0) h0) af)) (n:=1000) (sel:=QA) (λv o h=>by cases h;rfl) (pre:=pre) (F:=F) (T:=λx=>TY ok0 g0_0 (x.1.1)) (λx Q=>aA4 ok0 g0_0 x Q) hF
def rh (a:aa) (c1 l:List UInt64) (i:Int):cy:=(((),(),(),i,()),(lst a,c1,l,()))
theorem aJP (a:aa) (c1:List UInt64):(iw (rh a c1 [0,0,0,0] 0)).run=some (.inl (rh a c1 [be a.w0 1|||bP a.w1 63,0,0,0] 1)):=rfl
theorem aJO (a:aa) (c1:List UInt64) (x:UInt64):(iw (rh a c1 [x,0,0,0] 1)).run=some (.inl (rh a c1 [x,be a.w1 1|||bP a.w2 63,0,0] 2)):=rfl
theorem aJN (a:aa) (c1:List UInt64) (x y:UInt64):(iw (rh a c1 [x,y,0,0] 2)).run=some (.inl (rh a c1 [x,y,be a.w2 1|||bP a.w3 63,0] 3)):=rfl
theorem aJM (a:aa) (c1:List UInt64) (x y z:UInt64):(iw (rh a c1 [x,y,z,0] 3)).run=some (.inl (rh a c1 [x,y,z,be a.w3 1] 4)):=rfl
theorem aJL (a:aa) (c1 l:List UInt64):(iw (rh a c1 l 4)).run=some (.inr ⟨(.exit 0,qL),(((),(),()),(c1,l,()))⟩):=rfl
def QC (s:cy):Bool:=decide (s.1.2.2.2.1=0/\s.2.1.length=4/\s.2.2.2.1= [0,0,0,0])
def Yp (s:cy):j2:=(((),(),()),(s.2.2.1,lst (dq (elemOf s.2.1)),()))
theorem aub:∀ s:cy,QC s=true->∃ m e,al iw m s=some e/\(Bq Yp s).run=some e:=by
 rintro ⟨⟨⟨⟩,⟨⟩,⟨⟩,i,⟨⟩⟩,⟨l,c1,c2,⟨⟩⟩⟩ h
 have h':=of_decide_eq_true h
 dsimp only at h'
 obtain ⟨rfl,hl,rfl⟩:=h'
 obtain ⟨a,rfl⟩:∃ a,l=lst a:=⟨elemOf l,(aR hl).symm⟩
 refine ⟨_,_,aG (aJP a c1) (aG (aJO a c1 _) (aG (aJN a c1 _ _) (aG (aJM a c1 _ _ _) (aM (aJL a c1 _))))),?_⟩
 have e: [be a.w0 1|||bP a.w1 63,be a.w1 1|||bP a.w2 63,be a.w2 1|||bP a.w3 63,be a.w3 1]=lst (dq a):=by rw [akN];rfl
 rw [e]
 rfl
def QB (_:EF):Bool:=true
def ajS (x:EF):OT gI.Y:=.ok ⟨s7,((dq x.1.1,()),())⟩
theorem aua:ac Tryz.prog 130 (gI.aH QB ajS):=adW QC Yp aub _ _ λx oy hp ho=>by
 rw [<-ho]
 clear ho
 obtain ⟨⟨a,⟨⟩⟩,⟨⟩⟩:=x
 refine (ah ?_).trans ?_
 ·simp only [List.all_cons,List.all_nil,Bool.and_true,Bool.and_eq_true]
  exact ⟨decide_eq_true ⟨rfl,rfl,rfl⟩,rfl,rfl,rfl⟩
 ·show some (⟨s7,((elemOf (lay [0,0,0,0] (lst (dq a)) 4 0),()),())⟩:gI.Y)=some ⟨s7,((dq a,()),())⟩
  rw [aID _ _ rfl rfl]
  rfl
def yL:cf:=(gI.aH QB ajS)
theorem Yo:ac Tryz.prog 130 yL:=aua
theorem Yn:aF yL:=aA
def xo:Env:=ay 130 yL SG
theorem rL:aQ Tryz.prog xo:=ag Yo C5
theorem C4:ax xo:=ae Yn NU
theorem HG:aU Tryz.prog te xo:=aJ follows aq rL C4
def dS:aw:=⟨[.val true .elem,.val false .int],[],true,0,false⟩
abbrev oH:Type:=((aa)×(Int)×Unit)×(Unit)
def lV:Shape:=⟨14,[(1,.val false .int),(2,.ptr 0 0 0),(4,.ptr 1 0 0),(5,.val false .int)],[(0,.row .u64),(1,.row .u64)],0,true⟩
abbrev bM:Type:=((Int)×(Unit)×(Unit)×(Int)×Unit)×((List (UInt64))×(List (UInt64))×Unit)
def kM:Shape:=⟨14,[(2,.ptr 0 0 0),(4,.ptr 1 0 0)],[(0,.row .u64),(1,.row .u64)],0,true⟩
abbrev gC:Type:=((Unit)×(Unit)×Unit)×((List (UInt64))×(List (UInt64))×Unit)
def Ko:SE->Option Shape:=fp [(0,kM)] none
def adV (a1:Int) (a5:Int) (c0:List (UInt64)) (c1:List (UInt64)):OT (Sum bM aE):=
 let z0:Nat:=List.length c0
 let z1:aa:=dq {w0:=List.getD c0 0 0,w1:=List.getD c0 1 0,w2:=List.getD c0 2 0,w3:=List.getD c0 3 0}
 (.br (decide (a5<a1))
 (gd [decide (4<=z0),decide ((4/1:Nat)+0<=z0),inR (a5+(1:Int))] (.ok (.inl ((a1,((),((),(a5+(1:Int),())))),(List.set (List.set (List.set (List.set c0 0 z1.w0) 1 z1.w1) 2 z1.w2) 3 z1.w3,(c1,()))))))
 (.ok (.inr ⟨(.exit 0,kM),(((),((),())),(c0,(c1,())))⟩)))
def lX (s:bM):OT (Sum bM aE):=adV (s.1.1) (s.1.2.2.2.1) (s.2.1) (s.2.2.1)
theorem adR (s:bM) (Q:Sum bM aE->Prop):wps te xo av 1000 (aV (aj Tryz.f132) 0) (lV.inj s) (bV lV Ko (Q:Sum lV.T aE->Prop))=(lX s).wpR Q:=by kernel_rfl
def qK (g0_0:bM->gC) (s:bM):OT aE:=(.ok ⟨(.exit 0,kM),g0_0 s⟩)
def lW:az:=⟨[.val true .elem],[],false⟩
def GR:SV->Option az:=λ_=>some lW
def EE (ok0:bM->Bool) (g0_0:bM->gC) (a0:aa) (a1:Int):OT dS.Y:=
 let z0:(Int×PUnit×PUnit×Int×PUnit)×List UInt64×List UInt64×PUnit:=((a1,(),(),(0:Int),()),[a0.w0,a0.w1,a0.w2,a0.w3],[(0:UInt64),(0:UInt64),(0:UInt64),(0:UInt64)],())
 let z1:=(g0_0 z0).snd
 let z2:=z1.fst
 let z3:=z1.snd.fst
 let z4:List UInt64:=lay z3 z2 4 (0:UInt64)
 (gd [ok0 z0,decide (4<=List.length z2),decide ((4/1:Nat)+0<=List.length z3),decide (4<=List.length z4)] (.ok ⟨lW,(({w0:=List.getD z4 0 0,w1:=List.getD z4 1 0,w2:=List.getD z4 2 0,w3:=List.getD z4 3 0},()),())⟩))
theorem anj (ok0:bM->Bool) (g0_0:bM->gC) (x:oH) (Q:dS.Y->Prop):wpf te xo (aO 0 (cb lV 0 ok0 (qK g0_0)) av) 1000 Tryz.f132 (dS.inp.inj x).tm (dS.inp.inj x).hp (fnK dS GR Q) (λ_ _=>False)=(EE ok0 g0_0 (x.1.1) (x.1.2.1)).wpR Q:=by kernel_rfl
theorem TX (ok0:bM->Bool) (g0_0:bM->gC) (h0:∀ s:bM,ok0 s=true->∃ m e,al (lX) m s=some e/\(qK g0_0 s).run=some e) (pre:oH->Bool) (F:oH->OT dS.Y) (hF:∀ (x:oH) oy,pre x=true->(F x).run=some oy->(EE ok0 g0_0 (x.1.1) (x.1.2.1)).run=some oy):ac Tryz.prog 132 (dS.aH pre F):=
 aD aq rL HG (f:=132) (fn:=Tryz.f132) (c:=aj Tryz.f132) (by kernel_rfl) (by kernel_rfl) (by kernel_rfl) (S:=dS) (k:=0) (by kernel_rfl) (λR hR=>(aB (c:=(aj Tryz.f132)) (by kernel_rfl) (id:=0) (by kernel_rfl) (aS aq rL HG (sh:=lV) hR (xs:=Ko) (aC (by kernel_rfl) (by kernel_rfl) hR) aK af (n:=1000) (T:=lX) (λs Q=>adR s Q) (ok:=ok0) (f:=qK g0_0) h0) af)) (n:=1000) (sel:=GR) (λv o h=>by cases h;rfl) (pre:=pre) (F:=F) (T:=λx=>EE ok0 g0_0 (x.1.1) (x.1.2.1)) (λx Q=>anj ok0 g0_0 x Q) hF
def GS (s:bM):Bool:=decide (s.1.2.2.2.1=0/\0<=s.1.1/\s.1.1<=1000000/\s.2.1.length=4)
def Kq (s:bM):gC:=(((),(),()),(lst (dQ (elemOf s.2.1) s.1.1.toNat),s.2.2.1,()))
theorem adU:∀ s:bM,GS s=true->∃ m e,al lX m s=some e/\(qK Kq s).run=some e:=by
 rintro ⟨⟨k,⟨⟩,⟨⟩,i,⟨⟩⟩,⟨l,o,⟨⟩⟩⟩ h
 have h':=of_decide_eq_true h
 dsimp only at h'
 obtain ⟨rfl,h0,h1,hl⟩:=h'
 obtain ⟨a,rfl⟩:∃ a,l=lst a:=⟨elemOf l,(aR hl).symm⟩
 have:=(aP (T:=lX) (λi a=>(((k,(),(),(i:Int),()),(lst a,o,())):bM)) (λ_ e=>dq e)
  (λa=>(⟨(.exit 0,kM),(((),(),()),(lst a,o,()))⟩:aE)) k.toNat a (λ_ _=>True) trivial (λi a hi _=>⟨?_,trivial⟩) (λa _=> ?_)).1
 ·rw [zk] at this
  obtain ⟨m,hm⟩:=this
  exact ⟨m,_,hm,rfl⟩
 ·refine (OT.ap (decide_eq_true (by dsimp only;omega))).trans ((ah ?_).trans rfl)
  simp only [List.all_cons,List.all_nil,Bool.and_true,Bool.and_eq_true]
  exact ⟨rfl,rfl,aI (by omega)⟩
 ·exact OT.ar (decide_eq_false (by dsimp only;omega))
def s5 (x:oH):Bool:=decide (0<=x.1.2.1/\x.1.2.1<=1000000)
def Qz (x:oH):OT dS.Y:=.ok ⟨lW,((dQ x.1.1 x.1.2.1.toNat,()),())⟩
theorem adT:ac Tryz.prog 132 (dS.aH s5 Qz):=TX GS Kq adU _ _ λx oy hp ho=>by
 rw [<-ho]
 clear ho
 obtain ⟨⟨a,k,⟨⟩⟩,⟨⟩⟩:=x
 have hp':0<=k/\k<=1000000:=of_decide_eq_true hp
 refine (ah ?_).trans ?_
 ·simp only [List.all_cons,List.all_nil,Bool.and_true,Bool.and_eq_true]
  exact ⟨decide_eq_true ⟨rfl,hp'.1,hp'.2,rfl⟩,rfl,rfl,rfl⟩
 ·show some (⟨lW,((elemOf (lay [0,0,0,0] (lst (dQ a k.toNat)) 4 0),()),())⟩:dS.Y)=some ⟨lW,((dQ a k.toNat,()),())⟩
  rw [aID _ _ rfl rfl]
  rfl
def qJ:cf:=(dS.aH s5 Qz)
theorem O9:ac Tryz.prog 132 qJ:=adT
theorem O8:aF qJ:=aA
def Gk:Env:=ay 132 qJ xo
theorem Wp:aQ Tryz.prog Gk:=ag O9 rL
theorem NS:ax Gk:=ae O8 C4
end Go.Proofs.YtohjofabochgfaaGreat

namespace Go.Proofs.YtohjofabochgfaaGreat
namespace Sx
open Go
theorem OT.V6 {α β:Type} {f:α->OT β}:∀ {t:OT α} {a:α} {b:β},t.run=some a->(f a).run=some b->(t.bind f).run=some b
 |.ok x,a,b,h,h2=>by
  cases h
  exact h2
 |.br c x y,a,b,h,h2=>by
  cases c
  ·exact OT.V6 (t:=y) h h2
  ·exact OT.V6 (t:=x) h h2
 |.fail,a,b,h,_=>by cases h
theorem jr {P:Program} {n:FuncId} {S:aw} {pre pre':S.T->Bool} {F F':S.T->OT S.Y} (h:ac P n (S.aH pre F))
 (hw:∀ x oy,pre' x=true->(F' x).run=some oy->pre x=true/\(F x).run=some oy):ac P n (S.aH pre' F'):=by
 refine ⟨λR w d args vs out hm hr hrun=>h.calls R w d args vs out hm hr ?_⟩
 simp only [aw.aH] at hrun⊢
 split at hrun
 ·cases hrun
 ·rename_i x hx
  obtain ⟨hp,hrun⟩:=OT.aL hrun
  obtain ⟨oy,h1,h2⟩:=OT.run_bind hrun
  obtain ⟨h3,h4⟩:=hw x oy hp h1
  rw [h3]
  exact OT.V6 h4 h2
end Sx
end Go.Proofs.YtohjofabochgfaaGreat

namespace Go.Proofs.YtohjofabochgfaaGreat
open Sx Go
set_option maxRecDepth 100000
abbrev ajP:aw:=iu
def k8 (x:GQ):Bool:=ao x.1.1
def ajQ (x:GQ):OT iu.Y:=.ok ⟨kK,(((aY x.1.1.toNat).1,((0:Int),())),())⟩
theorem at3:ac Tryz.prog 92 (ajP.aH k8 ajQ):=jr (S:=iu) ajR λx oy hp ho=>⟨rfl,(OT.ap (b:=ao x.1.1) hp).trans ho⟩
def yK:cf:=(ajP.aH k8 ajQ)
theorem Ye:ac Tryz.prog 92 yK:=at3
theorem Yd:aF yK:=aA
def Wo:Env:=ay 92 yK Gk
theorem agC:aQ Tryz.prog Wo:=ag Ye Wp
theorem Wn:ax Wo:=ae Yd NS
abbrev ajY:aw:=iA
def EJ (x:GX):Bool:=ao x.1.1
def ajZ (x:GX):OT iA.Y:=.ok ⟨qQ,(((aY x.1.1.toNat).2.1,((0:Int),())),())⟩
theorem auh:ac Tryz.prog 131 (ajY.aH EJ ajZ):=jr (S:=iA) aj0 λx oy hp ho=>⟨rfl,(OT.ap (b:=ao x.1.1) hp).trans ho⟩
def yM:cf:=(ajY.aH EJ ajZ)
theorem Yv:ac Tryz.prog 131 yM:=auh
theorem Yu:aF yM:=aA
def Wr:Env:=ay 131 yM Wo
theorem agG:aQ Tryz.prog Wr:=ag Yv agC
theorem Wq:ax Wr:=ae Yu Wn
abbrev atV:aw:=lR
def ir (x:X9):Bool:=ao x.1.1
def atW (x:X9):OT lR.Y:=.ok ⟨nZ,((ofP (pS x.1.1) x.1.2.1,()),())⟩
theorem aAW:ac Tryz.prog 62 (atV.aH ir atW):=jr (S:=lR) atZ λx oy hp ho=>⟨rfl,(OT.ap (b:=ao x.1.1) hp).trans ho⟩
def Ew:cf:=(atV.aH ir atW)
theorem ads:ac Tryz.prog 62 Ew:=aAW
theorem adr:aF Ew:=aA
def NK:Env:=ay 62 Ew Wr
theorem Ge:aQ Tryz.prog NK:=ag ads agG
theorem Hz:ax NK:=ae adr Wq
theorem agA:aU Tryz.prog te NK:=aJ follows aq Ge Hz
def lO:aw:=⟨[],[],true,0,false⟩
abbrev Qg:Type:=(Unit)×(Unit)
def TF:az:=⟨[.val true (.prod .elem (.prod .elem .bool))],[],false⟩
def XP:SV->Option az:=λ_=>some TF
def ade:OT lO.Y:=
 let z0:aa:= {w0:=0,w1:=0,w2:=0,w3:=0}
 (.ok ⟨TF,(((z0,z0,true),()),())⟩)
theorem aGq (x:Qg) (Q:lO.Y->Prop):wpf te NK av 1000 Tryz.f93 (lO.inp.inj x).tm (lO.inp.inj x).hp (fnK lO XP Q) (λ_ _=>False)=(ade).wpR Q:=by kernel_rfl
theorem am0 (pre:Qg->Bool) (F:Qg->OT lO.Y) (hF:∀ (x:Qg) oy,pre x=true->(F x).run=some oy->(ade).run=some oy):ac Tryz.prog 93 (lO.aH pre F):=
 aD aq Ge agA (f:=93) (fn:=Tryz.f93) (c:=aj Tryz.f93) (by kernel_rfl) (by kernel_rfl) (by kernel_rfl) (S:=lO) (k:=0) (by kernel_rfl) (λR hR=>af) (n:=1000) (sel:=XP) (λv o h=>by cases h;rfl) (pre:=pre) (F:=F) (T:=λx=>ade) (λx Q=>aGq x Q) hF
def XQ (_:Qg):Bool:=true
def atB (_:Qg):OT lO.Y:=.ok ⟨TF,((bD,()),())⟩
theorem aAO:ac Tryz.prog 93 (lO.aH XQ atB):=am0 _ _ λx oy _ ho=>ho
def En:cf:=(lO.aH XQ atB)
theorem adb:ac Tryz.prog 93 En:=aAO
theorem ada:aF En:=aA
def NG:Env:=ay 93 En NK
theorem Gb:aQ Tryz.prog NG:=ag adb Ge
theorem Hw:ax NG:=ae ada Hz
theorem agz:aU Tryz.prog te NG:=aJ follows aq Gb Hw
def J6:aw:=⟨[.val false .int],[],true,0,false⟩
abbrev aIB:Type:=((Int)×Unit)×(Unit)
def atG:az:=⟨[.val true .elem],[],false⟩
def atE:SV->Option az:=λ_=>some atG
def aGr (a0:Int):OT J6.Y:=
 (gd [inB a0 4,decide (Int.toNat a0+0<4)] (.ok ⟨atG,(({w0:=List.getD [(23:UInt64),(21:UInt64),(5:UInt64),(5:UInt64)] (Int.toNat a0+0) (0:UInt64),w1:=0,w2:=0,w3:=0},()),())⟩))
theorem aKY (x:aIB) (Q:J6.Y->Prop):wpf te NG av 1000 Tryz.f135 (J6.inp.inj x).tm (J6.inp.inj x).hp (fnK J6 atE Q) (λ_ _=>False)=(aGr (x.1.1)).wpR Q:=by kernel_rfl
theorem aAQ (pre:aIB->Bool) (F:aIB->OT J6.Y) (hF:∀ (x:aIB) oy,pre x=true->(F x).run=some oy->(aGr (x.1.1)).run=some oy):ac Tryz.prog 135 (J6.aH pre F):=
 aD aq Gb agz (f:=135) (fn:=Tryz.f135) (c:=aj Tryz.f135) (by kernel_rfl) (by kernel_rfl) (by kernel_rfl) (S:=J6) (k:=0) (by kernel_rfl) (λR hR=>af) (n:=1000) (sel:=atE) (λv o h=>by cases h;rfl) (pre:=pre) (F:=F) (T:=λx=>aGr (x.1.1)) (λx Q=>aKY x Q) hF
def adg (x:aIB):Bool:=ao x.1.1
def aJr (x:aIB):OT J6.Y:=.ok ⟨atG,((bS x.1.1,()),())⟩
theorem aJq:ac Tryz.prog 135 (J6.aH adg aJr):=aAQ _ _ λx oy hp ho=>by
 rw [<-ho]
 clear ho
 obtain ⟨⟨s,⟨⟩⟩,⟨⟩⟩:=x
 rcases cn hp with h|h|h|h
 all_goals
  have h:s=_:=h
  subst h
  rfl
def TK:cf:=(J6.aH adg aJr)
theorem atH:ac Tryz.prog 135 TK:=aJq
theorem atD:aF TK:=aA
def ax0:Env:=ay 135 TK NG
theorem Wm:aQ Tryz.prog ax0:=ag atH Gb
theorem SD:ax ax0:=ae atD Hw
theorem axZ:aU Tryz.prog te ax0:=aJ follows aq Wm SD
def gG:aw:=⟨[.val false .int,.val true .elem],[],true,0,false⟩
abbrev Eo:Type:=((Int)×(aa)×Unit)×(Unit)
def Bg:az:=⟨[.val true .elem],[],false⟩
def Qi:SV->Option az:=λ_=>some Bg
def TJ (a0:Int) (a1:aa):OT gG.Y:=
 let z0:Nat:=pS a0
 let z1:aa:=bB z0 a1 a1
 let z2:aa:=bB z0 a1 z1
 let z3:aa:=bS a0
 (gd [cC ((a0,a1,a1,()),()),cC ((a0,a1,z1,()),()),adg ((a0,()),()),s9 ((a0,z2,z3,()),())] (.ok ⟨Bg,((zK z0 z2 z3,()),())⟩))
theorem aAP (x:Eo) (Q:gG.Y->Prop):wpf te ax0 av 1000 Tryz.f95 (gG.inp.inj x).tm (gG.inp.inj x).hp (fnK gG Qi Q) (λ_ _=>False)=(TJ (x.1.1) (x.1.2.1)).wpR Q:=by kernel_rfl
theorem adf (pre:Eo->Bool) (F:Eo->OT gG.Y) (hF:∀ (x:Eo) oy,pre x=true->(F x).run=some oy->(TJ (x.1.1) (x.1.2.1)).run=some oy):ac Tryz.prog 95 (gG.aH pre F):=
 aD aq Wm axZ (f:=95) (fn:=Tryz.f95) (c:=aj Tryz.f95) (by kernel_rfl) (by kernel_rfl) (by kernel_rfl) (S:=gG) (k:=0) (by kernel_rfl) (λR hR=>af) (n:=1000) (sel:=Qi) (λv o h=>by cases h;rfl) (pre:=pre) (F:=F) (T:=λx=>TJ (x.1.1) (x.1.2.1)) (λx Q=>aAP x Q) hF
theorem au2 (p:Nat) (a b:aa):bB p a b=bB p b a:=by unfold bB;rw [Nat.mul_comm]
def kZ (x:Eo):Bool:=ao x.1.1
def ajH (x:Eo):OT gG.Y:=.ok ⟨Bg,((xF (pS x.1.1) x.1.2.1 (bS x.1.1),()),())⟩
theorem atC:ac Tryz.prog 95 (gG.aH kZ ajH):=adf _ _ λx oy hp ho=>by
 rw [<-ho]
 clear ho
 obtain ⟨⟨s,a,⟨⟩⟩,⟨⟩⟩:=x
 have hs:ao s=true:=hp
 show _=some (⟨Bg,((xF (pS s) a (bS s),()),())⟩:gG.Y)
 unfold xF
 rw [au2 _ (bB (pS s) a a) a]
 refine (ah ?_).trans rfl
 simp only [List.all_cons,List.all_nil,Bool.and_true,Bool.and_eq_true]
 exact ⟨hs,hs,hs,hs⟩
def yG:cf:=(gG.aH kZ ajH)
theorem XT:ac Tryz.prog 95 yG:=atC
theorem XS:aF yG:=aA
def CX:Env:=ay 95 yG ax0
theorem zO:aQ Tryz.prog CX:=ag XT Wm
theorem CW:ax CX:=ae XS SD
theorem abE:aU Tryz.prog te CX:=aJ follows aq zO CW
def ou:aw:=⟨[.val false .int,.val true (.prod .elem (.prod .elem .bool))],[],true,0,false⟩
abbrev amY:Type:=((Int)×((aa×(aa×Bool)))×Unit)×(Unit)
def qB:az:=⟨[.val false .bool],[],false⟩
def ajB:SV->Option az:=λ_=>some qB
def atz (a0:Int) (a1:(aa×(aa×Bool))):OT ou.Y:=
 let z0:Int×aa×PUnit:=(a0,a1.fst,())
 let z1:Nat:=pS a0
 let z2:aa:=ofP z1 a1.fst
 let z3:aa:=ofP z1 a1.snd.fst
 let z4:aa:=bB z1 a1.snd.fst a1.snd.fst
 let z5:aa:=xF z1 a1.fst (bS a0)
 (.br (decide (a0<(0:Int)))
 (.ok ⟨qB,((false,()),())⟩)
 (.br (decide ((3:Int)<a0))
  (.ok ⟨qB,((false,()),())⟩)
  (.br (a1.snd.snd)
   (.ok ⟨qB,((a1.fst.w0==(0:UInt64)&&(a1.fst.w1==(0:UInt64)&&(a1.fst.w2==(0:UInt64)&&(a1.fst.w3==(0:UInt64)&&true)))&&(a1.snd.fst.w0==(0:UInt64)&&(a1.snd.fst.w1==(0:UInt64)&&(a1.snd.fst.w2==(0:UInt64)&&(a1.snd.fst.w3==(0:UInt64)&&true)))&&(a1.snd.snd==true&&true)),()),())⟩)
   (gd [ir (z0,())] (.br (!(z2.w0==a1.fst.w0&&(z2.w1==a1.fst.w1&&(z2.w2==a1.fst.w2&&(z2.w3==a1.fst.w3&&true)))))
    (.ok ⟨qB,((false,()),())⟩)
    (gd [ir ((a0,a1.snd.fst,()),())] (.br (!(z3.w0==a1.snd.fst.w0&&(z3.w1==a1.snd.fst.w1&&(z3.w2==a1.snd.fst.w2&&(z3.w3==a1.snd.fst.w3&&true)))))
     (.ok ⟨qB,((false,()),())⟩)
     (gd [cC ((a0,a1.snd.fst,a1.snd.fst,()),()),kZ (z0,())] (.ok ⟨qB,((z4.w0==z5.w0&&(z4.w1==z5.w1&&(z4.w2==z5.w2&&(z4.w3==z5.w3&&true))),()),())⟩)))))))))
theorem aJp (x:amY) (Q:ou.Y->Prop):wpf te CX av 1000 Tryz.f73 (ou.inp.inj x).tm (ou.inp.inj x).hp (fnK ou ajB Q) (λ_ _=>False)=(atz (x.1.1) (x.1.2.1)).wpR Q:=by kernel_rfl
theorem aty (pre:amY->Bool) (F:amY->OT ou.Y) (hF:∀ (x:amY) oy,pre x=true->(F x).run=some oy->(atz (x.1.1) (x.1.2.1)).run=some oy):ac Tryz.prog 73 (ou.aH pre F):=
 aD aq zO abE (f:=73) (fn:=Tryz.f73) (c:=aj Tryz.f73) (by kernel_rfl) (by kernel_rfl) (by kernel_rfl) (S:=ou) (k:=0) (by kernel_rfl) (λR hR=>af) (n:=1000) (sel:=ajB) (λv o h=>by cases h;rfl) (pre:=pre) (F:=F) (T:=λx=>atz (x.1.1) (x.1.2.1)) (λx Q=>aJp x Q) hF
theorem akh {s:Int} (hs:ao s=true) (x:aa):eqE (ofP (pS s) x) x=Nat.blt x.nat (pS s):=by
 have hp:=o7 hs
 have hlt:=Nat.mod_lt x.nat hp.1
 rw [awy,show (ofP (pS s) x).nat=x.nat%pS s from dm hp]
 rcases (Bool.eq_false_or_eq_true (Nat.blt x.nat (pS s))).symm with h|h
 ·rw [h]
  have hle:=auY h
  cases hb:Nat.beq (x.nat%pS s) x.nat
  ·rfl
  ·have:=Nat.eq_of_beq_eq_true hb
   omega
 ·rw [h,Nat.mod_eq_of_lt (ed h)]
  exact Nat.beq_refl _
def ajC (_:amY):Bool:=true
def aDz (x:amY):OT ou.Y:=.ok ⟨qB,((onB x.1.1 x.1.2.1,()),())⟩
theorem aGo:ac Tryz.prog 73 (ou.aH ajC aDz):=aty _ _ λx oy _ ho=>by
 rw [<-ho]
 clear ho
 obtain ⟨⟨c,⟨X,Y,i⟩,⟨⟩⟩,⟨⟩⟩:=x
 show _=some (⟨qB,((onB c (X,Y,i),()),())⟩:ou.Y)
 rcases (Bool.eq_false_or_eq_true (ao c)).symm with hs|hs
 ·have e:onB c (X,Y,i)=false:=by unfold onB;rw [hs];rfl
  rw [e]
  by_cases h0:c<0
  ·exact OT.ap (decide_eq_true h0)
  ·refine (OT.ar (decide_eq_false h0)).trans (OT.ap (decide_eq_true ?_))
   show (3:Int)<c
   simp only [ao,Bool.and_eq_false_iff,decide_eq_false_iff_not] at hs
   omega
 ·have hc:0<=c/\c<4:=by simpa [ao] using hs
  refine (OT.ar (decide_eq_false (by show ¬c<0;omega))).trans ((OT.ar (decide_eq_false (by show ¬(3:Int)<c;omega))).trans ?_)
  have hx:=akh hs X
  have hy:=akh hs Y
  have gd1:∀ (a:aa) (z:OT ou.Y),(gd [ir ((c,a,()),())] z).run=z.run:=λa z=>ah (by simp only [List.all_cons,List.all_nil,Bool.and_true];exact hs)
  cases i
  ·refine (OT.ar rfl).trans ((gd1 X _).trans ?_)
   rcases (Bool.eq_false_or_eq_true (Nat.blt X.nat (pS c))).symm with h1|h1
   ·have e:onB c (X,Y,false)=false:=by unfold onB;rw [hs,h1];rfl
    rw [e]
    rw [h1] at hx
    exact OT.ap (b:= !eqE (ofP (pS c) X) X) (by rw [hx];rfl)
   ·have hx1:=hx
    rw [h1] at hx1
    refine (OT.ar (b:= !eqE (ofP (pS c) X) X) (by rw [hx1];rfl)).trans ((gd1 Y _).trans ?_)
    rcases (Bool.eq_false_or_eq_true (Nat.blt Y.nat (pS c))).symm with h2|h2
    ·have e:onB c (X,Y,false)=false:=by unfold onB;rw [hs,h1,h2];rfl
     rw [e]
     rw [h2] at hy
     exact OT.ap (b:= !eqE (ofP (pS c) Y) Y) (by rw [hy];rfl)
    ·have hy1:=hy
     rw [h2] at hy1
     have e:onB c (X,Y,false)=eqE (bB (pS c) Y Y) (xF (pS c) X (bS c)):=by unfold onB;rw [hs,h1,h2];rfl
     rw [e]
     refine (OT.ar (b:= !eqE (ofP (pS c) Y) Y) (by rw [hy1];rfl)).trans ((ah ?_).trans rfl)
     simp only [List.all_cons,List.all_nil,Bool.and_true,Bool.and_eq_true]
     exact ⟨hs,hs⟩
  ·have e:onB c (X,Y,true)=(bN X&&(bN Y&&true)):=by unfold onB;rw [hs];rfl
   rw [e]
   exact OT.ap rfl
def JZ:cf:=(ou.aH ajC aDz)
theorem amX:ac Tryz.prog 73 JZ:=aGo
theorem amW:aF JZ:=aA
def abD:Env:=ay 73 JZ CX
theorem NE:aQ Tryz.prog abD:=ag amX zO
theorem NF:ax abD:=ae amW CW
theorem aqm:aU Tryz.prog te abD:=aJ follows aq NE NF
def kf:aw:=⟨[.val false .int,.val true (.prod .elem (.prod .elem .bool)),.val true (.prod .elem (.prod .elem .bool))],[],true,0,false⟩
abbrev Qc:Type:=((Int)×((aa×(aa×Bool)))×((aa×(aa×Bool)))×Unit)×(Unit)
def m4:az:=⟨[.val true (.prod .elem (.prod .elem .bool))],[],false⟩
def XH:SV->Option az:=λ_=>some m4
def ac5 (a0:Int) (a1:(aa×(aa×Bool))) (a2:(aa×(aa×Bool))):OT kf.Y:=
 let z0:aa×PUnit:=(a1.snd.fst,())
 let z1:aa×PUnit:=(a1.fst,())
 let z2:aa:= {w0:=0,w1:=0,w2:=0,w3:=0}
 let z3:aa:= {w0:=3,w1:=0,w2:=0,w3:=0}
 let z4:Nat:=pS a0
 let z5:aa:=bB z4 a1.fst a1.fst
 let z6:aa:=bB z4 z3 z5
 let z7:aa:=zK z4 a1.snd.fst a1.snd.fst
 let z8:aa:=byP z4 z6 z7
 let z9:aa:=bB z4 z8 z8
 let z10:aa:=mV z4 z9 a1.fst
 let z11:aa×PUnit:=(a2.fst,())
 let z12:aa:=mV z4 z10 a2.fst
 let z13:aa:=mV z4 a1.fst z12
 let z14:aa:=bB z4 z8 z13
 let z15:aa:=mV z4 a2.snd.fst a1.snd.fst
 let z16:aa:=mV z4 a2.fst a1.fst
 let z17:aa:=byP z4 z15 z16
 let z18:aa:=bB z4 z17 z17
 let z19:aa:=mV z4 z18 a1.fst
 let z20:aa:=mV z4 z19 a2.fst
 let z21:aa:=mV z4 a1.fst z20
 let z22:aa:=bB z4 z17 z21
 (.br (a1.snd.snd)
 (.ok ⟨m4,((a2,()),())⟩)
 (.br (a2.snd.snd)
  (.ok ⟨m4,((a1,()),())⟩)
  (gd [fb ((a0,a2.snd.fst,z0),()),fb ((a0,a2.fst,z1),())] (.br (a1.fst.w0==a2.fst.w0&&(a1.fst.w1==a2.fst.w1&&(a1.fst.w2==a2.fst.w2&&(a1.fst.w3==a2.fst.w3&&true))))
   (.br (!(a1.snd.fst.w0==a2.snd.fst.w0&&(a1.snd.fst.w1==a2.snd.fst.w1&&(a1.snd.fst.w2==a2.snd.fst.w2&&(a1.snd.fst.w3==a2.snd.fst.w3&&true)))))
    (.ok ⟨m4,(((z2,z2,true),()),())⟩)
    (gd [cC ((a0,a1.fst,z1),()),cC ((a0,z3,z5,()),()),s9 ((a0,a1.snd.fst,z0),()),IJ ((a0,z6,z7,()),()),cC ((a0,z8,z8,()),()),fb ((a0,z9,z1),()),fb ((a0,z10,z11),()),fb ((a0,a1.fst,z12,()),()),cC ((a0,z8,z13,()),()),fb ((a0,z14,z0),())] (.ok ⟨m4,(((z12,mV z4 z14 a1.snd.fst,false),()),())⟩)))
   (gd [IJ ((a0,z15,z16,()),()),cC ((a0,z17,z17,()),()),fb ((a0,z18,z1),()),fb ((a0,z19,z11),()),fb ((a0,a1.fst,z20,()),()),cC ((a0,z17,z21,()),()),fb ((a0,z22,z0),())] (.ok ⟨m4,(((z20,mV z4 z22 a1.snd.fst,false),()),())⟩))))))
theorem aGn (x:Qc) (Q:kf.Y->Prop):wpf te abD av 1000 Tryz.f170 (kf.inp.inj x).tm (kf.inp.inj x).hp (fnK kf XH Q) (λ_ _=>False)=(ac5 (x.1.1) (x.1.2.1) (x.1.2.2.1)).wpR Q:=by kernel_rfl
theorem amV (pre:Qc->Bool) (F:Qc->OT kf.Y) (hF:∀ (x:Qc) oy,pre x=true->(F x).run=some oy->(ac5 (x.1.1) (x.1.2.1) (x.1.2.2.1)).run=some oy):ac Tryz.prog 170 (kf.aH pre F):=
 aD aq NE aqm (f:=170) (fn:=Tryz.f170) (c:=aj Tryz.f170) (by kernel_rfl) (by kernel_rfl) (by kernel_rfl) (S:=kf) (k:=0) (by kernel_rfl) (λR hR=>af) (n:=1000) (sel:=XH) (λv o h=>by cases h;rfl) (pre:=pre) (F:=F) (T:=λx=>ac5 (x.1.1) (x.1.2.1) (x.1.2.2.1)) (λx Q=>aGn x Q) hF
def aBR (p:Nat) (X Y X2 s:aa):Pt:=(mV p (mV p (bB p s s) X) X2,mV p (bB p s (mV p X (mV p (mV p (bB p s s) X) X2))) Y,false)
def lB (p:Nat) (P Q:Pt):Pt:=cond P.2.2 Q (cond Q.2.2 P (cond (eqE P.1 Q.1)
 (cond (eqE P.2.1 Q.2.1) (aBR p P.1 P.2.1 Q.1 (byP p (bB p ⟨3,0,0,0⟩ (bB p P.1 P.1)) (zK p P.2.1 P.2.1))) bD)
 (aBR p P.1 P.2.1 Q.1 (byP p (mV p Q.2.1 P.2.1) (mV p Q.1 P.1)))))
def sT (x:Qc):Bool:=ao x.1.1
def att (x:Qc):OT kf.Y:=.ok ⟨m4,((lB (pS x.1.1) x.1.2.1 x.1.2.2.1,()),())⟩
theorem aAF:ac Tryz.prog 170 (kf.aH sT att):=amV _ _ λx oy hp ho=>by
 rw [<-ho]
 clear ho
 obtain ⟨⟨c,⟨X,Y,i⟩,⟨X2,Y2,i2⟩,⟨⟩⟩,⟨⟩⟩:=x
 have hs:ao c=true:=hp
 show _=(OT.ok ⟨m4,((lB (pS c) (X,Y,i) (X2,Y2,i2),()),())⟩:OT kf.Y).run
 cases i
 ·refine (OT.ar rfl).trans ?_
  cases i2
  ·refine (OT.ar rfl).trans ((ah ?_).trans ?_)
   ·simp only [List.all_cons,List.all_nil,Bool.and_true,Bool.and_eq_true]
    exact ⟨hs,hs⟩
   ·rcases (Bool.eq_false_or_eq_true (eqE X X2)).symm with h|h
    ·have e:lB (pS c) (X,Y,false) (X2,Y2,false)=aBR (pS c) X Y X2 (byP (pS c) (mV (pS c) Y2 Y) (mV (pS c) X2 X)):=by unfold lB;simp only [cond_false,h]
     rw [e]
     refine (OT.ar h).trans ((ah ?_).trans rfl)
     simp only [List.all_cons,List.all_nil,Bool.and_true,Bool.and_eq_true]
     exact ⟨hs,hs,hs,hs,hs,hs,hs⟩
    ·refine (OT.ap h).trans ?_
     rcases (Bool.eq_false_or_eq_true (eqE Y Y2)).symm with h2|h2
     ·have e:lB (pS c) (X,Y,false) (X2,Y2,false)=bD:=by unfold lB;simp only [cond_false,cond_true,h,h2]
      rw [e]
      exact OT.ap (b:= !eqE Y Y2) (by rw [h2];rfl)
     ·have e:lB (pS c) (X,Y,false) (X2,Y2,false)=aBR (pS c) X Y X2 (byP (pS c) (bB (pS c) ⟨3,0,0,0⟩ (bB (pS c) X X)) (zK (pS c) Y Y)):=by unfold lB;simp only [cond_false,cond_true,h,h2]
      rw [e]
      refine (OT.ar (b:= !eqE Y Y2) (by rw [h2];rfl)).trans ((ah ?_).trans rfl)
      simp only [List.all_cons,List.all_nil,Bool.and_true,Bool.and_eq_true]
      exact ⟨hs,hs,hs,hs,hs,hs,hs,hs,hs,hs⟩
  ·have e:lB (pS c) (X,Y,false) (X2,Y2,true)=(X,Y,false):=by unfold lB;simp only [cond_false,cond_true]
   rw [e]
   exact OT.ap rfl
 ·have e:lB (pS c) (X,Y,true) (X2,Y2,i2)=(X2,Y2,i2):=by unfold lB;simp only [cond_true]
  rw [e]
  exact OT.ap rfl
def Ej:cf:=(kf.aH sT att)
theorem ac4:ac Tryz.prog 170 Ej:=aAF
theorem ac3:aF Ej:=aA
def ND:Env:=ay 170 Ej abD
theorem Ga:aQ Tryz.prog ND:=ag ac4 NE
theorem Hu:ax ND:=ae ac3 NF
theorem agy:aU Tryz.prog te ND:=aJ follows aq Ga Hu
def kh:aw:=⟨[.val false .int,.val true (.prod .elem (.prod .elem .bool)),.val true (.prod .elem (.prod .elem .bool))],[],true,0,false⟩
abbrev Qj:Type:=((Int)×((aa×(aa×Bool)))×((aa×(aa×Bool)))×Unit)×(Unit)
def vz:az:=⟨[.val true (.prod .elem (.prod .elem .bool))],[],false⟩
def XU:SV->Option az:=λ_=>some vz
def adj (a0:Int) (a1:(aa×(aa×Bool))) (a2:(aa×(aa×Bool))):OT kh.Y:=
 let z0:aa:= {w0:=0,w1:=0,w2:=0,w3:=0}
 let z1:aa×aa×Bool:=(z0,z0,true)
 (.br (!onB a0 a1)
 (.ok ⟨vz,((z1,()),())⟩)
 (.br (!onB a0 a2)
  (.ok ⟨vz,((z1,()),())⟩)
  (gd [sT ((a0,a1,a2,()),())] (.ok ⟨vz,((lB (pS a0) a1 a2,()),())⟩))))
theorem aGs (x:Qj) (Q:kh.Y->Prop):wpf te ND av 1000 Tryz.f163 (kh.inp.inj x).tm (kh.inp.inj x).hp (fnK kh XU Q) (λ_ _=>False)=(adj (x.1.1) (x.1.2.1) (x.1.2.2.1)).wpR Q:=by kernel_rfl
theorem am2 (pre:Qj->Bool) (F:Qj->OT kh.Y) (hF:∀ (x:Qj) oy,pre x=true->(F x).run=some oy->(adj (x.1.1) (x.1.2.1) (x.1.2.2.1)).run=some oy):ac Tryz.prog 163 (kh.aH pre F):=
 aD aq Ga agy (f:=163) (fn:=Tryz.f163) (c:=aj Tryz.f163) (by kernel_rfl) (by kernel_rfl) (by kernel_rfl) (S:=kh) (k:=0) (by kernel_rfl) (λR hR=>af) (n:=1000) (sel:=XU) (λv o h=>by cases h;rfl) (pre:=pre) (F:=F) (T:=λx=>adj (x.1.1) (x.1.2.1) (x.1.2.2.1)) (λx Q=>aGs x Q) hF
def W8 (c:Int) (P Q:Pt):Pt:=cond (onB c P) (cond (onB c Q) (lB (pS c) P Q) bD) bD
def XV (_:Qj):Bool:=true
def atI (x:Qj):OT kh.Y:=.ok ⟨vz,((W8 x.1.1 x.1.2.1 x.1.2.2.1,()),())⟩
theorem aAR:ac Tryz.prog 163 (kh.aH XV atI):=am2 _ _ λx oy _ ho=>by
 rw [<-ho]
 clear ho
 obtain ⟨⟨c,P,Q,⟨⟩⟩,⟨⟩⟩:=x
 show _=(OT.ok ⟨vz,((W8 c P Q,()),())⟩:OT kh.Y).run
 rcases (Bool.eq_false_or_eq_true (onB c P)).symm with h1|h1
 ·have e:W8 c P Q=bD:=by unfold W8;rw [h1];rfl
  rw [e]
  exact OT.ap (b:= !onB c P) (by rw [h1];rfl)
 ·have hs:=BF h1
  refine (OT.ar (b:= !onB c P) (by rw [h1];rfl)).trans ?_
  rcases (Bool.eq_false_or_eq_true (onB c Q)).symm with h2|h2
  ·have e:W8 c P Q=bD:=by unfold W8;rw [h1,h2];rfl
   rw [e]
   exact OT.ap (b:= !onB c Q) (by rw [h2];rfl)
  ·have e:W8 c P Q=lB (pS c) P Q:=by unfold W8;rw [h1,h2];rfl
   rw [e]
   refine (OT.ar (b:= !onB c Q) (by rw [h2];rfl)).trans ((ah ?_).trans rfl)
   simp only [List.all_cons,List.all_nil,Bool.and_true]
   exact hs
def Ep:cf:=(kh.aH XV atI)
theorem adi:ac Tryz.prog 163 Ep:=aAR
theorem adh:aF Ep:=aA
def zQ:Env:=ay 163 Ep ND
theorem pU:aQ Tryz.prog zQ:=ag adi Ga
theorem Hx:ax zQ:=ae adh Hu
theorem zP:aU Tryz.prog te zQ:=aJ follows aq pU Hx
def kg:aw:=⟨[.val false .int,.val true .elem,.val true (.prod .elem (.prod .elem .bool))],[],true,0,false⟩
abbrev Qf:Type:=((Int)×(aa)×((aa×(aa×Bool)))×Unit)×(Unit)
def Bb:Shape:=⟨60,[(0,.val false .int),(4,.ptr 0 0 0),(5,.ptr 1 0 0),(6,.ptr 2 0 0),(7,.ptr 3 0 0),(8,.val false .int)],[(0,.row .u64),(1,.cells [.val false .u64,.val false .u64,.val false .u64,.val false .u64,.val false .u64,.val false .u64,.val false .u64,.val false .u64,.val false .bool]),(2,.cells [.val false .u64,.val false .u64,.val false .u64,.val false .u64,.val false .u64,.val false .u64,.val false .u64,.val false .u64,.val false .bool]),(3,.cells [.val false .u64,.val false .u64,.val false .u64,.val false .u64,.val false .u64,.val false .u64,.val false .u64,.val false .u64,.val false .bool])],0,true⟩
abbrev cR:Type:=((Int)×(Unit)×(Unit)×(Unit)×(Unit)×(Int)×Unit)×((List (UInt64))×((UInt64)×(UInt64)×(UInt64)×(UInt64)×(UInt64)×(UInt64)×(UInt64)×(UInt64)×(Bool)×Unit)×((UInt64)×(UInt64)×(UInt64)×(UInt64)×(UInt64)×(UInt64)×(UInt64)×(UInt64)×(Bool)×Unit)×((UInt64)×(UInt64)×(UInt64)×(UInt64)×(UInt64)×(UInt64)×(UInt64)×(UInt64)×(Bool)×Unit)×Unit)
def ov:Shape:=⟨60,[(0,.val false .int),(4,.ptr 0 0 0),(5,.ptr 1 0 0),(6,.ptr 2 0 0),(7,.ptr 3 0 0),(8,.val false .int)],[(0,.row .u64),(1,.cells [.val false .u64,.val false .u64,.val false .u64,.val false .u64,.val false .u64,.val false .u64,.val false .u64,.val false .u64,.val false .bool]),(2,.cells [.val false .u64,.val false .u64,.val false .u64,.val false .u64,.val false .u64,.val false .u64,.val false .u64,.val false .u64,.val false .bool]),(3,.cells [.val false .u64,.val false .u64,.val false .u64,.val false .u64,.val false .u64,.val false .u64,.val false .u64,.val false .u64,.val false .bool])],0,true⟩
abbrev lN:Type:=((Int)×(Unit)×(Unit)×(Unit)×(Unit)×(Int)×Unit)×((List (UInt64))×((UInt64)×(UInt64)×(UInt64)×(UInt64)×(UInt64)×(UInt64)×(UInt64)×(UInt64)×(Bool)×Unit)×((UInt64)×(UInt64)×(UInt64)×(UInt64)×(UInt64)×(UInt64)×(UInt64)×(UInt64)×(Bool)×Unit)×((UInt64)×(UInt64)×(UInt64)×(UInt64)×(UInt64)×(UInt64)×(UInt64)×(UInt64)×(Bool)×Unit)×Unit)
def ajE:SE->Option Shape:=fp [(0,ov)] none
def aAN (a0:Int) (a8:Int) (c0:List (UInt64)) (c1_0:UInt64) (c1_1:UInt64) (c1_2:UInt64) (c1_3:UInt64) (c1_4:UInt64) (c1_5:UInt64) (c1_6:UInt64) (c1_7:UInt64) (c1_8:Bool) (c2_0:UInt64) (c2_1:UInt64) (c2_2:UInt64) (c2_3:UInt64) (c2_4:UInt64) (c2_5:UInt64) (c2_6:UInt64) (c2_7:UInt64) (c2_8:Bool) (c3_0:UInt64) (c3_1:UInt64) (c3_2:UInt64) (c3_3:UInt64) (c3_4:UInt64) (c3_5:UInt64) (c3_6:UInt64) (c3_7:UInt64) (c3_8:Bool):OT (Sum cR aE):=
 let z0:Int:=Int.tdiv a8 (64:Int)
 (.br (decide ((0:Int)<=a8))
 (gd [true&&inR z0,inB z0 4,decide (Int.toNat z0+0<List.length c0)] (.br (be (List.getD c0 (Int.toNat z0+0) (0:UInt64)) (↑(UInt64.toNat (i2u (Int.tmod a8 (64:Int)))):Int)&&&(1:UInt64)==(0:UInt64))
  (gd [inR (a8-(1:Int))] (.ok (.inl ((a0,((),((),((),((),(a8-(1:Int),())))))),(c0,((c1_0,(c1_1,(c1_2,(c1_3,(c1_4,(c1_5,(c1_6,(c1_7,(c1_8,()))))))))),((c2_0,(c2_1,(c2_2,(c2_3,(c2_4,(c2_5,(c2_6,(c2_7,(c2_8,()))))))))),((c3_0,(c3_1,(c3_2,(c3_3,(c3_4,(c3_5,(c3_6,(c3_7,(c3_8,()))))))))),()))))))))
  (.ok (.inr ⟨(.exit 0,ov),((a0,((),((),((),((),(a8,())))))),(c0,((c1_0,(c1_1,(c1_2,(c1_3,(c1_4,(c1_5,(c1_6,(c1_7,(c1_8,()))))))))),((c2_0,(c2_1,(c2_2,(c2_3,(c2_4,(c2_5,(c2_6,(c2_7,(c2_8,()))))))))),((c3_0,(c3_1,(c3_2,(c3_3,(c3_4,(c3_5,(c3_6,(c3_7,(c3_8,()))))))))),())))))⟩))))
 (.ok (.inr ⟨(.exit 0,ov),((a0,((),((),((),((),(a8,())))))),(c0,((c1_0,(c1_1,(c1_2,(c1_3,(c1_4,(c1_5,(c1_6,(c1_7,(c1_8,()))))))))),((c2_0,(c2_1,(c2_2,(c2_3,(c2_4,(c2_5,(c2_6,(c2_7,(c2_8,()))))))))),((c3_0,(c3_1,(c3_2,(c3_3,(c3_4,(c3_5,(c3_6,(c3_7,(c3_8,()))))))))),())))))⟩)))
def Be (s:cR):OT (Sum cR aE):=aAN (s.1.1) (s.1.2.2.2.2.2.1) (s.2.1) (s.2.2.1.1) (s.2.2.1.2.1) (s.2.2.1.2.2.1) (s.2.2.1.2.2.2.1) (s.2.2.1.2.2.2.2.1) (s.2.2.1.2.2.2.2.2.1) (s.2.2.1.2.2.2.2.2.2.1) (s.2.2.1.2.2.2.2.2.2.2.1) (s.2.2.1.2.2.2.2.2.2.2.2.1) (s.2.2.2.1.1) (s.2.2.2.1.2.1) (s.2.2.2.1.2.2.1) (s.2.2.2.1.2.2.2.1) (s.2.2.2.1.2.2.2.2.1) (s.2.2.2.1.2.2.2.2.2.1) (s.2.2.2.1.2.2.2.2.2.2.1) (s.2.2.2.1.2.2.2.2.2.2.2.1) (s.2.2.2.1.2.2.2.2.2.2.2.2.1) (s.2.2.2.2.1.1) (s.2.2.2.2.1.2.1) (s.2.2.2.2.1.2.2.1) (s.2.2.2.2.1.2.2.2.1) (s.2.2.2.2.1.2.2.2.2.1) (s.2.2.2.2.1.2.2.2.2.2.1) (s.2.2.2.2.1.2.2.2.2.2.2.1) (s.2.2.2.2.1.2.2.2.2.2.2.2.1) (s.2.2.2.2.1.2.2.2.2.2.2.2.2.1)
theorem aAI (s:cR) (Q:Sum cR aE->Prop):wps te zQ av 1000 (aV (aj Tryz.f164) 0) (Bb.inj s) (bV Bb ajE (Q:Sum Bb.T aE->Prop))=(Be s).wpR Q:=by kernel_rfl
def IE (g0_0:cR->lN) (s:cR):OT aE:=(.ok ⟨(.exit 0,ov),g0_0 s⟩)
def Ba:Shape:=⟨60,[(0,.val false .int),(4,.ptr 0 0 0),(5,.ptr 1 0 0),(6,.ptr 2 0 0),(7,.ptr 3 0 0),(9,.val false .int)],[(0,.row .u64),(1,.cells [.val false .u64,.val false .u64,.val false .u64,.val false .u64,.val false .u64,.val false .u64,.val false .u64,.val false .u64,.val false .bool]),(2,.cells [.val false .u64,.val false .u64,.val false .u64,.val false .u64,.val false .u64,.val false .u64,.val false .u64,.val false .u64,.val false .bool]),(3,.cells [.val false .u64,.val false .u64,.val false .u64,.val false .u64,.val false .u64,.val false .u64,.val false .u64,.val false .u64,.val false .bool])],0,true⟩
abbrev df:Type:=((Int)×(Unit)×(Unit)×(Unit)×(Unit)×(Int)×Unit)×((List (UInt64))×((UInt64)×(UInt64)×(UInt64)×(UInt64)×(UInt64)×(UInt64)×(UInt64)×(UInt64)×(Bool)×Unit)×((UInt64)×(UInt64)×(UInt64)×(UInt64)×(UInt64)×(UInt64)×(UInt64)×(UInt64)×(Bool)×Unit)×((UInt64)×(UInt64)×(UInt64)×(UInt64)×(UInt64)×(UInt64)×(UInt64)×(UInt64)×(Bool)×Unit)×Unit)
def vx:Shape:=⟨60,[(6,.ptr 0 0 0),(7,.ptr 1 0 0)],[(0,.cells [.val false .u64,.val false .u64,.val false .u64,.val false .u64,.val false .u64,.val false .u64,.val false .u64,.val false .u64,.val false .bool]),(1,.cells [.val false .u64,.val false .u64,.val false .u64,.val false .u64,.val false .u64,.val false .u64,.val false .u64,.val false .u64,.val false .bool])],0,true⟩
abbrev lM:Type:=((Unit)×(Unit)×Unit)×(((UInt64)×(UInt64)×(UInt64)×(UInt64)×(UInt64)×(UInt64)×(UInt64)×(UInt64)×(Bool)×Unit)×((UInt64)×(UInt64)×(UInt64)×(UInt64)×(UInt64)×(UInt64)×(UInt64)×(UInt64)×(Bool)×Unit)×Unit)
def ajD:SE->Option Shape:=fp [(2,vx)] none
def aAM (a0:Int) (a9:Int) (c0:List (UInt64)) (c1_0:UInt64) (c1_1:UInt64) (c1_2:UInt64) (c1_3:UInt64) (c1_4:UInt64) (c1_5:UInt64) (c1_6:UInt64) (c1_7:UInt64) (c1_8:Bool) (c2_0:UInt64) (c2_1:UInt64) (c2_2:UInt64) (c2_3:UInt64) (c2_4:UInt64) (c2_5:UInt64) (c2_6:UInt64) (c2_7:UInt64) (c2_8:Bool) (c3_0:UInt64) (c3_1:UInt64) (c3_2:UInt64) (c3_3:UInt64) (c3_4:UInt64) (c3_5:UInt64) (c3_6:UInt64) (c3_7:UInt64) (c3_8:Bool):OT (Sum df aE):=
 let z0:aa×aa×Bool:=({w0:=c3_0,w1:=c3_1,w2:=c3_2,w3:=c3_3},{w0:=c3_4,w1:=c3_5,w2:=c3_6,w3:=c3_7},c3_8)
 let z1:Int:=Int.tdiv a9 (64:Int)
 let z2:Nat:=pS a0
 let z3:aa×aa×Bool:=lB z2 z0 z0
 let z4:aa×aa×Bool:=({w0:=c1_0,w1:=c1_1,w2:=c1_2,w3:=c1_3},{w0:=c1_4,w1:=c1_5,w2:=c1_6,w3:=c1_7},c1_8)
 let z5:Bool:=inR (a9-(1:Int))
 let z6:aa×aa×Bool:=lB z2 z3 z4
 let z7:=z6.fst
 let z8:=z6.snd
 let z9:=z8.fst
 let z10:=z3.fst
 let z11:=z3.snd
 let z12:=z11.fst
 (.br (decide ((0:Int)<=a9))
 (gd [sT ((a0,z0,z0,()),()),true&&inR z1,inB z1 4,decide (Int.toNat z1+0<List.length c0)] (.br (be (List.getD c0 (Int.toNat z1+0) (0:UInt64)) (↑(UInt64.toNat (i2u (Int.tmod a9 (64:Int)))):Int)&&&(1:UInt64)==(1:UInt64))
  (gd [sT ((a0,z3,z4,()),()),z5] (.ok (.inl ((a0,((),((),((),((),(a9-(1:Int),())))))),(c0,((c1_0,(c1_1,(c1_2,(c1_3,(c1_4,(c1_5,(c1_6,(c1_7,(c1_8,()))))))))),((c2_0,(c2_1,(c2_2,(c2_3,(c2_4,(c2_5,(c2_6,(c2_7,(c2_8,()))))))))),((z7.w0,(z7.w1,(z7.w2,(z7.w3,(z9.w0,(z9.w1,(z9.w2,(z9.w3,(z8.snd,()))))))))),()))))))))
  (gd [z5] (.ok (.inl ((a0,((),((),((),((),(a9-(1:Int),())))))),(c0,((c1_0,(c1_1,(c1_2,(c1_3,(c1_4,(c1_5,(c1_6,(c1_7,(c1_8,()))))))))),((c2_0,(c2_1,(c2_2,(c2_3,(c2_4,(c2_5,(c2_6,(c2_7,(c2_8,()))))))))),((z10.w0,(z10.w1,(z10.w2,(z10.w3,(z12.w0,(z12.w1,(z12.w2,(z12.w3,(z11.snd,()))))))))),()))))))))))
 (.ok (.inr ⟨(.exit 2,vx),(((),((),())),((c2_0,(c2_1,(c2_2,(c2_3,(c2_4,(c2_5,(c2_6,(c2_7,(c2_8,()))))))))),((c3_0,(c3_1,(c3_2,(c3_3,(c3_4,(c3_5,(c3_6,(c3_7,(c3_8,()))))))))),())))⟩)))
def vy (s:df):OT (Sum df aE):=aAM (s.1.1) (s.1.2.2.2.2.2.1) (s.2.1) (s.2.2.1.1) (s.2.2.1.2.1) (s.2.2.1.2.2.1) (s.2.2.1.2.2.2.1) (s.2.2.1.2.2.2.2.1) (s.2.2.1.2.2.2.2.2.1) (s.2.2.1.2.2.2.2.2.2.1) (s.2.2.1.2.2.2.2.2.2.2.1) (s.2.2.1.2.2.2.2.2.2.2.2.1) (s.2.2.2.1.1) (s.2.2.2.1.2.1) (s.2.2.2.1.2.2.1) (s.2.2.2.1.2.2.2.1) (s.2.2.2.1.2.2.2.2.1) (s.2.2.2.1.2.2.2.2.2.1) (s.2.2.2.1.2.2.2.2.2.2.1) (s.2.2.2.1.2.2.2.2.2.2.2.1) (s.2.2.2.1.2.2.2.2.2.2.2.2.1) (s.2.2.2.2.1.1) (s.2.2.2.2.1.2.1) (s.2.2.2.2.1.2.2.1) (s.2.2.2.2.1.2.2.2.1) (s.2.2.2.2.1.2.2.2.2.1) (s.2.2.2.2.1.2.2.2.2.2.1) (s.2.2.2.2.1.2.2.2.2.2.2.1) (s.2.2.2.2.1.2.2.2.2.2.2.2.1) (s.2.2.2.2.1.2.2.2.2.2.2.2.2.1)
theorem aAH (s:df) (Q:Sum df aE->Prop):wps te zQ av 1000 (aV (aj Tryz.f164) 2) (Ba.inj s) (bV Ba ajD (Q:Sum Ba.T aE->Prop))=(vy s).wpR Q:=by kernel_rfl
def ID (g2_2:df->lM) (s:df):OT aE:=(.ok ⟨(.exit 2,vx),g2_2 s⟩)
def Bc:az:=⟨[.val true (.prod .elem (.prod .elem .bool))],[],false⟩
def XM:SV->Option az:=λ_=>some Bc
def ac9 (ok0:cR->Bool) (g0_0:cR->lN) (ok2:df->Bool) (g2_2:df->lM) (a0:Int) (a1:aa) (a2:(aa×(aa×Bool))):OT kg.Y:=
 let z0:aa:= {w0:=0,w1:=0,w2:=0,w3:=0}
 let z1:Int:=aqD a0 (1:Int)
 let z2:aa:=ofP (pS z1) a1
 let z3:(Int×PUnit×PUnit×PUnit×PUnit×Int×PUnit)×List UInt64×(UInt64×UInt64×UInt64×UInt64×UInt64×UInt64×UInt64×UInt64×Bool×PUnit)×(UInt64×UInt64×UInt64×UInt64×UInt64×UInt64×UInt64×UInt64×Bool×PUnit)×(UInt64×UInt64×UInt64×UInt64×UInt64×UInt64×UInt64×UInt64×Bool×PUnit)×PUnit:=((a0,(),(),(),(),(255:Int),()),[z2.w0,z2.w1,z2.w2,z2.w3],(a2.fst.w0,a2.fst.w1,a2.fst.w2,a2.fst.w3,a2.snd.fst.w0,a2.snd.fst.w1,a2.snd.fst.w2,a2.snd.fst.w3,a2.snd.snd,()),((0:UInt64),(0:UInt64),(0:UInt64),(0:UInt64),(0:UInt64),(0:UInt64),(0:UInt64),(0:UInt64),false,()),((0:UInt64),(0:UInt64),(0:UInt64),(0:UInt64),(0:UInt64),(0:UInt64),(0:UInt64),(0:UInt64),true,()),())
 let z4:(Int×PUnit×PUnit×PUnit×PUnit×Int×PUnit)×List UInt64×(UInt64×UInt64×UInt64×UInt64×UInt64×UInt64×UInt64×UInt64×Bool×PUnit)×(UInt64×UInt64×UInt64×UInt64×UInt64×UInt64×UInt64×UInt64×Bool×PUnit)×(UInt64×UInt64×UInt64×UInt64×UInt64×UInt64×UInt64×UInt64×Bool×PUnit)×PUnit:=g0_0 z3
 let z5:=z4.fst
 let z6:=z4.snd
 let z7:=z6.snd
 let z8:=z7.fst
 let z9:=z8.snd
 let z10:=z9.snd
 let z11:=z10.snd
 let z12:=z11.snd
 let z13:=z12.snd
 let z14:=z13.snd
 let z15:=z14.snd
 let z16:=z7.snd
 let z17:=z16.fst
 let z18:=z17.snd
 let z19:=z18.snd
 let z20:=z19.snd
 let z21:=z20.snd
 let z22:=z21.snd
 let z23:=z22.snd
 let z24:=z23.snd
 let z25:=z16.snd.fst
 let z26:=z25.snd
 let z27:=z26.snd
 let z28:=z27.snd
 let z29:=z28.snd
 let z30:=z29.snd
 let z31:=z30.snd
 let z32:=z31.snd
 let z33:(Int×PUnit×PUnit×PUnit×PUnit×Int×PUnit)×List UInt64×(UInt64×UInt64×UInt64×UInt64×UInt64×UInt64×UInt64×UInt64×Bool×PUnit)×(UInt64×UInt64×UInt64×UInt64×UInt64×UInt64×UInt64×UInt64×Bool×PUnit)×(UInt64×UInt64×UInt64×UInt64×UInt64×UInt64×UInt64×UInt64×Bool×PUnit)×PUnit:=((z5.fst,(),(),(),(),z5.snd.snd.snd.snd.snd.fst,()),z6.fst,(z8.fst,z9.fst,z10.fst,z11.fst,z12.fst,z13.fst,z14.fst,z15.fst,z15.snd.fst,()),(z17.fst,z18.fst,z19.fst,z20.fst,z21.fst,z22.fst,z23.fst,z24.fst,z24.snd.fst,()),(z25.fst,z26.fst,z27.fst,z28.fst,z29.fst,z30.fst,z31.fst,z32.fst,z32.snd.fst,()),())
 let z34:=(g2_2 z33).snd.snd.fst
 let z35:=z34.snd
 let z36:=z35.snd
 let z37:=z36.snd
 let z38:=z37.snd
 let z39:=z38.snd
 let z40:=z39.snd
 let z41:=z40.snd
 (.br (!onB a0 a2)
 (.ok ⟨Bc,(((z0,z0,true),()),())⟩)
 (gd [ir ((z1,a1,()),()),ok0 z3,ok2 z33] (.ok ⟨Bc,((({w0:=z34.fst,w1:=z35.fst,w2:=z36.fst,w3:=z37.fst},{w0:=z38.fst,w1:=z39.fst,w2:=z40.fst,w3:=z41.fst},z41.snd.fst),()),())⟩)))
theorem aGp (ok0:cR->Bool) (g0_0:cR->lN) (ok2:df->Bool) (g2_2:df->lM) (x:Qf) (Q:kg.Y->Prop):wpf te zQ (aO 2 (cb Ba 2 ok2 (ID g2_2)) (aO 0 (cb Bb 0 ok0 (IE g0_0)) av)) 1000 Tryz.f164 (kg.inp.inj x).tm (kg.inp.inj x).hp (fnK kg XM Q) (λ_ _=>False)=(ac9 ok0 g0_0 ok2 g2_2 (x.1.1) (x.1.2.1) (x.1.2.2.1)).wpR Q:=by kernel_rfl
theorem amZ (ok0:cR->Bool) (g0_0:cR->lN) (ok2:df->Bool) (g2_2:df->lM) (h0:∀ s:cR,ok0 s=true->∃ m e,al (Be) m s=some e/\(IE g0_0 s).run=some e) (h2:∀ s:df,ok2 s=true->∃ m e,al (vy) m s=some e/\(ID g2_2 s).run=some e) (pre:Qf->Bool) (F:Qf->OT kg.Y) (hF:∀ (x:Qf) oy,pre x=true->(F x).run=some oy->(ac9 ok0 g0_0 ok2 g2_2 (x.1.1) (x.1.2.1) (x.1.2.2.1)).run=some oy):ac Tryz.prog 164 (kg.aH pre F):=
 aD aq pU zP (f:=164) (fn:=Tryz.f164) (c:=aj Tryz.f164) (by kernel_rfl) (by kernel_rfl) (by kernel_rfl) (S:=kg) (k:=0) (by kernel_rfl) (λR hR=>(aB (c:=(aj Tryz.f164)) (by kernel_rfl) (id:=2) (by kernel_rfl) (aS aq pU zP (sh:=Ba) hR (xs:=ajD) (aC (by kernel_rfl) (by kernel_rfl) hR) aK af (n:=1000) (T:=vy) (λs Q=>aAH s Q) (ok:=ok2) (f:=ID g2_2) h2) (aB (c:=(aj Tryz.f164)) (by kernel_rfl) (id:=0) (by kernel_rfl) (aS aq pU zP (sh:=Bb) hR (xs:=ajE) (aC (by kernel_rfl) (by kernel_rfl) hR) aK af (n:=1000) (T:=Be) (λs Q=>aAI s Q) (ok:=ok0) (f:=IE g0_0) h0) af))) (n:=1000) (sel:=XM) (λv o h=>by cases h;rfl) (pre:=pre) (F:=F) (T:=λx=>ac9 ok0 g0_0 ok2 g2_2 (x.1.1) (x.1.2.1) (x.1.2.2.1)) (λx Q=>aGp ok0 g0_0 ok2 g2_2 x Q) hF
def bE (P:Pt):C9:=(P.1.w0,P.1.w1,P.1.w2,P.1.w3,P.2.1.w0,P.2.1.w1,P.2.1.w2,P.2.1.w3,P.2.2,())
def ke (p k:Nat) (P:Pt) (n:Nat) (O:Pt):Pt:=cond (Sj k (255-n)) (lB p (lB p O O) P) (lB p O O)
def Xy (p k:Nat) (P:Pt):Pt:=upto (ke p k P) bD 256
theorem ajw {p k t:Nat} {P:Pt} (ht:t<=256) (hk:k/2^t=0):∀ n,n<=256-t->upto (ke p k P) bD n=bD
 |0,_=>rfl
 |n+1,hn=>by
  show ke p k P n (upto (ke p k P) bD n)=_
  rw [ajw ht hk n (by omega)]
  have hb:Sj k (255-n)=false:=by
   unfold Sj
   rw [show 255-n=t+(255-n-t) by omega,Nat.pow_add,<-Nat.div_div_eq_div_mul,hk,Nat.zero_div]
   rfl
  unfold ke
  rw [hb]
  rfl
def Ih (s:Int) (B:aa) (P:C9) (Q:C9) (O:C9) (i:Int):cR:=((s,(),(),(),(),i,()),(lst B,P,Q,O,()))
theorem ajq (s:Int) (B:aa) (P Q O:C9):∀ n:Nat,n<=256->∃ m,al Be m (Ih s B P Q O ((n:Int)-1))=some ⟨(.exit 0,ov),Ih s B P Q O (amA B.nat n)⟩
 |0,_=>⟨1,aM (OT.ar (decide_eq_false (by dsimp only [Ih];omega)))⟩
 |n+1,hn=>by
  have e1:((n+1:Nat):Int)-1=(n:Int):=by omega
  rw [e1]
  have hb:=aKM (b:=B) (k:=n) (by omega)
  unfold amA
  rcases (Bool.eq_false_or_eq_true (Sj B.nat n)).symm with h|h
  ·obtain ⟨m,hm⟩:=ajq s B P Q O n (by omega)
   rw [h] at hb⊢
   refine ⟨m+1,aG ?_ hm⟩
   refine (OT.ap (decide_eq_true (by dsimp only [Ih];omega))).trans ((aCk (B:=B) (k:=n) (by omega) _).trans ((OT.ap ?_).trans ((ah ?_).trans rfl)))
   ·exact (amc _).trans (congrArg Bool.not hb)
   ·simp only [List.all_cons,List.all_nil,Bool.and_true]
    exact aI (by dsimp only [Ih];omega)
  ·rw [h] at hb⊢
   refine ⟨1,aM ?_⟩
   refine (OT.ap (decide_eq_true (by dsimp only [Ih];omega))).trans ((aCk (B:=B) (k:=n) (by omega) _).trans ((OT.ar ?_).trans rfl))
   exact (amc _).trans (congrArg Bool.not hb)
def XO (s:cR):Bool:=decide (s.1.2.2.2.2.2.1=255/\s.2.1.length=4)
def ajG (s:cR):lN:=((s.1.1,(),(),(),(),amA (elemOf s.2.1).nat 256,()),s.2)
theorem aAL:∀ s:cR,XO s=true->∃ m e,al Be m s=some e/\(IE ajG s).run=some e:=by
 rintro ⟨⟨s,⟨⟩,⟨⟩,⟨⟩,⟨⟩,i,⟨⟩⟩,⟨l,P,Q,O,⟨⟩⟩⟩ h
 have h':=of_decide_eq_true h
 dsimp only at h'
 obtain ⟨rfl,hl⟩:=h'
 obtain ⟨B,rfl⟩:∃ a,l=lst a:=⟨elemOf l,(aR hl).symm⟩
 obtain ⟨m,hm⟩:=ajq s B P Q O 256 (by omega)
 exact ⟨m,_,hm,rfl⟩
theorem aGf {s:Int} (hs:ao s=true) (B:aa) (P Q:C9) (O:Pt) {k:Nat} (hk:k<256):
 (vy (Ih s B P Q (bE O) (k:Int))).run=some (.inl (Ih s B P Q (bE (ke (pS s) B.nat (n5 P) (255-k) O)) ((k:Int)-1))):=by
 have hb:=aKM (b:=B) (k:=k) hk
 have t1:Int.tdiv (k:Int) 64=((k/64:Nat):Int):=by rw [Int.tdiv_eq_ediv_of_nonneg (by omega)];omega
 have hi:inR ((k:Int)-1)=true:=aI (by omega)
 refine (OT.ap (decide_eq_true (by dsimp only [Ih];omega))).trans ((ah ?_).trans ?_)
 ·simp only [Ih,t1,Int.toNat_natCast,Nat.add_zero,cA,List.all_cons,List.all_nil,Bool.and_true,Bool.true_and,Bool.and_eq_true]
  exact ⟨hs,aI (by omega),aN (by omega),decide_eq_true (by omega)⟩
 ·rcases (Bool.eq_false_or_eq_true (Sj B.nat k)).symm with h|h
  ·have e:ke (pS s) B.nat (n5 P) (255-k) O=lB (pS s) O O:=by unfold ke;rw [show 255-(255-k)=k by omega,h];rfl
   rw [e]
   rw [h] at hb
   refine (OT.ar hb).trans ((ah ?_).trans rfl)
   simp only [List.all_cons,List.all_nil,Bool.and_true]
   exact hi
  ·have e:ke (pS s) B.nat (n5 P) (255-k) O=lB (pS s) (lB (pS s) O O) (n5 P):=by unfold ke;rw [show 255-(255-k)=k by omega,h];rfl
   rw [e]
   rw [h] at hb
   refine (OT.ap hb).trans ((ah ?_).trans rfl)
   simp only [List.all_cons,List.all_nil,Bool.and_true,Bool.and_eq_true]
   exact ⟨hs,hi⟩
theorem ajp {s:Int} (hs:ao s=true) (B:aa) (P Q:C9):∀ (n:Nat) (O:Pt),n<=256->O=upto (ke (pS s) B.nat (n5 P)) bD (256-n)->
 ∃ m,al vy m (Ih s B P Q (bE O) ((n:Int)-1))=some ⟨(.exit 2,vx),(((),(),()),(Q,bE (Xy (pS s) B.nat (n5 P)),()))⟩
 |0,O,_,hO=>by
  have e:Xy (pS s) B.nat (n5 P)=O:=hO.symm
  rw [e]
  exact ⟨1,aM (OT.ar (decide_eq_false (by dsimp only [Ih];omega)))⟩
 |n+1,O,hn,hO=>by
  obtain ⟨m,hm⟩:=ajp hs B P Q n (ke (pS s) B.nat (n5 P) (255-n) O) (by omega) (by
   rw [show 256-n=(255-n)+1 by omega,hO,show 256-(n+1)=255-n by omega]
   rfl)
  rw [show ((n+1:Nat):Int)-1=(n:Int) by omega]
  exact ⟨m+1,aG (aGf hs B P Q O (by omega)) hm⟩
def J0 (s:df):Bool:=ao s.1.1&&decide (s.1.2.2.2.2.2.1=amA (elemOf s.2.1).nat 256/\s.2.1.length=4/\n5 s.2.2.2.2.1=bD)
def ajF (s:df):lM:=(((),(),()),(s.2.2.2.1,bE (Xy (pS s.1.1) (elemOf s.2.1).nat (n5 s.2.2.1)),()))
theorem aAK:∀ s:df,J0 s=true->∃ m e,al vy m s=some e/\(ID ajF s).run=some e:=by
 rintro ⟨⟨s,⟨⟩,⟨⟩,⟨⟩,⟨⟩,i,⟨⟩⟩,⟨l,P,Q,O,⟨⟩⟩⟩ h
 simp only [J0,Bool.and_eq_true,decide_eq_true_eq] at h
 obtain ⟨hs,rfl,hl,hO⟩:=h
 have hO2:O=bE bD:=by rw [<-hO];rfl
 subst hO2
 obtain ⟨B,rfl⟩:∃ a,l=lst a:=⟨elemOf l,(aR hl).symm⟩
 obtain ⟨t,e1,e2,e3⟩:=JA B.nat 256 (Nat.div_eq_of_lt (iQ B))
 obtain ⟨m,hm⟩:=ajp hs B P Q t bD e2 (ajw e2 e3 _ (Nat.le_refl _)).symm
 rw [<-e1] at hm
 exact ⟨m,_,hm,rfl⟩
def Rf (c:Int) (k:aa) (P:Pt):Pt:=cond (onB c P) (Xy (pS c) (ofP (pS (aqD c 1)) k).nat P) bD
def XN (_:Qf):Bool:=true
def atA (x:Qf):OT kg.Y:=.ok ⟨Bc,((Rf x.1.1 x.1.2.1 x.1.2.2.1,()),())⟩
theorem aAJ:ac Tryz.prog 164 (kg.aH XN atA):=amZ XO ajG J0 ajF aAL aAK _ _ λx oy _ ho=>by
 rw [<-ho]
 clear ho
 obtain ⟨⟨c,k,P,⟨⟩⟩,⟨⟩⟩:=x
 show _=(OT.ok ⟨Bc,((Rf c k P,()),())⟩:OT kg.Y).run
 rcases (Bool.eq_false_or_eq_true (onB c P)).symm with h1|h1
 ·have e:Rf c k P=bD:=by unfold Rf;rw [h1];rfl
  rw [e]
  exact OT.ap (b:= !onB c P) (by rw [h1];rfl)
 ·have hs:=BF h1
  have e:Rf c k P=Xy (pS c) (ofP (pS (aqD c 1)) k).nat P:=by unfold Rf;rw [h1];rfl
  rw [e]
  refine (OT.ar (b:= !onB c P) (by rw [h1];rfl)).trans ((ah ?_).trans rfl)
  simp only [List.all_cons,List.all_nil,Bool.and_true,Bool.and_eq_true]
  refine ⟨D5 hs,decide_eq_true (p:=(255:Int)=255/\(lst (ofP (pS (aqD c 1)) k)).length=4) ⟨rfl,rfl⟩,?_⟩
  refine (Bool.and_eq_true _ _).mpr ⟨hs,?_⟩
  exact decide_eq_true (p:=amA (ofP (pS (aqD c 1)) k).nat 256=amA (ofP (pS (aqD c 1)) k).nat 256/\(lst (ofP (pS (aqD c 1)) k)).length=4/\bD=bD) ⟨rfl,rfl,rfl⟩
def Em:cf:=(kg.aH XN atA)
theorem ac8:ac Tryz.prog 164 Em:=aAJ
theorem ac7:aF Em:=aA
def zN:Env:=ay 164 Em zQ
theorem pT:aQ Tryz.prog zN:=ag ac8 pU
theorem Hv:ax zN:=ae ac7 Hx
theorem zM:aU Tryz.prog te zN:=aJ follows aq pT Hv
end Go.Proofs.YtohjofabochgfaaGreat
