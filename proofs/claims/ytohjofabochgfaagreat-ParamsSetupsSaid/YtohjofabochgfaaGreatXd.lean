/- A symbolic machine for Go code over plain data, and functions of the program as it shows them. No statement is proved in this file. -/
import Derived.KernelRfl
import Derived.Test.YtohjofabochgfaaGreatXc
set_option linter.unusedSimpArgs false
set_option linter.unusedVariables false
set_option linter.unusedSectionVars false

namespace Go.Proofs.YtohjofabochgfaaGreat
open Sx Go
set_option maxRecDepth 100000
def kr:aw:=⟨[.val true (.prod .elem (.prod .int (.prod .u64 (.prod .u64 .elem)))),.val true .elem,.val true .elem],[],true,0,false⟩
abbrev QT:Type:=(((aa×(Int×(UInt64×(UInt64×aa)))))×(aa)×(aa)×Unit)×(Unit)
def BK:Shape:=⟨61,[(3,.ptr 0 0 0),(4,.ptr 1 0 0),(6,.ptr 2 0 0),(7,.ptr 3 0 0),(13,.val true .elem),(14,.val false .int)],[(0,.cells [.val false .u64,.val false .u64,.val false .u64,.val false .u64,.val false .int,.val false .u64,.val false .u64,.val false .u64,.val false .u64,.val false .u64,.val false .u64]),(1,.row .u64),(2,.row .u64),(3,.row .u64)],0,true⟩
abbrev cM:Type:=((Unit)×(Unit)×(Unit)×(Unit)×(aa)×(Int)×Unit)×(((UInt64)×(UInt64)×(UInt64)×(UInt64)×(Int)×(UInt64)×(UInt64)×(UInt64)×(UInt64)×(UInt64)×(UInt64)×Unit)×(List (UInt64))×(List (UInt64))×(List (UInt64))×Unit)
def wi:Shape:=⟨61,[(3,.ptr 0 0 0),(6,.ptr 1 0 0),(7,.ptr 2 0 0)],[(0,.cells [.val false .u64,.val false .u64,.val false .u64,.val false .u64,.val false .int,.val false .u64,.val false .u64,.val false .u64,.val false .u64,.val false .u64,.val false .u64]),(1,.row .u64),(2,.row .u64)],0,true⟩
abbrev mi:Type:=((Unit)×(Unit)×(Unit)×Unit)×(((UInt64)×(UInt64)×(UInt64)×(UInt64)×(Int)×(UInt64)×(UInt64)×(UInt64)×(UInt64)×(UInt64)×(UInt64)×Unit)×(List (UInt64))×(List (UInt64))×Unit)
def ajE:SE->Option Shape:=fC [(0,wi)] none
def Up (a13:aa) (a14:Int) (c0_0:UInt64) (c0_1:UInt64) (c0_2:UInt64) (c0_3:UInt64) (c0_4:Int) (c0_5:UInt64) (c0_6:UInt64) (c0_7:UInt64) (c0_8:UInt64) (c0_9:UInt64) (c0_10:UInt64) (c1:List (UInt64)) (c2:List (UInt64)) (c3:List (UInt64)):OT (Sum cM aE):=
 let z0:Nat:=List.length c3
 let z1:List UInt64:=lay c3 (l6 (v6 (tab c3 6 (0:UInt64))+aa.nat {w0:=List.getD c1 0 0,w1:=List.getD c1 1 0,w2:=List.getD c1 2 0,w3:=List.getD c1 3 0}*UInt64.toNat (List.getD [a13.w0,a13.w1,a13.w2,a13.w3] (Int.toNat a14) (0:UInt64)))) 6 (0:UInt64)
 let z2:Nat:=List.length z1
 let z3:List UInt64:=lay z1 (l6 (v6 (tab z1 6 (0:UInt64))+aa.nat {w0:=c0_0,w1:=c0_1,w2:=c0_2,w3:=c0_3}*UInt64.toNat (List.getD z1 0 0*c0_6))) 6 (0:UInt64)
 let z4:Nat:=List.length z3
 (.br (decide (a14<(4:Int)))
 (gd [inB a14 4,decide (6<=z0),decide (4<=List.length c1),decide ((6/1:Nat)+0<=z0),decide (6<=z2),decide (0<z2),decide ((6/1:Nat)+0<=z2),decide (1<z4),decide (2<z4),decide (3<z4),decide (4<z4),decide (5<z4),decide ((6/1:Nat)+0<=z4),inR (a14+(1:Int))] (.ok (.inl (((),((),((),((),(a13,(a14+(1:Int),())))))),((c0_0,(c0_1,(c0_2,(c0_3,(c0_4,(c0_5,(c0_6,(c0_7,(c0_8,(c0_9,(c0_10,()))))))))))),(c1,(c2,(List.set (List.set (List.set (List.set (List.set (List.set z3 0 (List.getD z3 1 0)) 1 (List.getD z3 2 0)) 2 (List.getD z3 3 0)) 3 (List.getD z3 4 0)) 4 (List.getD z3 5 0)) 5 (0:UInt64),()))))))))
 (.ok (.inr ⟨(.exit 0,wi),(((),((),((),()))),((c0_0,(c0_1,(c0_2,(c0_3,(c0_4,(c0_5,(c0_6,(c0_7,(c0_8,(c0_9,(c0_10,()))))))))))),(c2,(c3,()))))⟩)))
def BL (s:cM):OT (Sum cM aE):=Up (s.1.2.2.2.2.1) (s.1.2.2.2.2.2.1) (s.2.1.1) (s.2.1.2.1) (s.2.1.2.2.1) (s.2.1.2.2.2.1) (s.2.1.2.2.2.2.1) (s.2.1.2.2.2.2.2.1) (s.2.1.2.2.2.2.2.2.1) (s.2.1.2.2.2.2.2.2.2.1) (s.2.1.2.2.2.2.2.2.2.2.1) (s.2.1.2.2.2.2.2.2.2.2.2.1) (s.2.1.2.2.2.2.2.2.2.2.2.2.1) (s.2.2.1) (s.2.2.2.1) (s.2.2.2.2.1)
theorem aAo (s:cM) (Q:Sum cM aE->Prop):wps te RX av 1000 (aU (aj Tryz.f118) 0) (BK.inj s) (bY BK ajE (Q:Sum BK.T aE->Prop))=(BL s).wpR Q:=by kernel_rfl
def Io (g0_0:cM->mi) (s:cM):OT aE:=(.ok ⟨(.exit 0,wi),g0_0 s⟩)
def wh:az:=⟨[.val true .elem],[],false⟩
def YR:SV->Option az:=λ_=>some wh
def ad8 (ok0:cM->Bool) (g0_0:cM->mi) (a0:(aa×(Int×(UInt64×(UInt64×aa))))) (a1:aa) (a2:aa):OT kr.Y:=
 let z0:(PUnit×PUnit×PUnit×PUnit×aa×Int×PUnit)×(UInt64×UInt64×UInt64×UInt64×Int×UInt64×UInt64×UInt64×UInt64×UInt64×UInt64×PUnit)×List UInt64×List UInt64×List UInt64×PUnit:=(((),(),(),(),a2,(0:Int),()),(a0.fst.w0,a0.fst.w1,a0.fst.w2,a0.fst.w3,a0.snd.fst,a0.snd.snd.fst,a0.snd.snd.snd.fst,a0.snd.snd.snd.snd.w0,a0.snd.snd.snd.snd.w1,a0.snd.snd.snd.snd.w2,a0.snd.snd.snd.snd.w3,()),[a1.w0,a1.w1,a1.w2,a1.w3],[(0:UInt64),(0:UInt64),(0:UInt64),(0:UInt64)],[(0:UInt64),(0:UInt64),(0:UInt64),(0:UInt64),(0:UInt64),(0:UInt64)],())
 let z1:=(g0_0 z0).snd
 let z2:=z1.snd
 let z3:=z2.snd.fst
 let z4:Nat:=List.length z3
 let z5:=z2.fst
 let z6:Nat:=List.length z5
 let z7:Bool:=decide ((4/1:Nat)+0<=z6)
 let z8:=z1.fst
 let z9:=z8.snd
 let z10:=z9.snd
 let z11:aa×Bool:=eu {w0:=List.getD z3 0 0,w1:=List.getD z3 1 0,w2:=List.getD z3 2 0,w3:=List.getD z3 3 0} {w0:=z8.fst,w1:=z9.fst,w2:=z10.fst,w3:=z10.snd.fst}
 let z12:=z11.fst
 let z13:List UInt64:=List.set (List.set (List.set (List.set z5 0 z12.w0) 1 z12.w1) 2 z12.w2) 3 z12.w3
 let z14:Bool:=decide (4<=List.length z13)
 let z15:aa:= {w0:=List.getD z13 0 0,w1:=List.getD z13 1 0,w2:=List.getD z13 2 0,w3:=List.getD z13 3 0}
 let z16:List UInt64:=lay z5 z3 4 (0:UInt64)
 (gd [ok0 z0,decide (6<=z4)&&true,decide (4<=z4),decide (4<z4)] (.br (!List.getD z3 4 0==(0:UInt64))
 (gd [z7,z14] (.ok ⟨wh,((z15,()),())⟩))
 (.br (!z11.snd)
  (gd [z7,z14] (.ok ⟨wh,((z15,()),())⟩))
  (gd [decide ((4/1:Nat)+0<=z6),decide (4<=List.length z16)] (.ok ⟨wh,(({w0:=List.getD z16 0 0,w1:=List.getD z16 1 0,w2:=List.getD z16 2 0,w3:=List.getD z16 3 0},()),())⟩)))))
theorem aFA (ok0:cM->Bool) (g0_0:cM->mi) (x:QT) (Q:kr.Y->Prop):wpf te RX (aO 0 (cl BK 0 ok0 (Io g0_0)) av) 1000 Tryz.f118 (kr.inp.inj x).tm (kr.inp.inj x).hp (fnK kr YR Q) (λ_ _=>False)=(ad8 ok0 g0_0 (x.1.1) (x.1.2.1) (x.1.2.2.1)).wpR Q:=by kernel_rfl
theorem ano (ok0:cM->Bool) (g0_0:cM->mi) (h0:∀ s:cM,ok0 s=true->∃ m e,al (BL) m s=some e/\(Io g0_0 s).run=some e) (pre:QT->Bool) (F:QT->OT kr.Y) (hF:∀ (x:QT) oy,pre x=true->(F x).run=some oy->(ad8 ok0 g0_0 (x.1.1) (x.1.2.1) (x.1.2.2.1)).run=some oy):ac Tryz.prog 118 (kr.aI pre F):=
 aD ar C5 RW (f:=118) (fn:=Tryz.f118) (c:=aj Tryz.f118) (by kernel_rfl) (by kernel_rfl) (by kernel_rfl) (S:=kr) (k:=0) (by kernel_rfl) (λR hR=>(aB (c:=(aj Tryz.f118)) (by kernel_rfl) (id:=0) (by kernel_rfl) (aR ar C5 RW (sh:=BK) hR (xs:=ajE) (aC (by kernel_rfl) (by kernel_rfl) hR) aL af (n:=1000) (T:=BL) (λs Q=>aAo s Q) (ok:=ok0) (f:=Io g0_0) h0) af)) (n:=1000) (sel:=YR) (λv o h=>by cases h;rfl) (pre:=pre) (F:=F) (T:=λx=>ad8 ok0 g0_0 (x.1.1) (x.1.2.1) (x.1.2.2.1)) (λx Q=>aFA ok0 g0_0 x Q) hF
def ko (n:O1):Bool:=decide (n=aY 2)||decide (n=aY 3)
theorem iV {n:O1} (h:ko n=true):n=aY 2\/n=aY 3:=by
 simpa [ko] using h
def ay3 (n:O1):Nat:=if n.2.2.2.1==11037532056220336127 then 15353493766103302224812374511606760489073247795810767472367693728416386214313 else 14238205147845459960272226733876560297615832660064601289232577236146637664127
theorem at4 {n:O1} (h:ko n=true):(n.1.nat*n.2.2.2.1.toNat+1)%18446744073709551616=0:=by
 rcases iV h with rfl|rfl<;>decide+kernel
theorem at5 {n:O1} (h:ko n=true):115792089237316195423570985008687907853269984665640564039457584007913129639936*ay3 n%n.1.nat=1%n.1.nat:=by
 rcases iV h with rfl|rfl<;>decide+kernel
theorem at2 {n:O1} (h:ko n=true):2*n.1.nat<=115792089237316195423570985008687907853269984665640564039457584007913129639936:=by
 rcases iV h with rfl|rfl<;>decide+kernel
theorem aJA (n:Nat):tab (l6 n) 6 0=l6 n:=rfl
theorem az9 {n:Nat} (h:n/18446744073709551616/18446744073709551616/18446744073709551616/18446744073709551616/18446744073709551616/18446744073709551616=0):
 [UInt64.ofNat (n/18446744073709551616),UInt64.ofNat (n/18446744073709551616/18446744073709551616),UInt64.ofNat (n/18446744073709551616/18446744073709551616/18446744073709551616),
  UInt64.ofNat (n/18446744073709551616/18446744073709551616/18446744073709551616/18446744073709551616),UInt64.ofNat (n/18446744073709551616/18446744073709551616/18446744073709551616/18446744073709551616/18446744073709551616),0]=l6 (n/18446744073709551616):=by
 unfold l6
 rw [h]
 rfl
theorem aJF (a b:Nat):lay (l6 a) (l6 b) 6 0=l6 b:=xE rfl rfl
theorem awF (U:Nat) (neg:UInt64):(List.getD (l6 U) 0 0*neg).toNat=U*neg.toNat%18446744073709551616:=by
 show (UInt64.ofNat U*neg).toNat=_
 rw [UInt64.toNat_mul,UInt64.toNat_ofNat',Nat.mul_mod,Nat.mod_mod,<-Nat.mul_mod]
theorem ann (b:aa) (k:Nat) (hk:k<4) (x0 x1 x2 x3 x5 x6 x7 x8 x9 x10:UInt64) (x4:Int) (c1 c2:List UInt64) (T:Nat) (h1:c1.length=4) (hT:T<2*(aa.mk x0 x1 x2 x3).nat)
 (hn:((aa.mk x0 x1 x2 x3).nat*x6.toNat+1)%18446744073709551616=0) (hp:2*(aa.mk x0 x1 x2 x3).nat<=115792089237316195423570985008687907853269984665640564039457584007913129639936) (ha:(elemOf c1).nat<(aa.mk x0 x1 x2 x3).nat):
 (Up b (k:Int) x0 x1 x2 x3 x4 x5 x6 x7 x8 x9 x10 c1 c2 (l6 T)).run=some (.inl (((),(),(),(),b,((k+1:Nat):Int),()),((x0,x1,x2,x3,x4,x5,x6,x7,x8,x9,x10,()),c1,c2,l6 (Jd (aa.mk x0 x1 x2 x3).nat x6.toNat (elemOf c1).nat ((lst b).getD k 0).toNat T),()))):=by
 have hlt:=u9 (b:=((lst b).getD k 0).toNat) hn hT ha (UInt64.toNat_lt _)
 have heq:=va (a:=(elemOf c1).nat) (b:=((lst b).getD k 0).toNat) (t:=T) hn
 have hrd:Jd (aa.mk x0 x1 x2 x3).nat x6.toNat (elemOf c1).nat ((lst b).getD k 0).toNat T=(T+(elemOf c1).nat*((lst b).getD k 0).toNat+(aa.mk x0 x1 x2 x3).nat*((T+(elemOf c1).nat*((lst b).getD k 0).toNat)*x6.toNat%18446744073709551616))/18446744073709551616:=rfl
 generalize hU:T+(elemOf c1).nat*((lst b).getD k 0).toNat=U at heq hrd
 generalize hV:U+(aa.mk x0 x1 x2 x3).nat*(U*x6.toNat%18446744073709551616)=V at heq hrd
 generalize Jd (aa.mk x0 x1 x2 x3).nat x6.toNat (elemOf c1).nat ((lst b).getD k 0).toNat T=S at*
 have hVU:U<=V:=by rw [<-hV];exact Nat.le_add_right _ _
 have hz1:lay (l6 T) (l6 (v6 (tab (l6 T) 6 0)+aa.nat {w0:=List.getD c1 0 0,w1:=List.getD c1 1 0,w2:=List.getD c1 2 0,w3:=List.getD c1 3 0}*UInt64.toNat (List.getD [b.w0,b.w1,b.w2,b.w3] (Int.toNat (k:Int)) 0))) 6 0=l6 U:=by
  rw [aJA,aG7 (by omega),aJF,Int.toNat_natCast]
  exact congrArg l6 hU
 have hz3:lay (l6 U) (l6 (v6 (tab (l6 U) 6 0)+aa.nat {w0:=x0,w1:=x1,w2:=x2,w3:=x3}*UInt64.toNat (List.getD (l6 U) 0 0*x6))) 6 0=l6 V:=by
  rw [aJA,aG7 (by omega),aJF,awF,hV]
 have hsh:_=l6 (V/18446744073709551616):=az9 (n:=V) (by omega)
 unfold Up
 simp only [hz1,hz3]
 refine (OT.ao (decide_eq_true (by omega))).trans ((ah ?_).trans ?_)
 ·simp only [atP,h1,List.all_cons,List.all_nil,Bool.and_true,Bool.and_eq_true]
  exact ⟨aN (by omega),rfl,rfl,rfl,rfl,rfl,rfl,rfl,rfl,rfl,rfl,rfl,rfl,aH (by omega)⟩
 ·rw [hrd]
  exact congrArg (λl=>some (Sum.inl (((),(),(),(),b,((k+1:Nat):Int),()),((x0,x1,x2,x3,x4,x5,x6,x7,x8,x9,x10,()),c1,c2,l,())))) hsh
def avA (s:cM):aa:=⟨s.2.1.1,s.2.1.2.1,s.2.1.2.2.1,s.2.1.2.2.2.1⟩
def aGs (s:cM):UInt64:=s.2.1.2.2.2.2.2.2.1
def YS (s:cM):Bool:=decide (s.1.2.2.2.2.2.1=0/\s.2.2.1.length=4/\s.2.2.2.2.1=l6 0/\((avA s).nat*(aGs s).toNat+1)%18446744073709551616=0/\2*(avA s).nat<=115792089237316195423570985008687907853269984665640564039457584007913129639936/\(elemOf s.2.2.1).nat<(avA s).nat)
def Uo (s:cM):mi:=(((),(),(),()),(s.2.1,s.2.2.2.1,l6 (aHY (avA s).nat (aGs s).toNat (elemOf s.2.2.1).nat s.1.2.2.2.2.1),()))
theorem aAq:∀ s:cM,YS s=true->∃ m e,al BL m s=some e/\(Io Uo s).run=some e:=by
 rintro ⟨⟨⟨⟩,⟨⟩,⟨⟩,⟨⟩,b,i,⟨⟩⟩,⟨⟨x0,x1,x2,x3,x4,x5,x6,x7,x8,x9,x10,⟨⟩⟩,c1,c2,c3,⟨⟩⟩⟩ h
 have h':=of_decide_eq_true h
 dsimp only [avA,aGs] at h'
 obtain ⟨rfl,h1,rfl,hn,hp,ha⟩:=h'
 have:=(aP (T:=BL) (λk T=>((((),(),(),(),b,(k:Int),()),((x0,x1,x2,x3,x4,x5,x6,x7,x8,x9,x10,()),c1,c2,l6 T,())):cM)) (λk T=>Jd (aa.mk x0 x1 x2 x3).nat x6.toNat (elemOf c1).nat ((lst b).getD k 0).toNat T)
  (λT=>(⟨(.exit 0,wi),(((),(),(),()),((x0,x1,x2,x3,x4,x5,x6,x7,x8,x9,x10,()),c2,l6 T,()))⟩:aE)) 4 0 (λ_ T=>T<2*(aa.mk x0 x1 x2 x3).nat) (by omega) (λk T hk hT=>⟨?_,?_⟩) (λT hT=> ?_)).1
 ·obtain ⟨m,hm⟩:=this
  exact ⟨m,_,hm,rfl⟩
 ·exact ann b k hk x0 x1 x2 x3 x5 x6 x7 x8 x9 x10 x4 c1 c2 T h1 hT hn hp ha
 ·exact u9 hn hT ha (UInt64.toNat_lt _)
 ·exact OT.aq (decide_eq_false (by dsimp only;omega))
def tF (x:QT):Bool:=ko x.1.1&&Nat.blt x.1.2.1.nat x.1.1.1.nat
def aue (x:QT):OT kr.Y:=.ok ⟨wh,((ofN (x.1.2.1.nat*x.1.2.2.1.nat*ay3 x.1.1%x.1.1.1.nat),()),())⟩
theorem aAp:ac Tryz.prog 118 (kr.aI tF aue):=ano YS Uo aAq _ _ λx oy hp ho=>by
 rw [<-ho]
 clear ho
 obtain ⟨⟨⟨⟨m0,m1,m2,m3⟩,ad,sm,neg,sq⟩,a,b,⟨⟩⟩,⟨⟩⟩:=x
 have hp':(ko (⟨m0,m1,m2,m3⟩,ad,sm,neg,sq)&&Nat.blt a.nat (aa.mk m0 m1 m2 m3).nat)=true:=hp
 rw [Bool.and_eq_true] at hp'
 obtain ⟨hg,ha⟩:=hp'
 have ha:=dR ha
 have hn:((aa.mk m0 m1 m2 m3).nat*neg.toNat+1)%18446744073709551616=0:=at4 hg
 have h2:2*(aa.mk m0 m1 m2 m3).nat<=115792089237316195423570985008687907853269984665640564039457584007913129639936:=at2 hg
 have hr:115792089237316195423570985008687907853269984665640564039457584007913129639936*ay3 (⟨m0,m1,m2,m3⟩,ad,sm,neg,sq)%(aa.mk m0 m1 m2 m3).nat=1%(aa.mk m0 m1 m2 m3).nat:=at5 hg
 have hM:=az4 (a:=a.nat) (b:=b) hn hr
 have hL:=aFo (b:=b) hn ha
 refine (ah ?_).trans ?_
 ·simp only [List.all_cons,List.all_nil,Bool.and_true,Bool.and_eq_true]
  exact ⟨decide_eq_true ⟨rfl,rfl,rfl,hn,h2,ha⟩,rfl,rfl,rfl⟩
 ·show _=(OT.ok ⟨wh,((ofN (a.nat*b.nat*ay3 (⟨m0,m1,m2,m3⟩,ad,sm,neg,sq)%(aa.mk m0 m1 m2 m3).nat),()),())⟩:OT kr.Y).run
  rw [<-hM,aFp hL]
  have e0:Uo (((),(),(),(),b,0,()),((m0,m1,m2,m3,ad,sm,neg,sq.w0,sq.w1,sq.w2,sq.w3,()),[a.w0,a.w1,a.w2,a.w3],[0,0,0,0],[0,0,0,0,0,0],()))=(((),(),(),()),((m0,m1,m2,m3,ad,sm,neg,sq.w0,sq.w1,sq.w2,sq.w3,()),[0,0,0,0],l6 (aHY (aa.mk m0 m1 m2 m3).nat neg.toNat a.nat b),())):=rfl
  dsimp only
  rw [e0]
  clear e0 hM
  generalize aHY (aa.mk m0 m1 m2 m3).nat neg.toNat a.nat b=M at*
  have e4:List.getD (l6 M) 4 0=0:=by
   show UInt64.ofNat (M/18446744073709551616/18446744073709551616/18446744073709551616/18446744073709551616)=0
   rw [show M/18446744073709551616/18446744073709551616/18446744073709551616/18446744073709551616=0 by omega]
   rfl
  refine (OT.aq (by rw [e4];rfl)).trans ?_
  have eN:(ofN M).nat=M:=km (by omega)
  by_cases hlt:M<(aa.mk m0 m1 m2 m3).nat
  ·rw [if_pos hlt]
   refine (OT.aq ?_).trans ((ah rfl).trans rfl)
   show (!Nat.blt (ofN M).nat (aa.mk m0 m1 m2 m3).nat)=false
   rw [eN,show Nat.blt M (aa.mk m0 m1 m2 m3).nat=true from Nat.ble_eq_true_of_le hlt]
   rfl
  ·rw [if_neg hlt]
   refine (OT.ao ?_).trans ((ah rfl).trans ?_)
   ·show (!Nat.blt (ofN M).nat (aa.mk m0 m1 m2 m3).nat)=true
    rw [eN]
    cases hb:Nat.blt M (aa.mk m0 m1 m2 m3).nat
    ·rfl
    ·exact absurd (dR hb) hlt
   ·have ew:(eu (ofN M) (aa.mk m0 m1 m2 m3)).1=ofN (M-(aa.mk m0 m1 m2 m3).nat):=by
     apply qM
     rw [mP (by omega),eN,km (by omega)]
    rw [<-ew]
    rfl
def EZ:cn:=(kr.aI tF aue)
theorem ad7:ac Tryz.prog 118 EZ:=aAp
theorem ad6:aG EZ:=aA
def Ny:Env:=ay 118 EZ RX
theorem F2:aQ Tryz.prog Ny:=ag ad7 C5
theorem Hl:ax Ny:=ae ad6 NS
theorem afF:aW Tryz.prog te Ny:=aJ follows ar F2 Hl
def ks:aw:=⟨[.val true (.prod .elem (.prod .int (.prod .u64 (.prod .u64 .elem)))),.val true .elem,.val true .elem],[],true,0,false⟩
abbrev QY:Type:=(((aa×(Int×(UInt64×(UInt64×aa)))))×(aa)×(aa)×Unit)×(Unit)
def ra:az:=⟨[.val true .elem],[],false⟩
def Y7:SV->Option az:=λ_=>some ra
def zc (a0:(aa×(Int×(UInt64×(UInt64×aa))))) (a1:aa) (a2:aa):OT ks.Y:=
 let z0:Bool:= !a0.snd.snd.fst==(0:UInt64)
 let z1:Nat:=aa.nat a0.fst
 let z2:aa:=ofN (aa.nat a1%z1)
 let z3:aa:=ofN (aa.nat a2%z1)
 let z4:Nat:=ay3 a0
 let z5:aa:=ofN (aa.nat z2*aa.nat z3*z4%z1)
 (gd [gx ((a0,a1,()),()),gx ((a0,a2,()),())] (.br (z0)
 (gd [z0] (.ok ⟨ra,(({w0:=z2.w0*z3.w0%a0.snd.snd.fst,w1:=0,w2:=0,w3:=0},()),())⟩))
 (gd [tF ((a0,z2,z3,()),()),tF ((a0,z5,a0.snd.snd.snd.snd,()),())] (.ok ⟨ra,((ofN (aa.nat z5*aa.nat a0.snd.snd.snd.snd*z4%z1),()),())⟩))))
theorem aFQ (x:QY) (Q:ks.Y->Prop):wpf te Ny av 1000 Tryz.f77 (ks.inp.inj x).tm (ks.inp.inj x).hp (fnK ks Y7 Q) (λ_ _=>False)=(zc (x.1.1) (x.1.2.1) (x.1.2.2.1)).wpR Q:=by kernel_rfl
theorem anF (pre:QY->Bool) (F:QY->OT ks.Y) (hF:∀ (x:QY) oy,pre x=true->(F x).run=some oy->(zc (x.1.1) (x.1.2.1) (x.1.2.2.1)).run=some oy):ac Tryz.prog 77 (ks.aI pre F):=
 aD ar F2 afF (f:=77) (fn:=Tryz.f77) (c:=aj Tryz.f77) (by kernel_rfl) (by kernel_rfl) (by kernel_rfl) (S:=ks) (k:=0) (by kernel_rfl) (λR hR=>af) (n:=1000) (sel:=Y7) (λv o h=>by cases h;rfl) (pre:=pre) (F:=F) (T:=λx=>zc (x.1.1) (x.1.2.1) (x.1.2.2.1)) (λx Q=>aFQ x Q) hF
theorem atz {p A B r s:Nat} (h:r*s*r%p=1%p):A*B*r%p*s*r%p=A*B%p:=by
 have e:A*B*r*(s*r)=A*B*(r*s*r):=by
  rw [Nat.mul_assoc (A*B) r (s*r),Nat.mul_assoc r s r]
 rw [Nat.mul_assoc,Nat.mul_mod,Nat.mod_mod,<-Nat.mul_mod,e,Nat.mul_mod,h,<-Nat.mul_mod,Nat.mul_one]
theorem aAc {n:O1} (h:ko n=true):ay3 n*n.2.2.2.2.nat*ay3 n%n.1.nat=1%n.1.nat:=by
 rcases iV h with rfl|rfl<;>decide+kernel
theorem aIb:ko (aY 2)=true:=by decide+kernel
theorem aIa:ko (aY 3)=true:=by decide+kernel
theorem at3 {n:O1} (h:ko n=true):kl n=true:=by
 rcases iV h with rfl|rfl<;>decide+kernel
theorem GI {n:O1} {a b:aa} {m:UInt64} (hn0:kl n=true) (h1:n.1=⟨m,0,0,0⟩) (h2:n.2.2.1=m) (hs:fW m=true):(zc n a b).run=some ⟨ra,((bP n.1.nat a b,()),())⟩:=by
 have hm:=lu hs
 have hb':m.toNat<=16521217:=by rcases ec hs with rfl|rfl<;>decide
 have hn:n.1.nat=m.toNat:=by rw [h1];show m.toNat+_*(0+_*(0+_*0))=_;omega
 have hz:(!(n.2.2.1==0))=true:=by
  rw [h2]
  rcases ec hs with rfl|rfl<;>rfl
 have ha:=Nat.mod_lt a.nat hm
 have hb:=Nat.mod_lt b.nat hm
 have hab:a.nat%m.toNat*(b.nat%m.toNat)<18446744073709551616:=by
  have:a.nat%m.toNat*(b.nat%m.toNat)<=16521217*16521217:=Nat.mul_le_mul (by omega) (by omega)
  omega
 have e:UInt64.ofNat (a.nat%m.toNat)*UInt64.ofNat (b.nat%m.toNat)%m=UInt64.ofNat (a.nat*b.nat%m.toNat):=by
  have hlt:=Nat.mod_lt (a.nat*b.nat) hm
  rw [<-UInt64.toNat_inj,UInt64.toNat_mod,UInt64.toNat_mul,UInt64.toNat_ofNat',UInt64.toNat_ofNat',UInt64.toNat_ofNat',Nat.mod_eq_of_lt (a:=a.nat%m.toNat) (by omega),Nat.mod_eq_of_lt (a:=b.nat%m.toNat) (by omega),
   Nat.mod_eq_of_lt (a:=a.nat%m.toNat*(b.nat%m.toNat)) (by omega),Nat.mod_eq_of_lt (a:=a.nat*b.nat%m.toNat) (by omega),<-Nat.mul_mod]
 have hlt:=Nat.mod_lt (a.nat*b.nat) hm
 unfold zc
 refine (ah ?_).trans ((OT.ao hz).trans ((ah ?_).trans ?_))
 ·simp only [List.all_cons,List.all_nil,Bool.and_true,Bool.and_eq_true]
  exact ⟨hn0,hn0⟩
 ·simp only [hz,List.all_cons,List.all_nil,Bool.and_true]
 ·unfold bP
  rw [hn,tf (n:=a.nat*b.nat%m.toNat) (by omega),<-e]
  show some (⟨ra,((⟨UInt64.ofNat (a.nat%m.toNat)*UInt64.ofNat (b.nat%m.toNat)%n.2.2.1,0,0,0⟩,()),())⟩:ks.Y)=_
  rw [h2]
theorem LH {n:O1} {a b:aa} (h:ko n=true) (h2:n.2.2.1=0):(zc n a b).run=some ⟨ra,((bP n.1.nat a b,()),())⟩:=by
 have hn0:=at3 h
 have hp:=Bn hn0
 have hz:(!(n.2.2.1==0))=false:=by rw [h2];rfl
 have e1:(ofN (a.nat%n.1.nat)).nat=a.nat%n.1.nat:=dg hp
 have e2:(ofN (b.nat%n.1.nat)).nat=b.nat%n.1.nat:=dg hp
 have e3:(ofN (a.nat%n.1.nat*(b.nat%n.1.nat)*ay3 n%n.1.nat)).nat=a.nat%n.1.nat*(b.nat%n.1.nat)*ay3 n%n.1.nat:=dg hp
 unfold zc
 refine (ah ?_).trans ((OT.aq hz).trans ((ah ?_).trans ?_))
 ·simp only [List.all_cons,List.all_nil,Bool.and_true,Bool.and_eq_true]
  exact ⟨hn0,hn0⟩
 ·simp only [List.all_cons,List.all_nil,Bool.and_true,Bool.and_eq_true,tF,h,true_and,e1,e2,e3]
  exact ⟨Nat.ble_eq_true_of_le (Nat.mod_lt _ hp.1),Nat.ble_eq_true_of_le (Nat.mod_lt _ hp.1)⟩
 ·simp only [e1,e2,e3,atz (aAc h),bP,<-Nat.mul_mod]
  rfl
def fZ (x:QY):Bool:=kl x.1.1
def aur (x:QY):OT ks.Y:=.ok ⟨ra,((bP x.1.1.1.nat x.1.2.1 x.1.2.2.1,()),())⟩
theorem aAu:ac Tryz.prog 77 (ks.aI fZ aur):=anF _ _ λx oy hp ho=>by
 rw [<-ho]
 clear ho
 obtain ⟨⟨n,a,b,⟨⟩⟩,⟨⟩⟩:=x
 have hp':kl n=true:=hp
 rcases yT hp' with rfl|rfl|rfl|rfl
 ·exact GI hp' (m:=16513537) rfl rfl rfl
 ·exact GI hp' (m:=16521217) rfl rfl rfl
 ·exact LH aIb rfl
 ·exact LH aIa rfl
def E3:cn:=(ks.aI fZ aur)
theorem aee:ac Tryz.prog 77 E3:=aAu
theorem aed:aG E3:=aA
def NG:Env:=ay 77 E3 Ny
theorem F4:aQ Tryz.prog NG:=ag aee F2
theorem Hn:ax NG:=ae aed Hl
theorem afH:aW Tryz.prog te NG:=aJ follows ar F4 Hn
def tK:aw:=⟨[.val false .int,.val true .elem,.val true .elem],[],true,0,false⟩
abbrev anE:Type:=((Int)×(aa)×(aa)×Unit)×(Unit)
def LG:az:=⟨[.val true .elem],[],false⟩
def ajN:SV->Option az:=λ_=>some LG
def auq (a0:Int) (a1:aa) (a2:aa):OT tK.Y:=
 let z0:aa×Int×UInt64×UInt64×aa:=aY (Int.toNat a0)
 (.br (ap a0)
 (gd [fZ ((z0,a1,a2,()),())] (.ok ⟨LG,((bP (aa.nat z0.fst) a1 a2,()),())⟩))
 (.ok ⟨LG,(({w0:=0,w1:=0,w2:=0,w3:=0},()),())⟩))
theorem aIk (x:anE) (Q:tK.Y->Prop):wpf te NG av 1000 Tryz.f42 (tK.inp.inj x).tm (tK.inp.inj x).hp (fnK tK ajN Q) (λ_ _=>False)=(auq (x.1.1) (x.1.2.1) (x.1.2.2.1)).wpR Q:=by kernel_rfl
theorem aup (pre:anE->Bool) (F:anE->OT tK.Y) (hF:∀ (x:anE) oy,pre x=true->(F x).run=some oy->(auq (x.1.1) (x.1.2.1) (x.1.2.2.1)).run=some oy):ac Tryz.prog 42 (tK.aI pre F):=
 aD ar F4 afH (f:=42) (fn:=Tryz.f42) (c:=aj Tryz.f42) (by kernel_rfl) (by kernel_rfl) (by kernel_rfl) (S:=tK) (k:=0) (by kernel_rfl) (λR hR=>af) (n:=1000) (sel:=ajN) (λv o h=>by cases h;rfl) (pre:=pre) (F:=F) (T:=λx=>auq (x.1.1) (x.1.2.1) (x.1.2.2.1)) (λx Q=>aIk x Q) hF
def ajO (_:anE):Bool:=true
def aB8 (x:anE):OT tK.Y:=.br (ap x.1.1) (.ok ⟨LG,((bP (pS x.1.1) x.1.2.1 x.1.2.2.1,()),())⟩) (.ok ⟨LG,((⟨0,0,0,0⟩,()),())⟩)
theorem aFP:ac Tryz.prog 42 (tK.aI ajO aB8):=aup _ _ λx oy hp ho=>by
 rw [<-ho]
 clear ho
 obtain ⟨⟨s,a,b,⟨⟩⟩,⟨⟩⟩:=x
 cases hs:ap s
 ·exact (OT.aq hs).trans (OT.aq (b:=ap s) hs).symm
 ·refine (OT.ao hs).trans ((ah ?_).trans (OT.ao (b:=ap s) hs).symm)
  simp only [List.all_cons,List.all_nil,Bool.and_true]
  exact iP hs
def LF:cn:=(tK.aI ajO aB8)
theorem anD:ac Tryz.prog 42 LF:=aFP
theorem anC:aG LF:=aA
def aaS:Env:=ay 42 LF NG
theorem NE:aQ Tryz.prog aaS:=ag anD F4
theorem NF:ax aaS:=ae anC Hn
theorem ao5:aW Tryz.prog te aaS:=aJ follows ar NE NF
def mm:aw:=⟨[.val true .elem],[],true,0,false⟩
abbrev Q3:Type:=((aa)×Unit)×(Unit)
def UB:az:=⟨[.val true .elem],[],false⟩
def Zd:SV->Option az:=λ_=>some UB
def aei (a0:aa):OT mm.Y:=
 (.ok ⟨UB,(({w0:=bk a0.w0 (1:Int)|||bR a0.w1 (63:Int),w1:=bk a0.w1 (1:Int)|||bR a0.w2 (63:Int),w2:=bk a0.w2 (1:Int)|||bR a0.w3 (63:Int),w3:=bk a0.w3 (1:Int)},()),())⟩)
theorem aFU (x:Q3) (Q:mm.Y->Prop):wpf te aaS av 1000 Tryz.f138 (mm.inp.inj x).tm (mm.inp.inj x).hp (fnK mm Zd Q) (λ_ _=>False)=(aei (x.1.1)).wpR Q:=by kernel_rfl
theorem anQ (pre:Q3->Bool) (F:Q3->OT mm.Y) (hF:∀ (x:Q3) oy,pre x=true->(F x).run=some oy->(aei (x.1.1)).run=some oy):ac Tryz.prog 138 (mm.aI pre F):=
 aD ar NE ao5 (f:=138) (fn:=Tryz.f138) (c:=aj Tryz.f138) (by kernel_rfl) (by kernel_rfl) (by kernel_rfl) (S:=mm) (k:=0) (by kernel_rfl) (λR hR=>af) (n:=1000) (sel:=Zd) (λv o h=>by cases h;rfl) (pre:=pre) (F:=F) (T:=λx=>aei (x.1.1)) (λx Q=>aFU x Q) hF
theorem Lk (x y:UInt64):(bk x 1|||bR y 63).toNat=x.toNat/2+9223372036854775808*(y.toNat%2):=by
 have hx:=x.toNat_lt
 have e1:(bk x 1).toNat=x.toNat/2:=eZ x 1 (by omega)
 have e2:(bR y 63).toNat=9223372036854775808*(y.toNat%2):=by
  have:=lv y 63 (by omega)
  have e:(bR y 63).toNat=y.toNat*2^63%2^64:=this
  rw [e]
  omega
 rw [UInt64.toNat_or,e1,e2,Nat.or_comm]
 have:=Nat.two_pow_add_eq_or_of_lt (i:=63) (b:=x.toNat/2) (by omega) (y.toNat%2)
 rw [Nat.add_comm]
 exact this.symm
theorem Ll (x N:Nat):(x+18446744073709551616*N)/2=(x/2+9223372036854775808*(N%2))+18446744073709551616*(N/2):=by
 omega
theorem adM (y N:Nat):(y+18446744073709551616*N)%2=y%2:=by
 omega
def dp (a:aa):aa:=ofN (a.nat/2)
theorem ajt (a:aa):dp a=⟨bk a.w0 1|||bR a.w1 63,bk a.w1 1|||bR a.w2 63,bk a.w2 1|||bR a.w3 63,bk a.w3 1⟩:=by
 refine atj (k:=0) ?_
 rw [Lk,Lk,Lk,Nat.mul_zero,Nat.add_zero]
 unfold Sx.aa.nat
 have e3:(bk a.w3 1).toNat=a.w3.toNat/2:=eZ a.w3 1 (by omega)
 rw [Ll,adM,Ll,adM,Ll,e3]
def Ze (_:Q3):Bool:=true
def aej (x:Q3):OT mm.Y:=.ok ⟨UB,((dp x.1.1,()),())⟩
theorem aAv:ac Tryz.prog 138 (mm.aI Ze aej):=anQ _ _ λx oy hp ho=>by
 rw [<-ho]
 clear ho
 obtain ⟨⟨a,⟨⟩⟩,⟨⟩⟩:=x
 simp only [aej,ajt]
 rfl
def E4:cn:=(mm.aI Ze aej)
theorem aeh:ac Tryz.prog 138 E4:=aAv
theorem aeg:aG E4:=aA
def F6:Env:=ay 138 E4 aaS
theorem xn:aQ Tryz.prog F6:=ag aeh NE
theorem Ho:ax F6:=ae aeg NF
theorem NL:aW Tryz.prog te F6:=aJ follows ar xn Ho
def fg:aw:=⟨[.val true .elem,.val false .int],[],true,0,false⟩
abbrev wu:Type:=((aa)×(Int)×Unit)×(Unit)
def pk:Shape:=⟨12,[(2,.ptr 0 0 0),(4,.ptr 1 0 0),(5,.val false .int),(6,.val false .int)],[(0,.row .u64),(1,.row .u64)],0,true⟩
abbrev cd:Type:=((Unit)×(Unit)×(Int)×(Int)×Unit)×((List (UInt64))×(List (UInt64))×Unit)
def nw:Shape:=⟨12,[(2,.ptr 0 0 0),(4,.ptr 1 0 0)],[(0,.row .u64),(1,.row .u64)],0,true⟩
abbrev iX:Type:=((Unit)×(Unit)×Unit)×((List (UInt64))×(List (UInt64))×Unit)
def Q1:SE->Option Shape:=fC [(0,nw)] none
def anP (a5:Int) (a6:Int) (c0:List (UInt64)) (c1:List (UInt64)):OT (Sum cd aE):=
 let z0:Nat:=List.length c0
 let z1:aa:=dp {w0:=List.getD c0 0 0,w1:=List.getD c0 1 0,w2:=List.getD c0 2 0,w3:=List.getD c0 3 0}
 (.br (decide (a6<a5))
 (gd [decide (4<=z0),decide ((4/1:Nat)+0<=z0),inR (a6+(1:Int))] (.ok (.inl (((),((),(a5,(a6+(1:Int),())))),(List.set (List.set (List.set (List.set c0 0 z1.w0) 1 z1.w1) 2 z1.w2) 3 z1.w3,(c1,()))))))
 (.ok (.inr ⟨(.exit 0,nw),(((),((),())),(c0,(c1,())))⟩)))
def pn (s:cd):OT (Sum cd aE):=anP (s.1.2.2.1) (s.1.2.2.2.1) (s.2.1) (s.2.2.1)
theorem anM (s:cd) (Q:Sum cd aE->Prop):wps te F6 av 1000 (aU (aj Tryz.f136) 0) (pk.inj s) (bY pk Q1 (Q:Sum pk.T aE->Prop))=(pn s).wpR Q:=by kernel_rfl
def wq (g0_0:cd->iX) (s:cd):OT aE:=(.ok ⟨(.exit 0,nw),g0_0 s⟩)
def pl:az:=⟨[.val true .elem],[],false⟩
def LN:SV->Option az:=λ_=>some pl
def LP (ok0:cd->Bool) (g0_0:cd->iX) (a0:aa) (a1:Int):OT fg.Y:=
 let z0:(PUnit×PUnit×Int×Int×PUnit)×List UInt64×List UInt64×PUnit:=(((),(),a1,(0:Int),()),[a0.w0,a0.w1,a0.w2,a0.w3],[(0:UInt64),(0:UInt64),(0:UInt64),(0:UInt64)],())
 let z1:=(g0_0 z0).snd
 let z2:=z1.fst
 let z3:=z1.snd.fst
 let z4:List UInt64:=lay z3 z2 4 (0:UInt64)
 (gd [ok0 z0,decide (4<=List.length z2),decide ((4/1:Nat)+0<=List.length z3),decide (4<=List.length z4)] (.ok ⟨pl,(({w0:=List.getD z4 0 0,w1:=List.getD z4 1 0,w2:=List.getD z4 2 0,w3:=List.getD z4 3 0},()),())⟩))
theorem auw (ok0:cd->Bool) (g0_0:cd->iX) (x:wu) (Q:fg.Y->Prop):wpf te F6 (aO 0 (cl pk 0 ok0 (wq g0_0)) av) 1000 Tryz.f136 (fg.inp.inj x).tm (fg.inp.inj x).hp (fnK fg LN Q) (λ_ _=>False)=(LP ok0 g0_0 (x.1.1) (x.1.2.1)).wpR Q:=by kernel_rfl
theorem Zb (ok0:cd->Bool) (g0_0:cd->iX) (h0:∀ s:cd,ok0 s=true->∃ m e,al (pn) m s=some e/\(wq g0_0 s).run=some e) (pre:wu->Bool) (F:wu->OT fg.Y) (hF:∀ (x:wu) oy,pre x=true->(F x).run=some oy->(LP ok0 g0_0 (x.1.1) (x.1.2.1)).run=some oy):ac Tryz.prog 136 (fg.aI pre F):=
 aD ar xn NL (f:=136) (fn:=Tryz.f136) (c:=aj Tryz.f136) (by kernel_rfl) (by kernel_rfl) (by kernel_rfl) (S:=fg) (k:=0) (by kernel_rfl) (λR hR=>(aB (c:=(aj Tryz.f136)) (by kernel_rfl) (id:=0) (by kernel_rfl) (aR ar xn NL (sh:=pk) hR (xs:=Q1) (aC (by kernel_rfl) (by kernel_rfl) hR) aL af (n:=1000) (T:=pn) (λs Q=>anM s Q) (ok:=ok0) (f:=wq g0_0) h0) af)) (n:=1000) (sel:=LN) (λv o h=>by cases h;rfl) (pre:=pre) (F:=F) (T:=λx=>LP ok0 g0_0 (x.1.1) (x.1.2.1)) (λx Q=>auw ok0 g0_0 x Q) hF
def dT (a:aa) (n:Nat):aa:=ofN (a.nat/2^n)
theorem y8 (a:aa):∀ n,upto (λ_ e=>dp e) a n=dT a n
 |0=>by
  show a=ofN (a.nat/2^0)
  rw [Nat.pow_zero,Nat.div_one,vT]
 |n+1=>by
  show dp (upto (λ_ e=>dp e) a n)=_
  rw [y8 a n]
  unfold dp dT
  have:=jq a
  have h2:a.nat/2^n<=a.nat:=Nat.div_le_self _ _
  rw [km (by omega),Nat.div_div_eq_div_mul,<-Nat.pow_succ]
def LO (s:cd):Bool:=decide (s.1.2.2.2.1=0/\0<=s.1.2.2.1/\s.1.2.2.1<=1000000/\s.2.1.length=4)
def Q2 (s:cd):iX:=(((),(),()),(lst (dT (elemOf s.2.1) s.1.2.2.1.toNat),s.2.2.1,()))
theorem anO:∀ s:cd,LO s=true->∃ m e,al pn m s=some e/\(wq Q2 s).run=some e:=by
 rintro ⟨⟨⟨⟩,⟨⟩,k,i,⟨⟩⟩,⟨l,o,⟨⟩⟩⟩ h
 have h':=of_decide_eq_true h
 dsimp only at h'
 obtain ⟨rfl,h0,h1,hl⟩:=h'
 obtain ⟨a,rfl⟩:∃ a,l=lst a:=⟨elemOf l,(aS hl).symm⟩
 have:=(aP (T:=pn) (λi a=>((((),(),k,(i:Int),()),(lst a,o,())):cd)) (λ_ e=>dp e)
  (λa=>(⟨(.exit 0,nw),(((),(),()),(lst a,o,()))⟩:aE)) k.toNat a (λ_ _=>True) trivial (λi a hi _=>⟨?_,trivial⟩) (λa _=> ?_)).1
 ·rw [y8] at this
  obtain ⟨m,hm⟩:=this
  exact ⟨m,_,hm,rfl⟩
 ·refine (OT.ao (decide_eq_true (by dsimp only;omega))).trans ((ah ?_).trans rfl)
  simp only [List.all_cons,List.all_nil,Bool.and_true,Bool.and_eq_true]
  exact ⟨rfl,rfl,aH (by omega)⟩
 ·exact OT.aq (decide_eq_false (by dsimp only;omega))
def rb (x:wu):Bool:=decide (0<=x.1.2.1/\x.1.2.1<=1000000)
def Zc (x:wu):OT fg.Y:=.ok ⟨pl,((dT x.1.1 x.1.2.1.toNat,()),())⟩
theorem anN:ac Tryz.prog 136 (fg.aI rb Zc):=Zb LO Q2 anO _ _ λx oy hp ho=>by
 rw [<-ho]
 clear ho
 obtain ⟨⟨a,k,⟨⟩⟩,⟨⟩⟩:=x
 have hp':0<=k/\k<=1000000:=of_decide_eq_true hp
 refine (ah ?_).trans ?_
 ·simp only [List.all_cons,List.all_nil,Bool.and_true,Bool.and_eq_true]
  exact ⟨decide_eq_true ⟨rfl,hp'.1,hp'.2,rfl⟩,rfl,rfl,rfl⟩
 ·show some (⟨pl,((elemOf (lay [0,0,0,0] (lst (dT a k.toNat)) 4 0),()),())⟩:fg.Y)=some ⟨pl,((dT a k.toNat,()),())⟩
  rw [aGQ _ _ rfl rfl]
  rfl
def tP:cn:=(fg.aI rb Zc)
theorem UA:ac Tryz.prog 136 tP:=anN
theorem Uz:aG tP:=aA
def pW:Env:=ay 136 tP F6
theorem nL:aQ Tryz.prog pW:=ag UA xn
theorem ya:ax pW:=ae Uz Ho
theorem C4:aW Tryz.prog te pW:=aJ follows ar nL ya
end Go.Proofs.YtohjofabochgfaaGreat

namespace Go.Proofs.YtohjofabochgfaaGreat
open Sx Go
def bU (k:aa):Bool:=(k.w0==0&&(k.w1==0&&(k.w2==0&&(k.w3==0&&true))))
def aIY (k:aa):Bool:=(k.w0&&&1==1)
theorem lf (k:aa):bU k=Nat.beq k.nat 0:=by
 unfold bU Sx.aa.nat
 have e:∀ x:UInt64,(x==0)=decide (x.toNat=0):=λx=>by
  by_cases h:x=0
  ·subst h;rfl
  ·have h':¬x.toNat=0:=λh'=>h (UInt64.toNat_inj.1 h')
   rw [decide_eq_false h']
   simpa using h
 rw [e,e,e,e]
 generalize k.w0.toNat=a
 generalize k.w1.toNat=b
 generalize k.w2.toNat=c
 generalize k.w3.toNat=d
 by_cases h:a=0/\b=0/\c=0/\d=0
 ·obtain ⟨rfl,rfl,rfl,rfl⟩:=h
  rfl
 ·have h1:¬(a+18446744073709551616*(b+18446744073709551616*(c+18446744073709551616*d))=0):=λh1=>h (by omega)
  have h2:Nat.beq (a+18446744073709551616*(b+18446744073709551616*(c+18446744073709551616*d))) 0=false:=by
   cases hb:Nat.beq (a+18446744073709551616*(b+18446744073709551616*(c+18446744073709551616*d))) 0
   ·rfl
   ·exact absurd (Nat.eq_of_beq_eq_true hb) h1
  rw [h2]
  by_cases ha:a=0
  ·by_cases hb:b=0
   ·by_cases hc:c=0
    ·have hd:¬d=0:=λhd=>h ⟨ha,hb,hc,hd⟩
     simp [hd]
    ·simp [hc]
   ·simp [hb]
  ·simp [ha]
theorem azR (k:aa):aIY k=Nat.beq (k.nat%2) 1:=by
 have e:(k.w0&&&1).toNat=k.w0.toNat%2:=by
  rw [UInt64.toNat_and]
  exact Nat.and_two_pow_sub_one_eq_mod k.w0.toNat 1
 have e2:k.nat%2=k.w0.toNat%2:=by
  unfold Sx.aa.nat
  rw [adM]
 rw [e2,<-e]
 unfold aIY
 by_cases h:k.w0&&&1=1
 ·rw [h];rfl
 ·have h':¬(k.w0&&&1).toNat=1:=λh'=>h (UInt64.toNat_inj.1 h')
  have h2:Nat.beq (k.w0&&&1).toNat 1=false:=by
   cases hb:Nat.beq (k.w0&&&1).toNat 1
   ·rfl
   ·exact absurd (Nat.eq_of_beq_eq_true hb) h'
  rw [h2]
  simpa using h
theorem YH (k:aa):(dp k).nat=k.nat/2:=by
 have:=jq k
 exact km (by omega)
def azE (p:Nat):Nat->aa->aa->aa->aa
 |0,o,_,_=>o
 |n+1,o,x,k=>cond (bU k) o (azE p n (cond (aIY k) (bP p o x) o) (bP p x x) (dp k))
def aBQ (p:Nat):Nat->Nat->Nat->Nat->Nat
 |0,o,_,_=>o
 |n+1,o,x,k=>cond (Nat.beq k 0) o (aBQ p n (cond (Nat.beq (k%2) 1) (o*x%p) o) (x*x%p) (k/2))
theorem asZ {p:Nat} (hp:0<p/\p<57896044618658097711785492504343953926634992332820282019728792003956564819968):∀ (n:Nat) (o x k:aa),azE p n o x k=ofN (aBQ p n o.nat x.nat k.nat)
 |0,o,x,k=>(vT o).symm
 |n+1,o,x,k=>by
  have e:∀ a b:aa,(bP p a b).nat=a.nat*b.nat%p:=λa b=>dg hp
  simp only [azE,aBQ,lf,azR]
  cases Nat.beq k.nat 0
  ·simp only [cond_false]
   rw [asZ hp n,e,YH]
   cases Nat.beq (k.nat%2) 1
   ·rfl
   ·simp only [cond_true,e]
  ·simp only [cond_true]
   exact (vT o).symm
def gO (p:Nat) (a k:aa):aa:=cond (Nat.beq p 0) ⟨0,0,0,0⟩ (ofN (aBQ p 256 1 (a.nat%p) k.nat))
theorem UK {p:Nat} (hp:0<p) (a k:aa):gO p a k=ofN (aBQ p 256 1 (a.nat%p) k.nat):=by
 unfold gO
 cases p with
 |zero=>exact absurd hp (Nat.lt_irrefl _)
 |succ p=>rfl
end Go.Proofs.YtohjofabochgfaaGreat

namespace Go.Proofs.YtohjofabochgfaaGreat
open Sx Go
set_option maxRecDepth 100000
def nx:aw:=⟨[.val false .int,.val true .elem,.val true .elem],[],true,0,false⟩
abbrev Zf:Type:=((Int)×(aa)×(aa)×Unit)×(Unit)
def LR:Shape:=⟨40,[(4,.ptr 0 0 0),(5,.ptr 1 0 0),(6,.ptr 2 0 0),(7,.ptr 3 0 0),(9,.ptr 4 0 0)],[(0,.row .u64),(1,.row .u64),(2,.row .u64),(3,.cells [.val false .u64,.val false .u64,.val false .u64,.val false .u64,.val false .int,.val false .u64,.val false .u64,.val false .u64,.val false .u64,.val false .u64,.val false .u64]),(4,.row .u64)],0,true⟩
abbrev dN:Type:=((Unit)×(Unit)×(Unit)×(Unit)×(Unit)×Unit)×((List (UInt64))×(List (UInt64))×(List (UInt64))×((UInt64)×(UInt64)×(UInt64)×(UInt64)×(Int)×(UInt64)×(UInt64)×(UInt64)×(UInt64)×(UInt64)×(UInt64)×Unit)×(List (UInt64))×Unit)
def BS:Shape:=⟨40,[(6,.ptr 0 0 0),(9,.ptr 1 0 0)],[(0,.row .u64),(1,.row .u64)],0,true⟩
abbrev po:Type:=((Unit)×(Unit)×Unit)×((List (UInt64))×(List (UInt64))×Unit)
def auA:SE->Option Shape:=fC [(0,BS)] none
def aFX (c0:List (UInt64)) (c1:List (UInt64)) (c2:List (UInt64)) (c3_0:UInt64) (c3_1:UInt64) (c3_2:UInt64) (c3_3:UInt64) (c3_4:Int) (c3_5:UInt64) (c3_6:UInt64) (c3_7:UInt64) (c3_8:UInt64) (c3_9:UInt64) (c3_10:UInt64) (c4:List (UInt64)):OT (Sum dN aE):=
 let z0:Nat:=List.length c1
 let z1:Bool:=decide (4<=z0)
 let z2:UInt64:=List.getD c1 0 0
 let z3:UInt64:=List.getD c1 1 0
 let z4:UInt64:=List.getD c1 2 0
 let z5:UInt64:=List.getD c1 3 0
 let z6:Nat:=List.length c4
 let z7:Nat:=List.length c0
 let z8:Bool:=decide (4<=z7)
 let z9:aa:= {w0:=c3_0,w1:=c3_1,w2:=c3_2,w3:=c3_3}
 let z10:aa×Int×UInt64×UInt64×aa:=(z9,c3_4,c3_5,c3_6,{w0:=c3_7,w1:=c3_8,w2:=c3_9,w3:=c3_10})
 let z11:aa:= {w0:=List.getD c4 0 0,w1:=List.getD c4 1 0,w2:=List.getD c4 2 0,w3:=List.getD c4 3 0}
 let z12:aa:= {w0:=List.getD c0 0 0,w1:=List.getD c0 1 0,w2:=List.getD c0 2 0,w3:=List.getD c0 3 0}
 let z13:aa×PUnit:=(z12,())
 let z14:Bool:=fZ ((z10,z12,z13),())
 let z15:Bool:=decide ((4/1:Nat)+0<=z7)
 let z16:Bool:=decide ((4/1:Nat)+0<=z0)
 let z17:Nat:=aa.nat z9
 let z18:aa:=bP z17 z12 z12
 let z19:List UInt64:=List.set (List.set (List.set (List.set c0 0 z18.w0) 1 z18.w1) 2 z18.w2) 3 z18.w3
 let z20:aa:=dp {w0:=z2,w1:=z3,w2:=z4,w3:=z5}
 let z21:List UInt64:=List.set (List.set (List.set (List.set c1 0 z20.w0) 1 z20.w1) 2 z20.w2) 3 z20.w3
 let z22:aa:=bP z17 z11 z12
 (gd [z1] (.br (!(z2==(0:UInt64)&&(z3==(0:UInt64)&&(z4==(0:UInt64)&&(z5==(0:UInt64)&&true)))))
 (gd [decide (0<z0)] (.br (z2&&&(1:UInt64)==(1:UInt64))
  (gd [decide (4<=z6),z8,fZ ((z10,z11,z13),()),decide ((4/1:Nat)+0<=z6),z8,z8,z14,z15,z1,z16] (.ok (.inl (((),((),((),((),((),()))))),(z19,(z21,(c2,((c3_0,(c3_1,(c3_2,(c3_3,(c3_4,(c3_5,(c3_6,(c3_7,(c3_8,(c3_9,(c3_10,()))))))))))),(List.set (List.set (List.set (List.set c4 0 z22.w0) 1 z22.w1) 2 z22.w2) 3 z22.w3,())))))))))
  (gd [z8,z8,z14,z15,z1,z16] (.ok (.inl (((),((),((),((),((),()))))),(z19,(z21,(c2,((c3_0,(c3_1,(c3_2,(c3_3,(c3_4,(c3_5,(c3_6,(c3_7,(c3_8,(c3_9,(c3_10,()))))))))))),(c4,())))))))))))
 (.ok (.inr ⟨(.exit 0,BS),(((),((),())),(c2,(c4,())))⟩))))
def LS (s:dN):OT (Sum dN aE):=aFX (s.2.1) (s.2.2.1) (s.2.2.2.1) (s.2.2.2.2.1.1) (s.2.2.2.2.1.2.1) (s.2.2.2.2.1.2.2.1) (s.2.2.2.2.1.2.2.2.1) (s.2.2.2.2.1.2.2.2.2.1) (s.2.2.2.2.1.2.2.2.2.2.1) (s.2.2.2.2.1.2.2.2.2.2.2.1) (s.2.2.2.2.1.2.2.2.2.2.2.2.1) (s.2.2.2.2.1.2.2.2.2.2.2.2.2.1) (s.2.2.2.2.1.2.2.2.2.2.2.2.2.2.1) (s.2.2.2.2.1.2.2.2.2.2.2.2.2.2.2.1) (s.2.2.2.2.2.1)
theorem aFV (s:dN) (Q:Sum dN aE->Prop):wps te pW av 1000 (aU (aj Tryz.f137) 0) (LR.inj s) (bY LR auA (Q:Sum LR.T aE->Prop))=(LS s).wpR Q:=by kernel_rfl
def UD (g0_0:dN->po) (s:dN):OT aE:=(.ok ⟨(.exit 0,BS),g0_0 s⟩)
def E6:az:=⟨[.val true .elem],[],false⟩
def ajX:SV->Option az:=λ_=>some E6
def auF (ok0:dN->Bool) (g0_0:dN->po) (a0:Int) (a1:aa) (a2:aa):OT nx.Y:=
 let z0:aa×Int×UInt64×UInt64×aa:=aY (Int.toNat a0)
 let z1:=z0.fst
 let z2:aa:=ofN (aa.nat a1%aa.nat z1)
 let z3:=z0.snd
 let z4:=z3.snd
 let z5:=z4.snd
 let z6:=z5.snd
 let z7:(PUnit×PUnit×PUnit×PUnit×PUnit×PUnit)×List UInt64×List UInt64×List UInt64×(UInt64×UInt64×UInt64×UInt64×Int×UInt64×UInt64×UInt64×UInt64×UInt64×UInt64×PUnit)×List UInt64×PUnit:=(((),(),(),(),(),()),[z2.w0,z2.w1,z2.w2,z2.w3],[a2.w0,a2.w1,a2.w2,a2.w3],[(0:UInt64),(0:UInt64),(0:UInt64),(0:UInt64)],(z1.w0,z1.w1,z1.w2,z1.w3,z3.fst,z4.fst,z5.fst,z6.w0,z6.w1,z6.w2,z6.w3,()),[(1:UInt64),(0:UInt64),(0:UInt64),(0:UInt64)],())
 let z8:=(g0_0 z7).snd
 let z9:=z8.snd.fst
 let z10:=z8.fst
 let z11:List UInt64:=lay z10 z9 4 (0:UInt64)
 (.br (ap a0)
 (gd [gx ((z0,a1,()),()),ok0 z7,decide (4<=List.length z9),decide ((4/1:Nat)+0<=List.length z10),decide (4<=List.length z11)] (.ok ⟨E6,(({w0:=List.getD z11 0 0,w1:=List.getD z11 1 0,w2:=List.getD z11 2 0,w3:=List.getD z11 3 0},()),())⟩))
 (.ok ⟨E6,(({w0:=0,w1:=0,w2:=0,w3:=0},()),())⟩))
theorem aIn (ok0:dN->Bool) (g0_0:dN->po) (x:Zf) (Q:nx.Y->Prop):wpf te pW (aO 0 (cl LR 0 ok0 (UD g0_0)) av) 1000 Tryz.f137 (nx.inp.inj x).tm (nx.inp.inj x).hp (fnK nx ajX Q) (λ_ _=>False)=(auF ok0 g0_0 (x.1.1) (x.1.2.1) (x.1.2.2.1)).wpR Q:=by kernel_rfl
theorem auC (ok0:dN->Bool) (g0_0:dN->po) (h0:∀ s:dN,ok0 s=true->∃ m e,al (LS) m s=some e/\(UD g0_0 s).run=some e) (pre:Zf->Bool) (F:Zf->OT nx.Y) (hF:∀ (x:Zf) oy,pre x=true->(F x).run=some oy->(auF ok0 g0_0 (x.1.1) (x.1.2.1) (x.1.2.2.1)).run=some oy):ac Tryz.prog 137 (nx.aI pre F):=
 aD ar nL C4 (f:=137) (fn:=Tryz.f137) (c:=aj Tryz.f137) (by kernel_rfl) (by kernel_rfl) (by kernel_rfl) (S:=nx) (k:=0) (by kernel_rfl) (λR hR=>(aB (c:=(aj Tryz.f137)) (by kernel_rfl) (id:=0) (by kernel_rfl) (aR ar nL C4 (sh:=LR) hR (xs:=auA) (aC (by kernel_rfl) (by kernel_rfl) hR) aL af (n:=1000) (T:=LS) (λs Q=>aFV s Q) (ok:=ok0) (f:=UD g0_0) h0) af)) (n:=1000) (sel:=ajX) (λv o h=>by cases h;rfl) (pre:=pre) (F:=F) (T:=λx=>auF ok0 g0_0 (x.1.1) (x.1.2.1) (x.1.2.2.1)) (λx Q=>aIn ok0 g0_0 x Q) hF
theorem auD {x0 x1 x2 x3 x5 x6 x7 x8 x9 x10:UInt64} {x4:Int} {c2:List UInt64} (hn:kl (⟨x0,x1,x2,x3⟩,x4,x5,x6,⟨x7,x8,x9,x10⟩)=true):∀ (n:Nat) (o x k:aa),k.nat<2^n->
 ∃ m,al LS m (((),(),(),(),(),()),(lst x,lst k,c2,(x0,x1,x2,x3,x4,x5,x6,x7,x8,x9,x10,()),lst o,()))=some ⟨(.exit 0,BS),(((),(),()),(c2,lst (azE (aa.mk x0 x1 x2 x3).nat n o x k),()))⟩:=by
 intro n
 induction n with
 |zero=>
  intro o x k hk
  have hz:(!bU k)=false:=by
   rw [lf,show k.nat=0 by omega]
   rfl
  exact ⟨1,aM ((ah rfl).trans (OT.aq hz))⟩
 |succ n ih=>
  intro o x k hk
  cases hz:bU k
  ·have hk2:(dp k).nat<2^n:=by
    rw [YH]
    rw [Nat.pow_succ] at hk
    omega
   have hz':(!bU k)=true:=by rw [hz];rfl
   cases ho:aIY k
   ·obtain ⟨m,hm⟩:=ih o (bP (aa.mk x0 x1 x2 x3).nat x x) (dp k) hk2
    simp only [azE,hz,ho,cond_false]
    refine ⟨m+1,aF ?_ hm⟩
    refine (ah rfl).trans ((OT.ao hz').trans ((ah rfl).trans ((OT.aq ho).trans ((ah ?_).trans rfl))))
    simp only [List.all_cons,List.all_nil,Bool.and_true,Bool.and_eq_true]
    exact ⟨rfl,rfl,hn,rfl,rfl,rfl⟩
   ·obtain ⟨m,hm⟩:=ih (bP (aa.mk x0 x1 x2 x3).nat o x) (bP (aa.mk x0 x1 x2 x3).nat x x) (dp k) hk2
    simp only [azE,hz,ho,cond_false,cond_true]
    refine ⟨m+1,aF ?_ hm⟩
    refine (ah rfl).trans ((OT.ao hz').trans ((ah rfl).trans ((OT.ao ho).trans ((ah ?_).trans rfl))))
    simp only [List.all_cons,List.all_nil,Bool.and_true,Bool.and_eq_true]
    exact ⟨rfl,rfl,hn,rfl,rfl,rfl,hn,rfl,rfl,rfl⟩
  ·simp only [azE,hz,cond_true]
   have hz':(!bU k)=false:=by rw [hz];rfl
   exact ⟨1,aM ((ah rfl).trans (OT.aq hz'))⟩
def aJq (s:dN):O1:=(⟨s.2.2.2.2.1.1,s.2.2.2.2.1.2.1,s.2.2.2.2.1.2.2.1,s.2.2.2.2.1.2.2.2.1⟩,s.2.2.2.2.1.2.2.2.2.1,s.2.2.2.2.1.2.2.2.2.2.1,s.2.2.2.2.1.2.2.2.2.2.2.1,⟨s.2.2.2.2.1.2.2.2.2.2.2.2.1,s.2.2.2.2.1.2.2.2.2.2.2.2.2.1,s.2.2.2.2.1.2.2.2.2.2.2.2.2.2.1,s.2.2.2.2.1.2.2.2.2.2.2.2.2.2.2.1⟩)
def UC (s:dN):Bool:=kl (aJq s)&&decide (s.2.1.length=4/\s.2.2.1.length=4/\s.2.2.2.2.2.1.length=4)
def auE (s:dN):po:=(((),(),()),(s.2.2.2.1,lst (azE (aJq s).1.nat 256 (elemOf s.2.2.2.2.2.1) (elemOf s.2.1) (elemOf s.2.2.1)),()))
theorem aFW:∀ s:dN,UC s=true->∃ m e,al LS m s=some e/\(UD auE s).run=some e:=by
 rintro ⟨⟨⟨⟩,⟨⟩,⟨⟩,⟨⟩,⟨⟩,⟨⟩⟩,⟨c0,c1,c2,⟨x0,x1,x2,x3,x4,x5,x6,x7,x8,x9,x10,⟨⟩⟩,c4,⟨⟩⟩⟩ h
 simp only [UC,Bool.and_eq_true,decide_eq_true_eq,aJq] at h
 obtain ⟨hn,h0,h1,h4⟩:=h
 obtain ⟨x,rfl⟩:∃ a,c0=lst a:=⟨elemOf c0,(aS h0).symm⟩
 obtain ⟨k,rfl⟩:∃ a,c1=lst a:=⟨elemOf c1,(aS h1).symm⟩
 obtain ⟨o,rfl⟩:∃ a,c4=lst a:=⟨elemOf c4,(aS h4).symm⟩
 obtain ⟨m,hm⟩:=auD (c2:=c2) hn 256 o x k (jq k)
 exact ⟨m,_,hm,rfl⟩
def ajY (_:Zf):Bool:=true
def aCb (x:Zf):OT nx.Y:=.br (ap x.1.1) (.ok ⟨E6,((gO (pS x.1.1) x.1.2.1 x.1.2.2.1,()),())⟩) (.ok ⟨E6,((⟨0,0,0,0⟩,()),())⟩)
theorem aAx {p:Nat} (hp:0<p/\p<57896044618658097711785492504343953926634992332820282019728792003956564819968) (a k:aa):elemOf (lay [0,0,0,0] (lst (azE p 256 ⟨1,0,0,0⟩ (ofN (a.nat%p)) k)) 4 0)=gO p a k:=by
 rw [aGQ _ _ rfl rfl,an9,asZ hp,dg hp,UK hp.1]
 rfl
theorem auB:ac Tryz.prog 137 (nx.aI ajY aCb):=auC UC auE aFW _ _ λx oy hp ho=>by
 rw [<-ho]
 clear ho
 obtain ⟨⟨s,a,k,⟨⟩⟩,⟨⟩⟩:=x
 cases hs:ap s
 ·exact (OT.aq hs).trans (OT.aq (b:=ap s) hs).symm
 ·have hn:=iP hs
  have hfin:=aAx (oW hs) a k
  have hn2:kl (aY s.toNat)=true:=hn
  refine (OT.ao hs).trans (Eq.trans ?_ (OT.ao (b:=ap s) hs).symm)
  simp only [<-hfin]
  refine (ah ?_).trans rfl
  simp only [List.all_cons,List.all_nil,Bool.and_true,Bool.and_eq_true]
  refine ⟨hn,?_,rfl,rfl,rfl⟩
  show (kl _&&decide _)=true
  rw [Bool.and_eq_true]
  exact ⟨hn,decide_eq_true ⟨rfl,rfl,rfl⟩⟩
def LQ:cn:=(nx.aI ajY aCb)
theorem anS:ac Tryz.prog 137 LQ:=auB
theorem anR:aG LQ:=aA
def aaU:Env:=ay 137 LQ pW
theorem NM:aQ Tryz.prog aaU:=ag anS nL
theorem NN:ax aaU:=ae anR ya
theorem ao7:aW Tryz.prog te aaU:=aJ follows ar NM NN
def tO:aw:=⟨[.val false .int,.val true .elem],[],true,0,false⟩
abbrev anL:Type:=((Int)×(aa)×Unit)×(Unit)
def tN:az:=⟨[.val true .elem,.val false .int],[],false⟩
def ajV:SV->Option az:=λ_=>some tN
def auv (a0:Int) (a1:aa):OT tO.Y:=
 let z0:Bool:=ap a0
 let z1:aa×Int×UInt64×UInt64×aa:=aY (Int.toNat a0)
 let z2:=z1.fst
 let z3:aa:=ofN (aa.nat a1%aa.nat z2)
 let z4:aa:= {w0:=0,w1:=0,w2:=0,w3:=0}
 (.br (z0)
 (gd [gx ((z1,a1,()),())] (.br (z3.w0==(0:UInt64)&&(z3.w1==(0:UInt64)&&(z3.w2==(0:UInt64)&&(z3.w3==(0:UInt64)&&true))))
  (.ok ⟨tN,((z4,((10:Int),())),())⟩)
  (.br (z0)
   (.ok ⟨tN,((gO (pS a0) a1 (eu z2 {w0:=2,w1:=0,w2:=0,w3:=0}).fst,((0:Int),())),())⟩)
   (.ok ⟨tN,((z4,((0:Int),())),())⟩))))
 (.ok ⟨tN,((z4,((20:Int),())),())⟩))
theorem aIm (x:anL) (Q:tO.Y->Prop):wpf te aaU av 1000 Tryz.f121 (tO.inp.inj x).tm (tO.inp.inj x).hp (fnK tO ajV Q) (λ_ _=>False)=(auv (x.1.1) (x.1.2.1)).wpR Q:=by kernel_rfl
theorem auu (pre:anL->Bool) (F:anL->OT tO.Y) (hF:∀ (x:anL) oy,pre x=true->(F x).run=some oy->(auv (x.1.1) (x.1.2.1)).run=some oy):ac Tryz.prog 121 (tO.aI pre F):=
 aD ar NM ao7 (f:=121) (fn:=Tryz.f121) (c:=aj Tryz.f121) (by kernel_rfl) (by kernel_rfl) (by kernel_rfl) (S:=tO) (k:=0) (by kernel_rfl) (λR hR=>af) (n:=1000) (sel:=ajV) (λv o h=>by cases h;rfl) (pre:=pre) (F:=F) (T:=λx=>auv (x.1.1) (x.1.2.1)) (λx Q=>aIm x Q) hF
def aH2 (p:Nat) (a:aa):aa:=ofN (aBQ p 256 1 (a.nat%p) (p-2))
theorem aBS {s:Int} (h:ap s=true):2<=pS s:=by
 rcases cv h with rfl|rfl|rfl|rfl<;>decide+kernel
theorem aFw {s:Int} (h:ap s=true) (a:aa):gO (pS s) a (eu (aY s.toNat).1 ⟨2,0,0,0⟩).1=aH2 (pS s) a:=by
 rw [UK (oW h).1]
 unfold aH2
 have h2:2<=(aY s.toNat).1.nat:=aBS h
 rw [mP (show (aa.mk 2 0 0 0).nat<=_ from h2)]
 rfl
theorem awA {p:Nat} (hp:0<p/\p<57896044618658097711785492504343953926634992332820282019728792003956564819968) (n:Nat):bU (ofN (n%p))=Nat.beq (n%p) 0:=by
 rw [lf,dg hp]
def ajW (_:anL):Bool:=true
def aCa (x:anL):OT tO.Y:=.br (ap x.1.1) (.br (Nat.beq (x.1.2.1.nat%pS x.1.1) 0) (.ok ⟨tN,((⟨0,0,0,0⟩,((10:Int),())),())⟩) (.ok ⟨tN,((aH2 (pS x.1.1) x.1.2.1,((0:Int),())),())⟩))
 (.ok ⟨tN,((⟨0,0,0,0⟩,((20:Int),())),())⟩)
theorem aFT:ac Tryz.prog 121 (tO.aI ajW aCa):=auu _ _ λx oy hp ho=>by
 rw [<-ho]
 clear ho
 obtain ⟨⟨s,a,⟨⟩⟩,⟨⟩⟩:=x
 cases hs:ap s
 ·exact (OT.aq hs).trans (OT.aq (b:=ap s) hs).symm
 ·have hz:bU (ofN (a.nat%pS s))=Nat.beq (a.nat%pS s) 0:=awA (oW hs) _
  refine (OT.ao hs).trans (Eq.trans ((ah ?_).trans ?_) (OT.ao (b:=ap s) hs).symm)
  ·simp only [List.all_cons,List.all_nil,Bool.and_true]
   exact iP hs
  ·cases hb:Nat.beq (a.nat%pS s) 0
   ·rw [hb] at hz
    refine (OT.aq hz).trans ((OT.ao hs).trans (Eq.trans ?_ (OT.aq rfl).symm))
    simp only [aFw hs]
   ·rw [hb] at hz
    exact (OT.ao hz).trans (OT.ao rfl).symm
def LL:cn:=(tO.aI ajW aCa)
theorem anK:ac Tryz.prog 121 LL:=aFT
theorem anJ:aG LL:=aA
def aaT:Env:=ay 121 LL aaU
theorem NJ:aQ Tryz.prog aaT:=ag anK NM
theorem NK:ax aaT:=ae anJ NN
theorem ao6:aW Tryz.prog te aaT:=aJ follows ar NJ NK
def jg:aw:=⟨[.val false .int],[],true,0,false⟩
abbrev Fh:Type:=((Int)×Unit)×(Unit)
def jf:az:=⟨[.val true .elem,.val false .bool],[],false⟩
def Rk:SV->Option az:=λ_=>some jf
def U2 (a0:Int):OT jg.Y:=
 let z0:aa:= {w0:=5,w1:=0,w2:=0,w3:=0}
 let z1:aa:= {w0:=0,w1:=0,w2:=0,w3:=0}
 (.br (a0==(0:Int))
 (.ok ⟨jf,(({w0:=23,w1:=0,w2:=0,w3:=0},(true,())),())⟩)
 (.br (a0==(1:Int))
  (.ok ⟨jf,(({w0:=21,w1:=0,w2:=0,w3:=0},(true,())),())⟩)
  (.br (a0==(2:Int))
   (.br (a0==(2:Int))
    (.ok ⟨jf,((z0,(true,())),())⟩)
    (.ok ⟨jf,((z1,(false,())),())⟩))
   (.br (a0==(3:Int))
    (.ok ⟨jf,((z0,(true,())),())⟩)
    (.ok ⟨jf,((z1,(false,())),())⟩)))))
theorem aAR (x:Fh) (Q:jg.Y->Prop):wpf te aaT av 1000 Tryz.f85 (jg.inp.inj x).tm (jg.inp.inj x).hp (fnK jg Rk Q) (λ_ _=>False)=(U2 (x.1.1)).wpR Q:=by kernel_rfl
theorem aeJ (pre:Fh->Bool) (F:Fh->OT jg.Y) (hF:∀ (x:Fh) oy,pre x=true->(F x).run=some oy->(U2 (x.1.1)).run=some oy):ac Tryz.prog 85 (jg.aI pre F):=
 aD ar NJ ao6 (f:=85) (fn:=Tryz.f85) (c:=aj Tryz.f85) (by kernel_rfl) (by kernel_rfl) (by kernel_rfl) (S:=jg) (k:=0) (by kernel_rfl) (λR hR=>af) (n:=1000) (sel:=Rk) (λv o h=>by cases h;rfl) (pre:=pre) (F:=F) (T:=λx=>U2 (x.1.1)) (λx Q=>aAR x Q) hF
def bOf:Nat->aa
 |0=>⟨23,0,0,0⟩
 |1=>⟨21,0,0,0⟩
 |_=>⟨5,0,0,0⟩
abbrev bS (s:Int):aa:=bOf s.toNat
def Rl (_:Fh):Bool:=true
def ako (x:Fh):OT jg.Y:=.br (ap x.1.1) (.ok ⟨jf,((bS x.1.1,(true,())),())⟩) (.ok ⟨jf,((⟨0,0,0,0⟩,(false,())),())⟩)
theorem avv:ac Tryz.prog 85 (jg.aI Rl ako):=aeJ _ _ λx oy _ ho=>by
 rw [<-ho]
 clear ho
 obtain ⟨⟨s,⟨⟩⟩,⟨⟩⟩:=x
 cases hs:ap s
 ·obtain ⟨h0,h1,h2,h3⟩:=u5 hs
  exact (OT.aq h0).trans ((OT.aq h1).trans ((OT.aq h2).trans ((OT.aq h3).trans (OT.aq (b:=ap s) hs).symm)))
 ·rcases cv hs with h|h|h|h
  all_goals
   have h:s=_:=h
   subst h
   rfl
def zm:cn:=(jg.aI Rl ako)
theorem ZO:ac Tryz.prog 85 zm:=avv
theorem ZN:aG zm:=aA
def Df:Env:=ay 85 zm aaT
theorem zM:aQ Tryz.prog Df:=ag ZO NJ
theorem De:ax Df:=ae ZN NK
theorem aa3:aW Tryz.prog te Df:=aJ follows ar zM De
def ue:aw:=⟨[],[],true,0,false⟩
abbrev aoq:Type:=(Unit)×(Unit)
def aeD:az:=⟨[.val true (.prod .elem (.prod .elem .bool))],[],false⟩
def akl:SV->Option az:=λ_=>some aeD
def avo:OT ue.Y:=
 let z0:aa:= {w0:=0,w1:=0,w2:=0,w3:=0}
 (.ok ⟨aeD,(((z0,z0,true),()),())⟩)
theorem aIA (x:aoq) (Q:ue.Y->Prop):wpf te Df av 1000 Tryz.f79 (ue.inp.inj x).tm (ue.inp.inj x).hp (fnK ue akl Q) (λ_ _=>False)=(avo).wpR Q:=by kernel_rfl
theorem avn (pre:aoq->Bool) (F:aoq->OT ue.Y) (hF:∀ (x:aoq) oy,pre x=true->(F x).run=some oy->(avo).run=some oy):ac Tryz.prog 79 (ue.aI pre F):=
 aD ar zM aa3 (f:=79) (fn:=Tryz.f79) (c:=aj Tryz.f79) (by kernel_rfl) (by kernel_rfl) (by kernel_rfl) (S:=ue) (k:=0) (by kernel_rfl) (λR hR=>af) (n:=1000) (sel:=akl) (λv o h=>by cases h;rfl) (pre:=pre) (F:=F) (T:=λx=>avo) (λx Q=>aIA x Q) hF
def cF:aa×(aa×Bool):=(⟨0,0,0,0⟩,⟨0,0,0,0⟩,true)
def akm (_:aoq):Bool:=true
def aCk (_:aoq):OT ue.Y:=.ok ⟨aeD,((cF,()),())⟩
theorem aGo:ac Tryz.prog 79 (ue.aI akm aCk):=avn _ _ λx oy _ ho=>ho
def Mh:cn:=(ue.aI akm aCk)
theorem aop:ac Tryz.prog 79 Mh:=aGo
theorem aoo:aG Mh:=aA
def aa2:Env:=ay 79 Mh Df
theorem NY:aQ Tryz.prog aa2:=ag aop zM
theorem NZ:ax aa2:=ae aoo De
theorem apb:aW Tryz.prog te aa2:=aJ follows ar NY NZ
def mr:aw:=⟨[.val false .int,.val true .elem,.val true .elem],[],true,0,false⟩
abbrev Rj:Type:=((Int)×(aa)×(aa)×Unit)×(Unit)
def jQ:az:=⟨[.val true .elem],[],false⟩
def ZM:SV->Option az:=λ_=>some jQ
def aeI (a0:Int) (a1:aa) (a2:aa):OT mr.Y:=
 let z0:Bool:=ap a0
 let z1:Nat:=pS a0
 let z2:aa:= {w0:=0,w1:=0,w2:=0,w3:=0}
 let z3:aa:=FC z1 z2 a2
 (.br (z0)
 (.br (z0)
  (.br (z0)
   (.ok ⟨jQ,((FC z1 (bP z1 (bP z1 a1 a1) a1) a2,()),())⟩)
   (.ok ⟨jQ,((z2,()),())⟩))
  (.br (z0)
   (.ok ⟨jQ,((z3,()),())⟩)
   (.ok ⟨jQ,((z2,()),())⟩)))
 (.br (z0)
  (.br (z0)
   (.ok ⟨jQ,((FC z1 (bP z1 z2 a1) a2,()),())⟩)
   (.ok ⟨jQ,((z2,()),())⟩))
  (.br (z0)
   (.ok ⟨jQ,((z3,()),())⟩)
   (.ok ⟨jQ,((z2,()),())⟩))))
theorem aGp (x:Rj) (Q:mr.Y->Prop):wpf te aa2 av 1000 Tryz.f87 (mr.inp.inj x).tm (mr.inp.inj x).hp (fnK mr ZM Q) (λ_ _=>False)=(aeI (x.1.1) (x.1.2.1) (x.1.2.2.1)).wpR Q:=by kernel_rfl
theorem aot (pre:Rj->Bool) (F:Rj->OT mr.Y) (hF:∀ (x:Rj) oy,pre x=true->(F x).run=some oy->(aeI (x.1.1) (x.1.2.1) (x.1.2.2.1)).run=some oy):ac Tryz.prog 87 (mr.aI pre F):=
 aD ar NY apb (f:=87) (fn:=Tryz.f87) (c:=aj Tryz.f87) (by kernel_rfl) (by kernel_rfl) (by kernel_rfl) (S:=mr) (k:=0) (by kernel_rfl) (λR hR=>af) (n:=1000) (sel:=ZM) (λv o h=>by cases h;rfl) (pre:=pre) (F:=F) (T:=λx=>aeI (x.1.1) (x.1.2.1) (x.1.2.2.1)) (λx Q=>aGp x Q) hF
def xt (p:Nat) (x b:aa):aa:=FC p (bP p (bP p x x) x) b
def ui (x:Rj):Bool:=ap x.1.1
def avu (x:Rj):OT mr.Y:=.ok ⟨jQ,((xt (pS x.1.1) x.1.2.1 x.1.2.2.1,()),())⟩
theorem aAQ:ac Tryz.prog 87 (mr.aI ui avu):=aot _ _ λx oy hp ho=>by
 rw [<-ho]
 clear ho
 obtain ⟨⟨s,a,b,⟨⟩⟩,⟨⟩⟩:=x
 have hs:ap s=true:=hp
 exact (OT.ao hs).trans ((OT.ao hs).trans ((OT.ao hs).trans rfl))
def Fg:cn:=(mr.aI ui avu)
theorem aeH:ac Tryz.prog 87 Fg:=aAQ
theorem aeG:aG Fg:=aA
def N3:Env:=ay 87 Fg aa2
theorem Ga:aQ Tryz.prog N3:=ag aeH NY
theorem Ht:ax N3:=ae aeG NZ
theorem afK:aW Tryz.prog te N3:=aJ follows ar Ga Ht
def HI:aw:=⟨[.val false .int,.val true (.prod .elem (.prod .elem .bool))],[],true,0,false⟩
abbrev aGY:Type:=((Int)×((aa×(aa×Bool)))×Unit)×(Unit)
def xI:az:=⟨[.val false .bool],[],false⟩
def avd:SV->Option az:=λ_=>some xI
def aGi (a0:Int) (a1:(aa×(aa×Bool))):OT HI.Y:=
 let z0:Bool:=ap a0
 let z1:Nat:=aa.nat (aY (Int.toNat a0)).fst
 let z2:aa:=bS a0
 let z3:Bool:=ui ((a0,a1.fst,z2,()),())
 let z4:Nat:=pS a0
 let z5:aa:=bP z4 a1.snd.fst a1.snd.fst
 let z6:aa:=xt z4 a1.fst z2
 let z7:=z6.w0
 let z8:=z6.w1
 let z9:=z6.w2
 let z10:=z6.w3
 (.br (z0)
 (.br (a1.snd.snd)
  (.ok ⟨xI,((a1.fst.w0==(0:UInt64)&&(a1.fst.w1==(0:UInt64)&&(a1.fst.w2==(0:UInt64)&&(a1.fst.w3==(0:UInt64)&&true)))&&(a1.snd.fst.w0==(0:UInt64)&&(a1.snd.fst.w1==(0:UInt64)&&(a1.snd.fst.w2==(0:UInt64)&&(a1.snd.fst.w3==(0:UInt64)&&true)))&&(a1.snd.snd==true&&true)),()),())⟩)
  (.br (z0)
   (.br (Nat.blt (aa.nat a1.fst) z1)
    (.br (Nat.blt (aa.nat a1.snd.fst) z1)
     (.br (z0)
      (gd [z3] (.ok ⟨xI,((z5.w0==z7&&(z5.w1==z8&&(z5.w2==z9&&(z5.w3==z10&&true))),()),())⟩))
      (gd [z3] (.ok ⟨xI,(((0:UInt64)==z7&&((0:UInt64)==z8&&((0:UInt64)==z9&&((0:UInt64)==z10&&true))),()),())⟩)))
     (.ok ⟨xI,((false,()),())⟩))
    (.ok ⟨xI,((false,()),())⟩))
   (.ok ⟨xI,((false,()),())⟩)))
 (.ok ⟨xI,((false,()),())⟩))
theorem aJp (x:aGY) (Q:HI.Y->Prop):wpf te N3 av 1000 Tryz.f47 (HI.inp.inj x).tm (HI.inp.inj x).hp (fnK HI avd Q) (λ_ _=>False)=(aGi (x.1.1) (x.1.2.1)).wpR Q:=by kernel_rfl
theorem aAJ (pre:aGY->Bool) (F:aGY->OT HI.Y) (hF:∀ (x:aGY) oy,pre x=true->(F x).run=some oy->(aGi (x.1.1) (x.1.2.1)).run=some oy):ac Tryz.prog 47 (HI.aI pre F):=
 aD ar Ga afK (f:=47) (fn:=Tryz.f47) (c:=aj Tryz.f47) (by kernel_rfl) (by kernel_rfl) (by kernel_rfl) (S:=HI) (k:=0) (by kernel_rfl) (λR hR=>af) (n:=1000) (sel:=avd) (λv o h=>by cases h;rfl) (pre:=pre) (F:=F) (T:=λx=>aGi (x.1.1) (x.1.2.1)) (λx Q=>aJp x Q) hF
def eqE (a b:aa):Bool:=(a.w0==b.w0&&(a.w1==b.w1&&(a.w2==b.w2&&(a.w3==b.w3&&true))))
theorem zg {a b:aa}:eqE a b=true ↔ a=b:=by
 obtain ⟨a0,a1,a2,a3⟩:=a
 obtain ⟨b0,b1,b2,b3⟩:=b
 simp [eqE]
theorem aj8 (a:aa):eqE a a=true:=zg.2 rfl
theorem auX (a b:aa):eqE a b=Nat.beq a.nat b.nat:=by
 cases h:eqE a b
 ·cases hb:Nat.beq a.nat b.nat
  ·rfl
  ·rw [zg.2 (qM (Nat.eq_of_beq_eq_true hb))] at h
   cases h
 ·rw [zg.1 h]
  exact (Nat.beq_refl _).symm
abbrev Pt:Type:=aa×(aa×Bool)
def onB (c:Int) (P:Pt):Bool:=cond (ap c) (cond P.2.2 (bU P.1&&(bU P.2.1&&(P.2.2==true&&true)))
 (cond (Nat.blt P.1.nat (pS c)) (cond (Nat.blt P.2.1.nat (pS c)) (eqE (bP (pS c) P.2.1 P.2.1) (xt (pS c) P.1 (bS c))) false) false)) false
def ave (_:aGY):Bool:=true
def aIx (x:aGY):OT HI.Y:=.ok ⟨xI,((onB x.1.1 x.1.2.1,()),())⟩
theorem aIw:ac Tryz.prog 47 (HI.aI ave aIx):=aAJ _ _ λx oy _ ho=>by
 rw [<-ho]
 clear ho
 obtain ⟨⟨c,⟨X,Y,i⟩,⟨⟩⟩,⟨⟩⟩:=x
 show _=(OT.ok ⟨xI,((onB c (X,Y,i),()),())⟩:OT HI.Y).run
 unfold onB
 cases hs:ap c
 ·exact OT.aq hs
 ·refine (OT.ao hs).trans ?_
  cases i
  ·refine (OT.aq rfl).trans ((OT.ao hs).trans ?_)
   cases hx:Nat.blt X.nat (pS c)
   ·exact OT.aq hx
   ·refine (OT.ao hx).trans ?_
    cases hy:Nat.blt Y.nat (pS c)
    ·exact OT.aq hy
    ·refine (OT.ao hy).trans ((OT.ao hs).trans ((ah ?_).trans rfl))
     simp only [List.all_cons,List.all_nil,Bool.and_true]
     exact hs
  ·exact OT.ao rfl
theorem TK {c:Int} {P:Pt} (h:onB c P=true):ap c=true:=by
 unfold onB at h
 cases hs:ap c
 ·rw [hs] at h;cases h
 ·rfl
def UR:cn:=(HI.aI ave aIx)
theorem avf:ac Tryz.prog 47 UR:=aIw
theorem avc:aG UR:=aA
def awv:Env:=ay 47 UR N3
theorem VN:aQ Tryz.prog awv:=ag avf Ga
theorem RY:ax awv:=ae avc Ht
theorem awu:aW Tryz.prog te awv:=aJ follows ar VN RY
def jd:aw:=⟨[.val true (.prod .elem (.prod .elem .elem))],[],true,0,false⟩
abbrev Ff:Type:=(((aa×(aa×aa)))×Unit)×(Unit)
def Mg:az:=⟨[.val false .bool],[],false⟩
def Re:SV->Option az:=λ_=>some Mg
def UW (a0:(aa×(aa×aa))):OT jd.Y:=
 (.ok ⟨Mg,((a0.snd.snd.w0==(0:UInt64)&&(a0.snd.snd.w1==(0:UInt64)&&(a0.snd.snd.w2==(0:UInt64)&&(a0.snd.snd.w3==(0:UInt64)&&true))),()),())⟩)
theorem aAP (x:Ff) (Q:jd.Y->Prop):wpf te awv av 1000 Tryz.f120 (jd.inp.inj x).tm (jd.inp.inj x).hp (fnK jd Re Q) (λ_ _=>False)=(UW (x.1.1)).wpR Q:=by kernel_rfl
theorem aeC (pre:Ff->Bool) (F:Ff->OT jd.Y) (hF:∀ (x:Ff) oy,pre x=true->(F x).run=some oy->(UW (x.1.1)).run=some oy):ac Tryz.prog 120 (jd.aI pre F):=
 aD ar VN awu (f:=120) (fn:=Tryz.f120) (c:=aj Tryz.f120) (by kernel_rfl) (by kernel_rfl) (by kernel_rfl) (S:=jd) (k:=0) (by kernel_rfl) (λR hR=>af) (n:=1000) (sel:=Re) (λv o h=>by cases h;rfl) (pre:=pre) (F:=F) (T:=λx=>UW (x.1.1)) (λx Q=>aAP x Q) hF
abbrev RI:Type:=aa×(aa×aa)
def Rf (_:Ff):Bool:=true
def akk (x:Ff):OT jd.Y:=.ok ⟨Mg,((bU x.1.1.2.2,()),())⟩
theorem avm:ac Tryz.prog 120 (jd.aI Rf akk):=aeC _ _ λx oy hp ho=>by
 rw [<-ho]
 rfl
def zl:cn:=(jd.aI Rf akk)
theorem ZG:ac Tryz.prog 120 zl:=avm
theorem ZF:aG zl:=aA
def Dc:Env:=ay 120 zl awv
theorem zL:aQ Tryz.prog Dc:=ag ZG VN
theorem Db:ax Dc:=ae ZF RY
theorem aa1:aW Tryz.prog te Dc:=aJ follows ar zL Db
def ja:aw:=⟨[.val true (.prod .elem (.prod .elem .bool))],[],true,0,false⟩
abbrev Fa:Type:=(((aa×(aa×Bool)))×Unit)×(Unit)
def BW:az:=⟨[.val true (.prod .elem (.prod .elem .elem))],[],false⟩
def Q8:SV->Option az:=λ_=>some BW
def UN (a0:(aa×(aa×Bool))):OT ja.Y:=
 let z0:aa:= {w0:=0,w1:=0,w2:=0,w3:=0}
 (.br (a0.snd.snd)
 (.ok ⟨BW,(((z0,z0,z0),()),())⟩)
 (.ok ⟨BW,(((a0.fst,a0.snd.fst,{w0:=1,w1:=0,w2:=0,w3:=0}),()),())⟩))
theorem aAH (x:Fa) (Q:ja.Y->Prop):wpf te Dc av 1000 Tryz.f82 (ja.inp.inj x).tm (ja.inp.inj x).hp (fnK ja Q8 Q) (λ_ _=>False)=(UN (x.1.1)).wpR Q:=by kernel_rfl
theorem aex (pre:Fa->Bool) (F:Fa->OT ja.Y) (hF:∀ (x:Fa) oy,pre x=true->(F x).run=some oy->(UN (x.1.1)).run=some oy):ac Tryz.prog 82 (ja.aI pre F):=
 aD ar zL aa1 (f:=82) (fn:=Tryz.f82) (c:=aj Tryz.f82) (by kernel_rfl) (by kernel_rfl) (by kernel_rfl) (S:=ja) (k:=0) (by kernel_rfl) (λR hR=>af) (n:=1000) (sel:=Q8) (λv o h=>by cases h;rfl) (pre:=pre) (F:=F) (T:=λx=>UN (x.1.1)) (λx Q=>aAH x Q) hF
def li (P:Pt):RI:=cond P.2.2 (⟨0,0,0,0⟩,⟨0,0,0,0⟩,⟨0,0,0,0⟩) (P.1,P.2.1,⟨1,0,0,0⟩)
def Q9 (_:Fa):Bool:=true
def akd (x:Fa):OT ja.Y:=.ok ⟨BW,((li x.1.1,()),())⟩
theorem au7:ac Tryz.prog 82 (ja.aI Q9 akd):=aex _ _ λx oy hp ho=>by
 rw [<-ho]
 clear ho
 obtain ⟨⟨⟨X,Y,i⟩,⟨⟩⟩,⟨⟩⟩:=x
 cases i<;>rfl
def zj:cn:=(ja.aI Q9 akd)
theorem Zw:ac Tryz.prog 82 zj:=au7
theorem Zv:aG zj:=aA
def C7:Env:=ay 82 zj Dc
theorem zJ:aQ Tryz.prog C7:=ag Zw zL
theorem C6:ax C7:=ae Zv Db
theorem aaX:aW Tryz.prog te C7:=aJ follows ar zJ C6
def uc:aw:=⟨[.val false .int,.val true .elem,.val true .elem],[],true,0,false⟩
abbrev aom:Type:=((Int)×(aa)×(aa)×Unit)×(Unit)
def UU:az:=⟨[.val true .elem],[],false⟩
def aki:SV->Option az:=λ_=>some UU
def avj (a0:Int) (a1:aa) (a2:aa):OT uc.Y:=
 (.br (ap a0)
 (.ok ⟨UU,((bP (pS a0) a1 a2,()),())⟩)
 (.ok ⟨UU,(({w0:=0,w1:=0,w2:=0,w3:=0},()),())⟩))
theorem aIz (x:aom) (Q:uc.Y->Prop):wpf te C7 av 1000 Tryz.f122 (uc.inp.inj x).tm (uc.inp.inj x).hp (fnK uc aki Q) (λ_ _=>False)=(avj (x.1.1) (x.1.2.1) (x.1.2.2.1)).wpR Q:=by kernel_rfl
theorem avi (pre:aom->Bool) (F:aom->OT uc.Y) (hF:∀ (x:aom) oy,pre x=true->(F x).run=some oy->(avj (x.1.1) (x.1.2.1) (x.1.2.2.1)).run=some oy):ac Tryz.prog 122 (uc.aI pre F):=
 aD ar zJ aaX (f:=122) (fn:=Tryz.f122) (c:=aj Tryz.f122) (by kernel_rfl) (by kernel_rfl) (by kernel_rfl) (S:=uc) (k:=0) (by kernel_rfl) (λR hR=>af) (n:=1000) (sel:=aki) (λv o h=>by cases h;rfl) (pre:=pre) (F:=F) (T:=λx=>avj (x.1.1) (x.1.2.1) (x.1.2.2.1)) (λx Q=>aIz x Q) hF
def bJ (x:aom):Bool:=ap x.1.1
def aCj (x:aom):OT uc.Y:=.ok ⟨UU,((bP (pS x.1.1) x.1.2.1 x.1.2.2.1,()),())⟩
theorem aGm:ac Tryz.prog 122 (uc.aI bJ aCj):=avi _ _ λx oy hp ho=>by
 rw [<-ho]
 clear ho
 obtain ⟨⟨s,a,b,⟨⟩⟩,⟨⟩⟩:=x
 have hs:ap s=true:=hp
 exact (OT.ao hs).trans rfl
def Mf:cn:=(uc.aI bJ aCj)
theorem aol:ac Tryz.prog 122 Mf:=aGm
theorem aok:aG Mf:=aA
def aa0:Env:=ay 122 Mf C7
theorem NW:aQ Tryz.prog aa0:=ag aol zJ
theorem NX:ax aa0:=ae aok C6
theorem apa:aW Tryz.prog te aa0:=aJ follows ar NW NX
def tY:aw:=⟨[.val false .int,.val true .elem,.val true .elem],[],true,0,false⟩
abbrev aof:Type:=((Int)×(aa)×(aa)×Unit)×(Unit)
def UP:az:=⟨[.val true .elem],[],false⟩
def akf:SV->Option az:=λ_=>some UP
def ava (a0:Int) (a1:aa) (a2:aa):OT tY.Y:=
 (.br (ap a0)
 (.ok ⟨UP,((I2 (pS a0) a1 a2,()),())⟩)
 (.ok ⟨UP,(({w0:=0,w1:=0,w2:=0,w3:=0},()),())⟩))
theorem aIv (x:aof) (Q:tY.Y->Prop):wpf te aa0 av 1000 Tryz.f123 (tY.inp.inj x).tm (tY.inp.inj x).hp (fnK tY akf Q) (λ_ _=>False)=(ava (x.1.1) (x.1.2.1) (x.1.2.2.1)).wpR Q:=by kernel_rfl
theorem au9 (pre:aof->Bool) (F:aof->OT tY.Y) (hF:∀ (x:aof) oy,pre x=true->(F x).run=some oy->(ava (x.1.1) (x.1.2.1) (x.1.2.2.1)).run=some oy):ac Tryz.prog 123 (tY.aI pre F):=
 aD ar NW apa (f:=123) (fn:=Tryz.f123) (c:=aj Tryz.f123) (by kernel_rfl) (by kernel_rfl) (by kernel_rfl) (S:=tY) (k:=0) (by kernel_rfl) (λR hR=>af) (n:=1000) (sel:=akf) (λv o h=>by cases h;rfl) (pre:=pre) (F:=F) (T:=λx=>ava (x.1.1) (x.1.2.1) (x.1.2.2.1)) (λx Q=>aIv x Q) hF
def jc (x:aof):Bool:=ap x.1.1
def aCi (x:aof):OT tY.Y:=.ok ⟨UP,((I2 (pS x.1.1) x.1.2.1 x.1.2.2.1,()),())⟩
theorem aGh:ac Tryz.prog 123 (tY.aI jc aCi):=au9 _ _ λx oy hp ho=>by
 rw [<-ho]
 clear ho
 obtain ⟨⟨s,a,b,⟨⟩⟩,⟨⟩⟩:=x
 have hs:ap s=true:=hp
 exact (OT.ao hs).trans rfl
def Mb:cn:=(tY.aI jc aCi)
theorem aoe:ac Tryz.prog 123 Mb:=aGh
theorem aod:aG Mb:=aA
def aaZ:Env:=ay 123 Mb aa0
theorem NT:aQ Tryz.prog aaZ:=ag aoe NW
theorem NU:ax aaZ:=ae aod NX
theorem ao9:aW Tryz.prog te aaZ:=aJ follows ar NT NU
def jb:aw:=⟨[.val false .int,.val true .elem,.val false .u64],[],true,0,false⟩
abbrev Fb:Type:=((Int)×(aa)×(UInt64)×Unit)×(Unit)
def Ma:az:=⟨[.val true .elem],[],false⟩
def Ra:SV->Option az:=λ_=>some Ma
def UO (a0:Int) (a1:aa) (a2:UInt64):OT jb.Y:=
 let z0:aa:= {w0:=a2,w1:=0,w2:=0,w3:=0}
 (gd [bJ ((a0,a1,z0,()),())] (.ok ⟨Ma,((bP (pS a0) a1 z0,()),())⟩))
theorem aAI (x:Fb) (Q:jb.Y->Prop):wpf te aaZ av 1000 Tryz.f124 (jb.inp.inj x).tm (jb.inp.inj x).hp (fnK jb Ra Q) (λ_ _=>False)=(UO (x.1.1) (x.1.2.1) (x.1.2.2.1)).wpR Q:=by kernel_rfl
theorem aey (pre:Fb->Bool) (F:Fb->OT jb.Y) (hF:∀ (x:Fb) oy,pre x=true->(F x).run=some oy->(UO (x.1.1) (x.1.2.1) (x.1.2.2.1)).run=some oy):ac Tryz.prog 124 (jb.aI pre F):=
 aD ar NT ao9 (f:=124) (fn:=Tryz.f124) (c:=aj Tryz.f124) (by kernel_rfl) (by kernel_rfl) (by kernel_rfl) (S:=jb) (k:=0) (by kernel_rfl) (λR hR=>af) (n:=1000) (sel:=Ra) (λv o h=>by cases h;rfl) (pre:=pre) (F:=F) (T:=λx=>UO (x.1.1) (x.1.2.1) (x.1.2.2.1)) (λx Q=>aAI x Q) hF
def n0 (p:Nat) (a:aa) (n:UInt64):aa:=bP p a ⟨n,0,0,0⟩
def hZ (x:Fb):Bool:=ap x.1.1
def ake (x:Fb):OT jb.Y:=.ok ⟨Ma,((n0 (pS x.1.1) x.1.2.1 x.1.2.2.1,()),())⟩
theorem au8:ac Tryz.prog 124 (jb.aI hZ ake):=aey _ _ λx oy hp ho=>by
 rw [<-ho]
 clear ho
 obtain ⟨⟨s,a,b,⟨⟩⟩,⟨⟩⟩:=x
 have hs:ap s=true:=hp
 refine (ah ?_).trans rfl
 simp only [List.all_cons,List.all_nil,Bool.and_true]
 exact hs
def zk:cn:=(jb.aI hZ ake)
theorem Zy:ac Tryz.prog 124 zk:=au8
theorem Zx:aG zk:=aA
def Da:Env:=ay 124 zk aaZ
theorem zK:aQ Tryz.prog Da:=ag Zy NT
theorem C8:ax Da:=ae Zx NU
theorem aaY:aW Tryz.prog te Da:=aJ follows ar zK C8
def fk:aw:=⟨[.val false .int,.val true (.prod .elem (.prod .elem .elem))],[],true,0,false⟩
abbrev wA:Type:=((Int)×((aa×(aa×aa)))×Unit)×(Unit)
def jK:az:=⟨[.val true (.prod .elem (.prod .elem .bool))],[],false⟩
def Mc:SV->Option az:=λ_=>some jK
def Md (a0:Int) (a1:(aa×(aa×aa))):OT fk.Y:=
 let z0:aa:= {w0:=0,w1:=0,w2:=0,w3:=0}
 let z1:Nat:=pS a0
 let z2:aa×PUnit:=(z0,())
 let z3:Bool:=bJ ((a0,z0,z2),())
 let z4:aa:=bP z1 z0 z0
 let z5:Bool:=bJ ((a0,a1.fst,z4,()),())
 let z6:Bool:=bJ ((a0,z4,z2),())
 let z7:aa:=bP z1 z4 z0
 let z8:Bool:=bJ ((a0,a1.snd.fst,z7,()),())
 let z9:aa×aa×Bool:=(bP z1 a1.fst z4,bP z1 a1.snd.fst z7,false)
 let z10:aa:=aH2 z1 a1.snd.snd
 let z11:aa×PUnit:=(z10,())
 let z12:aa:=bP z1 z10 z10
 let z13:aa:=bP z1 z12 z10
 (.br (bU a1.snd.snd)
 (.ok ⟨jK,(((z0,z0,true),()),())⟩)
 (.br (ap a0)
  (.br (Nat.beq (aa.nat a1.snd.snd%z1) 0)
   (gd [z3,z5,z6,z8] (.ok ⟨jK,((z9,()),())⟩))
   (gd [bJ ((a0,z10,z11),()),bJ ((a0,a1.fst,z12,()),()),bJ ((a0,z12,z11),()),bJ ((a0,a1.snd.fst,z13,()),())] (.ok ⟨jK,(((bP z1 a1.fst z12,bP z1 a1.snd.fst z13,false),()),())⟩)))
  (gd [z3,z5,z6,z8] (.ok ⟨jK,((z9,()),())⟩))))
theorem avg (x:wA) (Q:fk.Y->Prop):wpf te Da av 1000 Tryz.f80 (fk.inp.inj x).tm (fk.inp.inj x).hp (fnK fk Mc Q) (λ_ _=>False)=(Md (x.1.1) (x.1.2.1)).wpR Q:=by kernel_rfl
theorem ZB (pre:wA->Bool) (F:wA->OT fk.Y) (hF:∀ (x:wA) oy,pre x=true->(F x).run=some oy->(Md (x.1.1) (x.1.2.1)).run=some oy):ac Tryz.prog 80 (fk.aI pre F):=
 aD ar zK aaY (f:=80) (fn:=Tryz.f80) (c:=aj Tryz.f80) (by kernel_rfl) (by kernel_rfl) (by kernel_rfl) (S:=fk) (k:=0) (by kernel_rfl) (λR hR=>af) (n:=1000) (sel:=Mc) (λv o h=>by cases h;rfl) (pre:=pre) (F:=F) (T:=λx=>Md (x.1.1) (x.1.2.1)) (λx Q=>avg x Q) hF
def aJH (p:Nat) (a:aa):aa:=cond (Nat.beq (a.nat%p) 0) ⟨0,0,0,0⟩ (aH2 p a)
def aFc (p:Nat) (x y i:aa):Pt:=(bP p x (bP p i i),bP p y (bP p (bP p i i) i),false)
def nS (p:Nat) (w:RI):Pt:=cond (bU w.2.2) cF (aFc p w.1 w.2.1 (aJH p w.2.2))
def mo (x:wA):Bool:=ap x.1.1
def ZC (x:wA):OT fk.Y:=.ok ⟨jK,((nS (pS x.1.1) x.1.2.1,()),())⟩
theorem aoi:ac Tryz.prog 80 (fk.aI mo ZC):=ZB _ _ λx oy hp ho=>by
 rw [<-ho]
 clear ho
 obtain ⟨⟨c,⟨X,Y,Z⟩,⟨⟩⟩,⟨⟩⟩:=x
 have hs:ap c=true:=hp
 show _=(OT.ok ⟨jK,((nS (pS c) (X,Y,Z),()),())⟩:OT fk.Y).run
 unfold nS
 dsimp only
 cases hz:bU Z
 ·refine (OT.aq hz).trans ((OT.ao hs).trans ?_)
  unfold aJH
  cases hb:Nat.beq (Z.nat%pS c) 0
  ·refine (OT.aq rfl).trans ((ah ?_).trans rfl)
   simp only [List.all_cons,List.all_nil,Bool.and_true,Bool.and_eq_true]
   exact ⟨hs,hs,hs,hs⟩
  ·refine (OT.ao rfl).trans ((ah ?_).trans rfl)
   simp only [List.all_cons,List.all_nil,Bool.and_true,Bool.and_eq_true]
   exact ⟨hs,hs,hs,hs⟩
 ·exact OT.ao hz
def ub:cn:=(fk.aI mo ZC)
theorem UT:ac Tryz.prog 80 ub:=aoi
theorem US:aG ub:=aA
def uW:Env:=ay 80 ub Da
theorem uV:aQ Tryz.prog uW:=ag UT zK
theorem yd:ax uW:=ae US C8
theorem VO:aW Tryz.prog te uW:=aJ follows ar uV yd
def fm:aw:=⟨[.val false .int,.val true (.prod .elem (.prod .elem .elem))],[],true,0,false⟩
abbrev wE:Type:=((Int)×((aa×(aa×aa)))×Unit)×(Unit)
def px:az:=⟨[.val true (.prod .elem (.prod .elem .elem))],[],false⟩
def Mj:SV->Option az:=λ_=>some px
def Mk (a0:Int) (a1:(aa×(aa×aa))):OT fm.Y:=
 let z0:Nat:=pS a0
 let z1:aa:=bP z0 a1.snd.fst a1.snd.fst
 let z2:aa×PUnit:=(z1,())
 let z3:aa:=bP z0 a1.fst z1
 let z4:aa:=bP z0 a1.fst a1.fst
 let z5:aa:=n0 z0 z4 (3:UInt64)
 let z6:aa:=n0 z0 z3 (4:UInt64)
 let z7:UInt64×PUnit:=((2:UInt64),())
 let z8:aa:=bP z0 z5 z5
 let z9:aa:=n0 z0 z6 (2:UInt64)
 let z10:aa:=I2 z0 z8 z9
 let z11:aa:=I2 z0 z6 z10
 let z12:aa:=bP z0 z1 z1
 let z13:aa:=bP z0 z5 z11
 let z14:aa:=n0 z0 z12 (8:UInt64)
 let z15:aa:=bP z0 a1.snd.fst a1.snd.snd
 (.br (bU a1.snd.snd)
 (.ok ⟨px,((a1,()),())⟩)
 (gd [bJ ((a0,a1.snd.fst,a1.snd.fst,()),()),bJ ((a0,a1.fst,z2),()),hZ ((a0,z3,(4:UInt64),()),()),bJ ((a0,a1.fst,a1.fst,()),()),hZ ((a0,z4,(3:UInt64),()),()),bJ ((a0,z5,z5,()),()),hZ ((a0,z6,z7),()),jc ((a0,z8,z9,()),()),jc ((a0,z6,z10,()),()),bJ ((a0,z5,z11,()),()),bJ ((a0,z1,z2),()),hZ ((a0,z12,(8:UInt64),()),()),jc ((a0,z13,z14,()),()),bJ ((a0,a1.snd.fst,a1.snd.snd,()),()),hZ ((a0,z15,z7),())] (.ok ⟨px,(((z10,I2 z0 z13 z14,n0 z0 z15 (2:UInt64)),()),())⟩)))
theorem avs (x:wE) (Q:fm.Y->Prop):wpf te uW av 1000 Tryz.f83 (fm.inp.inj x).tm (fm.inp.inj x).hp (fnK fm Mj Q) (λ_ _=>False)=(Mk (x.1.1) (x.1.2.1)).wpR Q:=by kernel_rfl
theorem ZH (pre:wE->Bool) (F:wE->OT fm.Y) (hF:∀ (x:wE) oy,pre x=true->(F x).run=some oy->(Mk (x.1.1) (x.1.2.1)).run=some oy):ac Tryz.prog 83 (fm.aI pre F):=
 aD ar uV VO (f:=83) (fn:=Tryz.f83) (c:=aj Tryz.f83) (by kernel_rfl) (by kernel_rfl) (by kernel_rfl) (S:=fm) (k:=0) (by kernel_rfl) (λR hR=>af) (n:=1000) (sel:=Mj) (λv o h=>by cases h;rfl) (pre:=pre) (F:=F) (T:=λx=>Mk (x.1.1) (x.1.2.1)) (λx Q=>avs x Q) hF
def aJS (p:Nat) (x y z:aa):RI:=
 let yy:=bP p y y
 let s:=n0 p (bP p x yy) 4
 let m:=n0 p (bP p x x) 3
 let x':=I2 p (bP p m m) (n0 p s 2)
 (x',I2 p (bP p m (I2 p s x')) (n0 p (bP p yy yy) 8),n0 p (bP p y z) 2)
def awz (p:Nat) (w:RI):RI:=cond (bU w.2.2) w (aJS p w.1 w.2.1 w.2.2)
def rg (x:wE):Bool:=ap x.1.1
def ZI (x:wE):OT fm.Y:=.ok ⟨px,((awz (pS x.1.1) x.1.2.1,()),())⟩
theorem aos:ac Tryz.prog 83 (fm.aI rg ZI):=ZH _ _ λx oy hp ho=>by
 rw [<-ho]
 clear ho
 obtain ⟨⟨c,⟨X,Y,Z⟩,⟨⟩⟩,⟨⟩⟩:=x
 have hs:ap c=true:=hp
 show _=(OT.ok ⟨px,((awz (pS c) (X,Y,Z),()),())⟩:OT fm.Y).run
 unfold awz
 dsimp only
 cases hz:bU Z
 ·refine (OT.aq hz).trans ((ah ?_).trans rfl)
  simp only [List.all_cons,List.all_nil,Bool.and_true,Bool.and_eq_true]
  exact ⟨hs,hs,hs,hs,hs,hs,hs,hs,hs,hs,hs,hs,hs,hs,hs⟩
 ·exact OT.ao hz
def uf:cn:=(fm.aI rg ZI)
theorem UZ:ac Tryz.prog 83 uf:=aos
theorem UY:aG uf:=aA
def uY:Env:=ay 83 uf uW
theorem uX:aQ Tryz.prog uY:=ag UZ uV
theorem ye:ax uY:=ae UY yd
theorem VP:aW Tryz.prog te uY:=aJ follows ar uX ye
def kw:aw:=⟨[.val false .int,.val true (.prod .elem (.prod .elem .elem)),.val true (.prod .elem (.prod .elem .elem))],[],true,0,false⟩
abbrev Rm:Type:=((Int)×((aa×(aa×aa)))×((aa×(aa×aa)))×Unit)×(Unit)
def nA:az:=⟨[.val true (.prod .elem (.prod .elem .elem))],[],false⟩
def ZP:SV->Option az:=λ_=>some nA
def aeM (a0:Int) (a1:(aa×(aa×aa))) (a2:(aa×(aa×aa))):OT kw.Y:=
 let z0:aa×PUnit:=(a1.snd.snd,())
 let z1:aa×PUnit:=(a2.snd.snd,())
 let z2:Nat:=pS a0
 let z3:aa:=bP z2 a2.snd.snd a2.snd.snd
 let z4:aa:=bP z2 a1.snd.snd a1.snd.snd
 let z5:aa:=bP z2 z3 a2.snd.snd
 let z6:aa:=bP z2 z4 a1.snd.snd
 let z7:aa:=bP z2 a2.fst z4
 let z8:aa:=bP z2 a1.fst z3
 let z9:aa:=bP z2 a2.snd.fst z6
 let z10:aa:=bP z2 a1.snd.fst z5
 let z11:aa:=I2 z2 z7 z8
 let z12:aa:=I2 z2 z9 z10
 let z13:aa:= {w0:=0,w1:=0,w2:=0,w3:=0}
 let z14:aa×PUnit:=(z11,())
 let z15:aa:=bP z2 z11 z11
 let z16:aa:=bP z2 z12 z12
 let z17:aa:=bP z2 z15 z11
 let z18:aa×PUnit:=(z17,())
 let z19:aa:=bP z2 z8 z15
 let z20:aa:=I2 z2 z16 z17
 let z21:aa:=n0 z2 z19 (2:UInt64)
 let z22:aa:=I2 z2 z20 z21
 let z23:aa:=I2 z2 z19 z22
 let z24:aa:=bP z2 z12 z23
 let z25:aa:=bP z2 z10 z17
 let z26:aa:=bP z2 a1.snd.snd a2.snd.snd
 (.br (bU a1.snd.snd)
 (.ok ⟨nA,((a2,()),())⟩)
 (.br (bU a2.snd.snd)
  (.ok ⟨nA,((a1,()),())⟩)
  (gd [bJ ((a0,a1.snd.snd,z0),()),bJ ((a0,a2.snd.snd,z1),()),bJ ((a0,a1.fst,z3,()),()),bJ ((a0,a2.fst,z4,()),()),bJ ((a0,z3,z1),()),bJ ((a0,a1.snd.fst,z5,()),()),bJ ((a0,z4,z0),()),bJ ((a0,a2.snd.fst,z6,()),()),jc ((a0,z7,z8,()),()),jc ((a0,z9,z10,()),())] (.br (z11.w0==(0:UInt64)&&(z11.w1==(0:UInt64)&&(z11.w2==(0:UInt64)&&(z11.w3==(0:UInt64)&&true))))
   (.br (z12.w0==(0:UInt64)&&(z12.w1==(0:UInt64)&&(z12.w2==(0:UInt64)&&(z12.w3==(0:UInt64)&&true))))
    (gd [rg ((a0,a1,()),())] (.ok ⟨nA,((awz z2 a1,()),())⟩))
    (.ok ⟨nA,(((z13,z13,z13),()),())⟩))
   (gd [bJ ((a0,z11,z14),()),bJ ((a0,z15,z14),()),bJ ((a0,z8,z15,()),()),bJ ((a0,z12,z12,()),()),jc ((a0,z16,z18),()),hZ ((a0,z19,(2:UInt64),()),()),jc ((a0,z20,z21,()),()),jc ((a0,z19,z22,()),()),bJ ((a0,z12,z23,()),()),bJ ((a0,z10,z18),()),jc ((a0,z24,z25,()),()),bJ ((a0,a1.snd.snd,z1),()),bJ ((a0,z11,z26,()),())] (.ok ⟨nA,(((z22,I2 z2 z24 z25,bP z2 z11 z26),()),())⟩))))))
theorem aGr (x:Rm) (Q:kw.Y->Prop):wpf te uY av 1000 Tryz.f81 (kw.inp.inj x).tm (kw.inp.inj x).hp (fnK kw ZP Q) (λ_ _=>False)=(aeM (x.1.1) (x.1.2.1) (x.1.2.2.1)).wpR Q:=by kernel_rfl
theorem aoy (pre:Rm->Bool) (F:Rm->OT kw.Y) (hF:∀ (x:Rm) oy,pre x=true->(F x).run=some oy->(aeM (x.1.1) (x.1.2.1) (x.1.2.2.1)).run=some oy):ac Tryz.prog 81 (kw.aI pre F):=
 aD ar uX VP (f:=81) (fn:=Tryz.f81) (c:=aj Tryz.f81) (by kernel_rfl) (by kernel_rfl) (by kernel_rfl) (S:=kw) (k:=0) (by kernel_rfl) (λR hR=>af) (n:=1000) (sel:=ZP) (λv o h=>by cases h;rfl) (pre:=pre) (F:=F) (T:=λx=>aeM (x.1.1) (x.1.2.1) (x.1.2.2.1)) (λx Q=>aGr x Q) hF
def aJU (p:Nat) (u s h r Z1 Z2:aa):RI:=
 let hh:=bP p h h
 let hhh:=bP p hh h
 let c:=bP p u hh
 let x:=I2 p (I2 p (bP p r r) hhh) (n0 p c 2)
 (x,I2 p (bP p r (I2 p c x)) (bP p s hhh),bP p h (bP p Z1 Z2))
def aJJ (p:Nat) (w:RI) (u s h r Z2:aa):RI:=cond (bU h) (cond (bU r) (awz p w) (⟨0,0,0,0⟩,⟨0,0,0,0⟩,⟨0,0,0,0⟩)) (aJU p u s h r w.2.2 Z2)
def aJK (p:Nat) (w v:RI):RI:=
 let pz:=bP p w.2.2 w.2.2
 let qz:=bP p v.2.2 v.2.2
 let u:=bP p w.1 qz
 let s:=bP p w.2.1 (bP p qz v.2.2)
 aJJ p w u s (I2 p (bP p v.1 pz) u) (I2 p (bP p v.2.1 (bP p pz w.2.2)) s) v.2.2
def aBp (p:Nat) (w v:RI):RI:=cond (bU w.2.2) v (cond (bU v.2.2) w (aJK p w v))
def B1 (x:Rm):Bool:=ap x.1.1
def avz (x:Rm):OT kw.Y:=.ok ⟨nA,((aBp (pS x.1.1) x.1.2.1 x.1.2.2.1,()),())⟩
theorem aAT:ac Tryz.prog 81 (kw.aI B1 avz):=aoy _ _ λx oy hp ho=>by
 rw [<-ho]
 clear ho
 obtain ⟨⟨c,⟨X,Y,Z⟩,⟨X2,Y2,Z2⟩,⟨⟩⟩,⟨⟩⟩:=x
 have hs:ap c=true:=hp
 show _=(OT.ok ⟨nA,((aBp (pS c) (X,Y,Z) (X2,Y2,Z2),()),())⟩:OT kw.Y).run
 unfold aBp
 dsimp only
 cases hz:bU Z
 ·refine (OT.aq hz).trans ?_
  cases hz2:bU Z2
  ·refine (OT.aq rfl).trans ((ah ?_).trans ?_)
   ·simp only [List.all_cons,List.all_nil,Bool.and_true,Bool.and_eq_true]
    exact ⟨hs,hs,hs,hs,hs,hs,hs,hs,hs,hs⟩
   ·unfold aJK aJJ
    dsimp only [cond_false]
    cases hh:bU (I2 (pS c) (bP (pS c) X2 (bP (pS c) Z Z)) (bP (pS c) X (bP (pS c) Z2 Z2)))
    ·refine (OT.aq hh).trans ((ah ?_).trans rfl)
     simp only [List.all_cons,List.all_nil,Bool.and_true,Bool.and_eq_true]
     exact ⟨hs,hs,hs,hs,hs,hs,hs,hs,hs,hs,hs,hs,hs⟩
    ·refine (OT.ao hh).trans ?_
     dsimp only [cond_true]
     cases hr:bU (I2 (pS c) (bP (pS c) Y2 (bP (pS c) (bP (pS c) Z Z) Z)) (bP (pS c) Y (bP (pS c) (bP (pS c) Z2 Z2) Z2)))
     ·exact OT.aq hr
     ·refine (OT.ao hr).trans ((ah ?_).trans rfl)
      simp only [List.all_cons,List.all_nil,Bool.and_true]
      exact hs
  ·exact OT.ao rfl
 ·exact OT.ao hz
def Fj:cn:=(kw.aI B1 avz)
theorem aeL:ac Tryz.prog 81 Fj:=aAT
theorem aeK:aG Fj:=aA
def N5:Env:=ay 81 Fj uY
theorem Gb:aQ Tryz.prog N5:=ag aeL uX
theorem Hu:ax N5:=ae aeK ye
theorem afL:aW Tryz.prog te N5:=aJ follows ar Gb Hu
def rV:aw:=⟨[.val false .int,.val true (.prod .elem (.prod .elem .bool)),.val true (.prod .elem (.prod .elem .bool))],[],true,0,false⟩
abbrev aox:Type:=((Int)×((aa×(aa×Bool)))×((aa×(aa×Bool)))×Unit)×(Unit)
def Fi:az:=⟨[.val true (.prod .elem (.prod .elem .bool))],[],false⟩
def akq:SV->Option az:=λ_=>some Fi
def avy (a0:Int) (a1:(aa×(aa×Bool))) (a2:(aa×(aa×Bool))):OT rV.Y:=
 let z0:aa:= {w0:=0,w1:=0,w2:=0,w3:=0}
 let z1:aa×aa×Bool:=(z0,z0,true)
 let z2:aa×aa×aa:=li a1
 let z3:aa×aa×aa:=li a2
 let z4:Nat:=pS a0
 let z5:aa×aa×aa:=aBp z4 z2 z3
 (.br (!onB a0 a1)
 (.ok ⟨Fi,((z1,()),())⟩)
 (.br (!onB a0 a2)
  (.ok ⟨Fi,((z1,()),())⟩)
  (gd [B1 ((a0,z2,z3,()),()),mo ((a0,z5,()),())] (.ok ⟨Fi,((nS z4 z5,()),())⟩))))
theorem aIC (x:aox) (Q:rV.Y->Prop):wpf te N5 av 1000 Tryz.f44 (rV.inp.inj x).tm (rV.inp.inj x).hp (fnK rV akq Q) (λ_ _=>False)=(avy (x.1.1) (x.1.2.1) (x.1.2.2.1)).wpR Q:=by kernel_rfl
theorem avx (pre:aox->Bool) (F:aox->OT rV.Y) (hF:∀ (x:aox) oy,pre x=true->(F x).run=some oy->(avy (x.1.1) (x.1.2.1) (x.1.2.2.1)).run=some oy):ac Tryz.prog 44 (rV.aI pre F):=
 aD ar Gb afL (f:=44) (fn:=Tryz.f44) (c:=aj Tryz.f44) (by kernel_rfl) (by kernel_rfl) (by kernel_rfl) (S:=rV) (k:=0) (by kernel_rfl) (λR hR=>af) (n:=1000) (sel:=akq) (λv o h=>by cases h;rfl) (pre:=pre) (F:=F) (T:=λx=>avy (x.1.1) (x.1.2.1) (x.1.2.2.1)) (λx Q=>aIC x Q) hF
def kT (c:Int) (P Q:Pt):Pt:=cond (onB c P) (cond (onB c Q) (nS (pS c) (aBp (pS c) (li P) (li Q))) cF) cF
def akr (_:aox):Bool:=true
def aCl (x:aox):OT rV.Y:=.ok ⟨Fi,((kT x.1.1 x.1.2.1 x.1.2.2.1,()),())⟩
theorem aGq:ac Tryz.prog 44 (rV.aI akr aCl):=avx _ _ λx oy _ ho=>by
 rw [<-ho]
 clear ho
 obtain ⟨⟨c,P,Q,⟨⟩⟩,⟨⟩⟩:=x
 show _=(OT.ok ⟨Fi,((kT c P Q,()),())⟩:OT rV.Y).run
 rcases (Bool.eq_false_or_eq_true (onB c P)).symm with h1|h1
 ·have e:kT c P Q=cF:=by unfold kT;rw [h1];rfl
  rw [e]
  exact OT.ao (b:= !onB c P) (by rw [h1];rfl)
 ·have hs:=TK h1
  refine (OT.aq (b:= !onB c P) (by rw [h1];rfl)).trans ?_
  rcases (Bool.eq_false_or_eq_true (onB c Q)).symm with h2|h2
  ·have e:kT c P Q=cF:=by unfold kT;rw [h1,h2];rfl
   rw [e]
   exact OT.ao (b:= !onB c Q) (by rw [h2];rfl)
  ·have e:kT c P Q=nS (pS c) (aBp (pS c) (li P) (li Q)):=by unfold kT;rw [h1,h2];rfl
   rw [e]
   refine (OT.aq (b:= !onB c Q) (by rw [h2];rfl)).trans ((ah ?_).trans rfl)
   simp only [List.all_cons,List.all_nil,Bool.and_true,Bool.and_eq_true]
   exact ⟨hs,hs⟩
def Mn:cn:=(rV.aI akr aCl)
theorem aow:ac Tryz.prog 44 Mn:=aGq
theorem aov:aG Mn:=aA
def R0:Env:=ay 44 Mn N5
theorem Dg:aQ Tryz.prog R0:=ag aow Gb
theorem N4:ax R0:=ae aov Hu
theorem RZ:aW Tryz.prog te R0:=aJ follows ar Dg N4
def kv:aw:=⟨[.val false .int,.val true .elem,.val true (.prod .elem (.prod .elem .bool))],[],true,0,false⟩
abbrev Rd:Type:=((Int)×(aa)×((aa×(aa×Bool)))×Unit)×(Unit)
def BX:Shape:=⟨39,[(4,.ptr 0 0 0),(5,.ptr 1 0 0),(6,.ptr 2 0 0),(7,.val false .int),(8,.ptr 3 0 0),(9,.val false .int)],[(0,.row .u64),(1,.cells [.val false .u64,.val false .u64,.val false .u64,.val false .u64,.val false .u64,.val false .u64,.val false .u64,.val false .u64,.val false .bool]),(2,.cells [.val false .u64,.val false .u64,.val false .u64,.val false .u64,.val false .u64,.val false .u64,.val false .u64,.val false .u64,.val false .bool]),(3,.cells [.val false .u64,.val false .u64,.val false .u64,.val false .u64,.val false .u64,.val false .u64,.val false .u64,.val false .u64,.val false .u64,.val false .u64,.val false .u64,.val false .u64])],0,true⟩
abbrev cZ:Type:=((Unit)×(Unit)×(Unit)×(Int)×(Unit)×(Int)×Unit)×((List (UInt64))×((UInt64)×(UInt64)×(UInt64)×(UInt64)×(UInt64)×(UInt64)×(UInt64)×(UInt64)×(Bool)×Unit)×((UInt64)×(UInt64)×(UInt64)×(UInt64)×(UInt64)×(UInt64)×(UInt64)×(UInt64)×(Bool)×Unit)×((UInt64)×(UInt64)×(UInt64)×(UInt64)×(UInt64)×(UInt64)×(UInt64)×(UInt64)×(UInt64)×(UInt64)×(UInt64)×(UInt64)×Unit)×Unit)
def wC:Shape:=⟨39,[(6,.ptr 0 0 0),(7,.val false .int),(8,.ptr 1 0 0)],[(0,.cells [.val false .u64,.val false .u64,.val false .u64,.val false .u64,.val false .u64,.val false .u64,.val false .u64,.val false .u64,.val false .bool]),(1,.cells [.val false .u64,.val false .u64,.val false .u64,.val false .u64,.val false .u64,.val false .u64,.val false .u64,.val false .u64,.val false .u64,.val false .u64,.val false .u64,.val false .u64])],0,true⟩
abbrev mq:Type:=((Unit)×(Int)×(Unit)×Unit)×(((UInt64)×(UInt64)×(UInt64)×(UInt64)×(UInt64)×(UInt64)×(UInt64)×(UInt64)×(Bool)×Unit)×((UInt64)×(UInt64)×(UInt64)×(UInt64)×(UInt64)×(UInt64)×(UInt64)×(UInt64)×(UInt64)×(UInt64)×(UInt64)×(UInt64)×Unit)×Unit)
def akg:SE->Option Shape:=fC [(0,wC)] none
def aAN (a7:Int) (a9:Int) (c0:List (UInt64)) (c1_0:UInt64) (c1_1:UInt64) (c1_2:UInt64) (c1_3:UInt64) (c1_4:UInt64) (c1_5:UInt64) (c1_6:UInt64) (c1_7:UInt64) (c1_8:Bool) (c2_0:UInt64) (c2_1:UInt64) (c2_2:UInt64) (c2_3:UInt64) (c2_4:UInt64) (c2_5:UInt64) (c2_6:UInt64) (c2_7:UInt64) (c2_8:Bool) (c3_0:UInt64) (c3_1:UInt64) (c3_2:UInt64) (c3_3:UInt64) (c3_4:UInt64) (c3_5:UInt64) (c3_6:UInt64) (c3_7:UInt64) (c3_8:UInt64) (c3_9:UInt64) (c3_10:UInt64) (c3_11:UInt64):OT (Sum cZ aE):=
 let z0:aa×aa×aa:=({w0:=c3_0,w1:=c3_1,w2:=c3_2,w3:=c3_3},{w0:=c3_4,w1:=c3_5,w2:=c3_6,w3:=c3_7},{w0:=c3_8,w1:=c3_9,w2:=c3_10,w3:=c3_11})
 let z1:Nat:=pS a7
 let z2:aa×aa×aa:=awz z1 z0
 let z3:aa×aa×aa:=li ({w0:=c1_0,w1:=c1_1,w2:=c1_2,w3:=c1_3},{w0:=c1_4,w1:=c1_5,w2:=c1_6,w3:=c1_7},c1_8)
 let z4:Bool:=inR (a9-(1:Int))
 let z5:aa×aa×aa:=aBp z1 z2 z3
 let z6:=z5.fst
 let z7:=z5.snd
 let z8:=z7.fst
 let z9:=z7.snd
 let z10:=z2.fst
 let z11:=z2.snd
 let z12:=z11.fst
 let z13:=z11.snd
 (.br (decide ((0:Int)<=a9))
 (gd [rg ((a7,z0,()),()),decide (4<=List.length c0)] (.br (xJ {w0:=List.getD c0 0 0,w1:=List.getD c0 1 0,w2:=List.getD c0 2 0,w3:=List.getD c0 3 0} a9)
  (gd [B1 ((a7,z2,z3,()),()),z4] (.ok (.inl (((),((),((),(a7,((),(a9-(1:Int),())))))),(c0,((c1_0,(c1_1,(c1_2,(c1_3,(c1_4,(c1_5,(c1_6,(c1_7,(c1_8,()))))))))),((c2_0,(c2_1,(c2_2,(c2_3,(c2_4,(c2_5,(c2_6,(c2_7,(c2_8,()))))))))),((z6.w0,(z6.w1,(z6.w2,(z6.w3,(z8.w0,(z8.w1,(z8.w2,(z8.w3,(z9.w0,(z9.w1,(z9.w2,(z9.w3,())))))))))))),()))))))))
  (gd [z4] (.ok (.inl (((),((),((),(a7,((),(a9-(1:Int),())))))),(c0,((c1_0,(c1_1,(c1_2,(c1_3,(c1_4,(c1_5,(c1_6,(c1_7,(c1_8,()))))))))),((c2_0,(c2_1,(c2_2,(c2_3,(c2_4,(c2_5,(c2_6,(c2_7,(c2_8,()))))))))),((z10.w0,(z10.w1,(z10.w2,(z10.w3,(z12.w0,(z12.w1,(z12.w2,(z12.w3,(z13.w0,(z13.w1,(z13.w2,(z13.w3,())))))))))))),()))))))))))
 (.ok (.inr ⟨(.exit 0,wC),(((),(a7,((),()))),((c2_0,(c2_1,(c2_2,(c2_3,(c2_4,(c2_5,(c2_6,(c2_7,(c2_8,()))))))))),((c3_0,(c3_1,(c3_2,(c3_3,(c3_4,(c3_5,(c3_6,(c3_7,(c3_8,(c3_9,(c3_10,(c3_11,())))))))))))),())))⟩)))
def BZ (s:cZ):OT (Sum cZ aE):=aAN (s.1.2.2.2.1) (s.1.2.2.2.2.2.1) (s.2.1) (s.2.2.1.1) (s.2.2.1.2.1) (s.2.2.1.2.2.1) (s.2.2.1.2.2.2.1) (s.2.2.1.2.2.2.2.1) (s.2.2.1.2.2.2.2.2.1) (s.2.2.1.2.2.2.2.2.2.1) (s.2.2.1.2.2.2.2.2.2.2.1) (s.2.2.1.2.2.2.2.2.2.2.2.1) (s.2.2.2.1.1) (s.2.2.2.1.2.1) (s.2.2.2.1.2.2.1) (s.2.2.2.1.2.2.2.1) (s.2.2.2.1.2.2.2.2.1) (s.2.2.2.1.2.2.2.2.2.1) (s.2.2.2.1.2.2.2.2.2.2.1) (s.2.2.2.1.2.2.2.2.2.2.2.1) (s.2.2.2.1.2.2.2.2.2.2.2.2.1) (s.2.2.2.2.1.1) (s.2.2.2.2.1.2.1) (s.2.2.2.2.1.2.2.1) (s.2.2.2.2.1.2.2.2.1) (s.2.2.2.2.1.2.2.2.2.1) (s.2.2.2.2.1.2.2.2.2.2.1) (s.2.2.2.2.1.2.2.2.2.2.2.1) (s.2.2.2.2.1.2.2.2.2.2.2.2.1) (s.2.2.2.2.1.2.2.2.2.2.2.2.2.1) (s.2.2.2.2.1.2.2.2.2.2.2.2.2.2.1) (s.2.2.2.2.1.2.2.2.2.2.2.2.2.2.2.1) (s.2.2.2.2.1.2.2.2.2.2.2.2.2.2.2.2.1)
theorem aAK (s:cZ) (Q:Sum cZ aE->Prop):wps te R0 av 1000 (aU (aj Tryz.f45) 0) (BX.inj s) (bY BX akg (Q:Sum BX.T aE->Prop))=(BZ s).wpR Q:=by kernel_rfl
def Is (g0_0:cZ->mq) (s:cZ):OT aE:=(.ok ⟨(.exit 0,wC),g0_0 s⟩)
def wB:az:=⟨[.val true (.prod .elem (.prod .elem .bool))],[],false⟩
def ZD:SV->Option az:=λ_=>some wB
def aeB (ok0:cZ->Bool) (g0_0:cZ->mq) (a0:Int) (a1:aa) (a2:(aa×(aa×Bool))):OT kv.Y:=
 let z0:aa:= {w0:=0,w1:=0,w2:=0,w3:=0}
 let z1:Int:=aH1 a0 (1:Int)
 let z2:PUnit×PUnit×PUnit×Int×PUnit×Int×PUnit:=((),(),(),a0,(),(255:Int),())
 let z3:aa:=FC (pS z1) a1 z0
 let z4:(UInt64×UInt64×UInt64×UInt64×UInt64×UInt64×UInt64×UInt64×Bool×PUnit)×(UInt64×UInt64×UInt64×UInt64×UInt64×UInt64×UInt64×UInt64×Bool×PUnit)×(UInt64×UInt64×UInt64×UInt64×UInt64×UInt64×UInt64×UInt64×UInt64×UInt64×UInt64×UInt64×PUnit)×PUnit:=((a2.fst.w0,a2.fst.w1,a2.fst.w2,a2.fst.w3,a2.snd.fst.w0,a2.snd.fst.w1,a2.snd.fst.w2,a2.snd.fst.w3,a2.snd.snd,()),((0:UInt64),(0:UInt64),(0:UInt64),(0:UInt64),(0:UInt64),(0:UInt64),(0:UInt64),(0:UInt64),false,()),((0:UInt64),(0:UInt64),(0:UInt64),(0:UInt64),(0:UInt64),(0:UInt64),(0:UInt64),(0:UInt64),(0:UInt64),(0:UInt64),(0:UInt64),(0:UInt64),()),())
 let z5:(PUnit×PUnit×PUnit×Int×PUnit×Int×PUnit)×List UInt64×(UInt64×UInt64×UInt64×UInt64×UInt64×UInt64×UInt64×UInt64×Bool×PUnit)×(UInt64×UInt64×UInt64×UInt64×UInt64×UInt64×UInt64×UInt64×Bool×PUnit)×(UInt64×UInt64×UInt64×UInt64×UInt64×UInt64×UInt64×UInt64×UInt64×UInt64×UInt64×UInt64×PUnit)×PUnit:=(z2,[z3.w0,z3.w1,z3.w2,z3.w3],z4)
 let z6:(PUnit×Int×PUnit×PUnit)×(UInt64×UInt64×UInt64×UInt64×UInt64×UInt64×UInt64×UInt64×Bool×PUnit)×(UInt64×UInt64×UInt64×UInt64×UInt64×UInt64×UInt64×UInt64×UInt64×UInt64×UInt64×UInt64×PUnit)×PUnit:=g0_0 z5
 let z7:=z6.fst.snd.fst
 let z8:=z6.snd.snd.fst
 let z9:=z8.snd
 let z10:=z9.snd
 let z11:=z10.snd
 let z12:=z11.snd
 let z13:=z12.snd
 let z14:=z13.snd
 let z15:=z14.snd
 let z16:=z15.snd
 let z17:=z16.snd
 let z18:=z17.snd
 let z19:aa×aa×aa:=({w0:=z8.fst,w1:=z9.fst,w2:=z10.fst,w3:=z11.fst},{w0:=z12.fst,w1:=z13.fst,w2:=z14.fst,w3:=z15.fst},{w0:=z16.fst,w1:=z17.fst,w2:=z18.fst,w3:=z18.snd.fst})
 let z20:(PUnit×PUnit×PUnit×Int×PUnit×Int×PUnit)×List UInt64×(UInt64×UInt64×UInt64×UInt64×UInt64×UInt64×UInt64×UInt64×Bool×PUnit)×(UInt64×UInt64×UInt64×UInt64×UInt64×UInt64×UInt64×UInt64×Bool×PUnit)×(UInt64×UInt64×UInt64×UInt64×UInt64×UInt64×UInt64×UInt64×UInt64×UInt64×UInt64×UInt64×PUnit)×PUnit:=(z2,[(0:UInt64),(0:UInt64),(0:UInt64),(0:UInt64)],z4)
 let z21:(PUnit×Int×PUnit×PUnit)×(UInt64×UInt64×UInt64×UInt64×UInt64×UInt64×UInt64×UInt64×Bool×PUnit)×(UInt64×UInt64×UInt64×UInt64×UInt64×UInt64×UInt64×UInt64×UInt64×UInt64×UInt64×UInt64×PUnit)×PUnit:=g0_0 z20
 let z22:=z21.fst.snd.fst
 let z23:=z21.snd.snd.fst
 let z24:=z23.snd
 let z25:=z24.snd
 let z26:=z25.snd
 let z27:=z26.snd
 let z28:=z27.snd
 let z29:=z28.snd
 let z30:=z29.snd
 let z31:=z30.snd
 let z32:=z31.snd
 let z33:=z32.snd
 let z34:aa×aa×aa:=({w0:=z23.fst,w1:=z24.fst,w2:=z25.fst,w3:=z26.fst},{w0:=z27.fst,w1:=z28.fst,w2:=z29.fst,w3:=z30.fst},{w0:=z31.fst,w1:=z32.fst,w2:=z33.fst,w3:=z33.snd.fst})
 (.br (!onB a0 a2)
 (.ok ⟨wB,(((z0,z0,true),()),())⟩)
 (.br (ap z1)
  (gd [ok0 z5,mo ((z7,z19,()),())] (.ok ⟨wB,((nS (pS z7) z19,()),())⟩))
  (gd [ok0 z20,mo ((z22,z34,()),())] (.ok ⟨wB,((nS (pS z22) z34,()),())⟩))))
theorem aGl (ok0:cZ->Bool) (g0_0:cZ->mq) (x:Rd) (Q:kv.Y->Prop):wpf te R0 (aO 0 (cl BX 0 ok0 (Is g0_0)) av) 1000 Tryz.f45 (kv.inp.inj x).tm (kv.inp.inj x).hp (fnK kv ZD Q) (λ_ _=>False)=(aeB ok0 g0_0 (x.1.1) (x.1.2.1) (x.1.2.2.1)).wpR Q:=by kernel_rfl
theorem aoj (ok0:cZ->Bool) (g0_0:cZ->mq) (h0:∀ s:cZ,ok0 s=true->∃ m e,al (BZ) m s=some e/\(Is g0_0 s).run=some e) (pre:Rd->Bool) (F:Rd->OT kv.Y) (hF:∀ (x:Rd) oy,pre x=true->(F x).run=some oy->(aeB ok0 g0_0 (x.1.1) (x.1.2.1) (x.1.2.2.1)).run=some oy):ac Tryz.prog 45 (kv.aI pre F):=
 aD ar Dg RZ (f:=45) (fn:=Tryz.f45) (c:=aj Tryz.f45) (by kernel_rfl) (by kernel_rfl) (by kernel_rfl) (S:=kv) (k:=0) (by kernel_rfl) (λR hR=>(aB (c:=(aj Tryz.f45)) (by kernel_rfl) (id:=0) (by kernel_rfl) (aR ar Dg RZ (sh:=BX) hR (xs:=akg) (aC (by kernel_rfl) (by kernel_rfl) hR) aL af (n:=1000) (T:=BZ) (λs Q=>aAK s Q) (ok:=ok0) (f:=Is g0_0) h0) af)) (n:=1000) (sel:=ZD) (λv o h=>by cases h;rfl) (pre:=pre) (F:=F) (T:=λx=>aeB ok0 g0_0 (x.1.1) (x.1.2.1) (x.1.2.2.1)) (λx Q=>aGl ok0 g0_0 x Q) hF
abbrev C9:Type:=UInt64×UInt64×UInt64×UInt64×UInt64×UInt64×UInt64×UInt64×Bool×Unit
def bQ (P:Pt):C9:=(P.1.w0,P.1.w1,P.1.w2,P.1.w3,P.2.1.w0,P.2.1.w1,P.2.1.w2,P.2.1.w3,P.2.2,())
abbrev C12:Type:=UInt64×UInt64×UInt64×UInt64×UInt64×UInt64×UInt64×UInt64×UInt64×UInt64×UInt64×UInt64×Unit
def Mi (t:C9):Pt:=(⟨t.1,t.2.1,t.2.2.1,t.2.2.2.1⟩,⟨t.2.2.2.2.1,t.2.2.2.2.2.1,t.2.2.2.2.2.2.1,t.2.2.2.2.2.2.2.1⟩,t.2.2.2.2.2.2.2.2.1)
def aIB (t:C12):RI:=(⟨t.1,t.2.1,t.2.2.1,t.2.2.2.1⟩,⟨t.2.2.2.2.1,t.2.2.2.2.2.1,t.2.2.2.2.2.2.1,t.2.2.2.2.2.2.2.1⟩,⟨t.2.2.2.2.2.2.2.2.1,t.2.2.2.2.2.2.2.2.2.1,t.2.2.2.2.2.2.2.2.2.2.1,t.2.2.2.2.2.2.2.2.2.2.2.1⟩)
def aFS (w:RI):C12:=(w.1.w0,w.1.w1,w.1.w2,w.1.w3,w.2.1.w0,w.2.1.w1,w.2.1.w2,w.2.1.w3,w.2.2.w0,w.2.2.w1,w.2.2.w2,w.2.2.w3,())
def yY (p:Nat) (k:aa) (P:RI) (n:Nat) (w:RI):RI:=cond (xJ k (255-(n:Int))) (aBp p (awz p w) P) (awz p w)
def Me (s:cZ):Bool:=ap s.1.2.2.2.1&&decide (s.1.2.2.2.2.2.1=255/\s.2.1.length=4)
def akh (s:cZ):mq:=(((),s.1.2.2.2.1,(),()),(s.2.2.2.1,aFS (upto (yY (pS s.1.2.2.2.1) (elemOf s.2.1) (li (Mi s.2.2.1))) (aIB s.2.2.2.2.1) 256),()))
theorem aAM:∀ s:cZ,Me s=true->∃ m e,al BZ m s=some e/\(Is akh s).run=some e:=by
 rintro ⟨⟨⟨⟩,⟨⟩,⟨⟩,c,⟨⟩,i,⟨⟩⟩,⟨l,⟨p0,p1,p2,p3,p4,p5,p6,p7,p8,⟨⟩⟩,⟨q0,q1,q2,q3,q4,q5,q6,q7,q8,⟨⟩⟩,⟨w0,w1,w2,w3,w4,w5,w6,w7,w8,w9,w10,w11,⟨⟩⟩,⟨⟩⟩⟩ h
 simp only [Me,Bool.and_eq_true,decide_eq_true_eq] at h
 obtain ⟨hs,rfl,hl⟩:=h
 obtain ⟨k,rfl⟩:∃ a,l=lst a:=⟨elemOf l,(aS hl).symm⟩
 have:=(aP (T:=BZ) (λn w=>((((),(),(),c,(),255-(n:Int),()),(lst k,(p0,p1,p2,p3,p4,p5,p6,p7,p8,()),(q0,q1,q2,q3,q4,q5,q6,q7,q8,()),aFS w,())):cZ)) (yY (pS c) k (li (Mi (p0,p1,p2,p3,p4,p5,p6,p7,p8,()))))
  (λw=>(⟨(.exit 0,wC),(((),c,(),()),((q0,q1,q2,q3,q4,q5,q6,q7,q8,()),aFS w,()))⟩:aE)) 256 (aIB (w0,w1,w2,w3,w4,w5,w6,w7,w8,w9,w10,w11,())) (λ_ _=>True) trivial (λn w hn _=>⟨?_,trivial⟩) (λw _=> ?_)).1
 ·obtain ⟨m,hm⟩:=this
  exact ⟨m,_,hm,rfl⟩
 ·have e2:(255:Int)-(n:Int)-1=255-((n+1:Nat):Int):=by omega
  refine (OT.ao (decide_eq_true (by dsimp only;omega))).trans ((ah ?_).trans ?_)
  ·simp only [List.all_cons,List.all_nil,Bool.and_true,Bool.and_eq_true]
   exact ⟨hs,rfl⟩
  ·rcases (Bool.eq_false_or_eq_true (xJ k (255-(n:Int)))).symm with hb|hb
   ·have e:yY (pS c) k (li (Mi (p0,p1,p2,p3,p4,p5,p6,p7,p8,()))) n w=awz (pS c) w:=by unfold yY;rw [hb];rfl
    rw [e,<-e2]
    refine (OT.aq hb).trans ((ah ?_).trans rfl)
    simp only [List.all_cons,List.all_nil,Bool.and_true]
    exact aH (by omega)
   ·have e:yY (pS c) k (li (Mi (p0,p1,p2,p3,p4,p5,p6,p7,p8,()))) n w=aBp (pS c) (awz (pS c) w) (li (Mi (p0,p1,p2,p3,p4,p5,p6,p7,p8,()))):=by unfold yY;rw [hb];rfl
    rw [e,<-e2]
    refine (OT.ao hb).trans ((ah ?_).trans rfl)
    simp only [List.all_cons,List.all_nil,Bool.and_true,Bool.and_eq_true]
    exact ⟨hs,aH (by omega)⟩
 ·exact OT.aq (decide_eq_false (by dsimp only;omega))
def aI4:RI:=(⟨0,0,0,0⟩,⟨0,0,0,0⟩,⟨0,0,0,0⟩)
def aJD (p:Nat) (k:aa) (P:RI):RI:=upto (yY p k P) aI4 256
def abJ (c:Int) (k:aa):aa:=FC (pS (aH1 c 1)) k ⟨0,0,0,0⟩
def Yk (c:Int) (k:aa) (P:Pt):Pt:=cond (onB c P) (nS (pS c) (aJD (pS c) (abJ c k) (li P))) cF
theorem Ph {c:Int} (h:ap c=true):ap (aH1 c 1)=true:=by
 rcases cv h with rfl|rfl|rfl|rfl<;>decide+kernel
def ZE (_:Rd):Bool:=true
def avh (x:Rd):OT kv.Y:=.ok ⟨wB,((Yk x.1.1 x.1.2.1 x.1.2.2.1,()),())⟩
theorem aAL:ac Tryz.prog 45 (kv.aI ZE avh):=aoj Me akh aAM _ _ λx oy _ ho=>by
 rw [<-ho]
 clear ho
 obtain ⟨⟨c,k,P,⟨⟩⟩,⟨⟩⟩:=x
 show _=(OT.ok ⟨wB,((Yk c k P,()),())⟩:OT kv.Y).run
 rcases (Bool.eq_false_or_eq_true (onB c P)).symm with h1|h1
 ·have e:Yk c k P=cF:=by unfold Yk;rw [h1];rfl
  rw [e]
  exact OT.ao (b:= !onB c P) (by rw [h1];rfl)
 ·have hs:=TK h1
  have e:Yk c k P=nS (pS c) (aJD (pS c) (abJ c k) (li P)):=by unfold Yk;rw [h1];rfl
  rw [e]
  refine (OT.aq (b:= !onB c P) (by rw [h1];rfl)).trans ((OT.ao (Ph hs)).trans ((ah ?_).trans ?_))
  ·simp only [List.all_cons,List.all_nil,Bool.and_true,Bool.and_eq_true]
   refine ⟨?_,hs⟩
   refine (Bool.and_eq_true _ _).mpr ⟨hs,?_⟩
   exact decide_eq_true (p:=(255:Int)=255/\(lst (abJ c k)).length=4) ⟨rfl,rfl⟩
  ·rfl
def Fe:cn:=(kv.aI ZE avh)
theorem aeA:ac Tryz.prog 45 Fe:=aAL
theorem aez:aG Fe:=aA
def NV:Env:=ay 45 Fe R0
theorem F8:aQ Tryz.prog NV:=ag aeA Dg
theorem Hs:ax NV:=ae aez N4
theorem afJ:aW Tryz.prog te NV:=aJ follows ar F8 Hs
def iu:aw:=⟨[.val false .int],[],true,0,false⟩
abbrev Gm:Type:=((Int)×Unit)×(Unit)
def kH:az:=⟨[.val true .elem,.val false .int],[],false⟩
def Xd:SV->Option az:=λ_=>some kH
def acA (a0:Int):OT iu.Y:=
 (.br (a0==(0:Int))
 (.ok ⟨kH,(({w0:=16513537,w1:=0,w2:=0,w3:=0},((0:Int),())),())⟩)
 (.br (a0==(1:Int))
  (.ok ⟨kH,(({w0:=16521217,w1:=0,w2:=0,w3:=0},((0:Int),())),())⟩)
  (.br (a0==(2:Int))
   (.ok ⟨kH,(({w0:=11037532056220336129,w1:=2469829653914515739,w2:=0,w3:=4611686018427387904},((0:Int),())),())⟩)
   (.br (a0==(3:Int))
    (.ok ⟨kH,(({w0:=10108024940646105089,w1:=2469829653919213789,w2:=0,w3:=4611686018427387904},((0:Int),())),())⟩)
    (.ok ⟨kH,(({w0:=0,w1:=0,w2:=0,w3:=0},((20:Int),())),())⟩)))))
theorem aEN (x:Gm) (Q:iu.Y->Prop):wpf te NV av 1000 Tryz.f92 (iu.inp.inj x).tm (iu.inp.inj x).hp (fnK iu Xd Q) (λ_ _=>False)=(acA (x.1.1)).wpR Q:=by kernel_rfl
theorem alK (pre:Gm->Bool) (F:Gm->OT iu.Y) (hF:∀ (x:Gm) oy,pre x=true->(F x).run=some oy->(acA (x.1.1)).run=some oy):ac Tryz.prog 92 (iu.aI pre F):=
 aD ar F8 afJ (f:=92) (fn:=Tryz.f92) (c:=aj Tryz.f92) (by kernel_rfl) (by kernel_rfl) (by kernel_rfl) (S:=iu) (k:=0) (by kernel_rfl) (λR hR=>af) (n:=1000) (sel:=Xd) (λv o h=>by cases h;rfl) (pre:=pre) (F:=F) (T:=λx=>acA (x.1.1)) (λx Q=>aEN x Q) hF
def Xe (_:Gm):Bool:=true
def asu (x:Gm):OT iu.Y:=.br (ap x.1.1) (.ok ⟨kH,(((aY x.1.1.toNat).1,((0:Int),())),())⟩) (.ok ⟨kH,((⟨0,0,0,0⟩,((20:Int),())),())⟩)
theorem aiz:ac Tryz.prog 92 (iu.aI Xe asu):=alK _ _ λx oy _ ho=>by
 rw [<-ho]
 clear ho
 obtain ⟨⟨s,⟨⟩⟩,⟨⟩⟩:=x
 cases hs:ap s
 ·obtain ⟨h0,h1,h2,h3⟩:=u5 hs
  exact (OT.aq h0).trans ((OT.aq h1).trans ((OT.aq h2).trans ((OT.aq h3).trans (OT.aq (b:=ap s) hs).symm)))
 ·rcases cv hs with h|h|h|h
  all_goals
   have h:s=_:=h
   subst h
   rfl
def D5:cn:=(iu.aI Xe asu)
theorem acz:ac Tryz.prog 92 D5:=aiz
theorem acy:aG D5:=aA
def Nb:Env:=ay 92 D5 NV
theorem FN:aQ Tryz.prog Nb:=ag acz F8
theorem G1:ax Nb:=ae acy Hs
theorem afx:aW Tryz.prog te Nb:=aJ follows ar FN G1
def iA:aw:=⟨[.val false .int],[],true,0,false⟩
abbrev Gt:Type:=((Int)×Unit)×(Unit)
def qF:az:=⟨[.val false .int,.val false .int],[],false⟩
def Xt:SV->Option az:=λ_=>some qF
def acW (a0:Int):OT iA.Y:=
 (.br (decide (a0<(0:Int)))
 (.ok ⟨qF,(((0:Int),((20:Int),())),())⟩)
 (.br (decide ((3:Int)<a0))
  (.ok ⟨qF,(((0:Int),((20:Int),())),())⟩)
  (gd [inB a0 4,decide (Int.toNat a0+0<4)] (.ok ⟨qF,((List.getD [(9:Int),(11:Int),(32:Int),(32:Int)] (Int.toNat a0+0) (0:Int),((0:Int),())),())⟩))))
theorem aER (x:Gt) (Q:iA.Y->Prop):wpf te Nb av 1000 Tryz.f131 (iA.inp.inj x).tm (iA.inp.inj x).hp (fnK iA Xt Q) (λ_ _=>False)=(acW (x.1.1)).wpR Q:=by kernel_rfl
theorem alZ (pre:Gt->Bool) (F:Gt->OT iA.Y) (hF:∀ (x:Gt) oy,pre x=true->(F x).run=some oy->(acW (x.1.1)).run=some oy):ac Tryz.prog 131 (iA.aI pre F):=
 aD ar FN afx (f:=131) (fn:=Tryz.f131) (c:=aj Tryz.f131) (by kernel_rfl) (by kernel_rfl) (by kernel_rfl) (S:=iA) (k:=0) (by kernel_rfl) (λR hR=>af) (n:=1000) (sel:=Xt) (λv o h=>by cases h;rfl) (pre:=pre) (F:=F) (T:=λx=>acW (x.1.1)) (λx Q=>aER x Q) hF
def Xu (_:Gt):Bool:=true
def asF (x:Gt):OT iA.Y:=.br (ap x.1.1) (.ok ⟨qF,(((aY x.1.1.toNat).2.1,((0:Int),())),())⟩) (.ok ⟨qF,(((0:Int),((20:Int),())),())⟩)
theorem aiH:ac Tryz.prog 131 (iA.aI Xu asF):=alZ _ _ λx oy _ ho=>by
 rw [<-ho]
 clear ho
 obtain ⟨⟨s,⟨⟩⟩,⟨⟩⟩:=x
 rcases (Bool.eq_false_or_eq_true (ap s)).symm with hs|hs
 ·refine Eq.trans ?_ (OT.aq (b:=ap s) hs).symm
  by_cases h0:s<0
  ·exact OT.ao (decide_eq_true h0)
  ·refine (OT.aq (decide_eq_false h0)).trans (OT.ao (decide_eq_true ?_))
   show (3:Int)<s
   simp only [ap,Bool.and_eq_false_iff,decide_eq_false_iff_not] at hs
   omega
 ·rcases cv hs with h|h|h|h
  all_goals
   have h:s=_:=h
   subst h
   rfl
def Ef:cn:=(iA.aI Xu asF)
theorem acV:ac Tryz.prog 131 Ef:=aiH
theorem acU:aG Ef:=aA
def Nh:Env:=ay 131 Ef Nb
theorem FT:aQ Tryz.prog Nh:=ag acV FN
theorem G6:ax Nh:=ae acU G1
theorem afz:aW Tryz.prog te Nh:=aJ follows ar FT G6
def ki:aw:=⟨[.val false .int],[],true,0,false⟩
abbrev PO:Type:=((Int)×Unit)×(Unit)
def A0:az:=⟨[.val false .u64],[],false⟩
def Xg:SV->Option az:=λ_=>some A0
def acD (a0:Int):OT ki.Y:=
 (.br (a0==(0:Int))
 (.ok ⟨A0,(((16513537:UInt64),()),())⟩)
 (.ok ⟨A0,(((16521217:UInt64),()),())⟩))
theorem aEO (x:PO) (Q:ki.Y->Prop):wpf te Nh av 1000 Tryz.f102 (ki.inp.inj x).tm (ki.inp.inj x).hp (fnK ki Xg Q) (λ_ _=>False)=(acD (x.1.1)).wpR Q:=by kernel_rfl
theorem alP (pre:PO->Bool) (F:PO->OT ki.Y) (hF:∀ (x:PO) oy,pre x=true->(F x).run=some oy->(acD (x.1.1)).run=some oy):ac Tryz.prog 102 (ki.aI pre F):=
 aD ar FT afz (f:=102) (fn:=Tryz.f102) (c:=aj Tryz.f102) (by kernel_rfl) (by kernel_rfl) (by kernel_rfl) (S:=ki) (k:=0) (by kernel_rfl) (λR hR=>af) (n:=1000) (sel:=Xg) (λv o h=>by cases h;rfl) (pre:=pre) (F:=F) (T:=λx=>acD (x.1.1)) (λx Q=>aEO x Q) hF
def VV (s:Int):UInt64:=cond (s==0) 16513537 16521217
def Xh (_:PO):Bool:=true
def asw (x:PO):OT ki.Y:=.ok ⟨A0,((VV x.1.1,()),())⟩
theorem azg:ac Tryz.prog 102 (ki.aI Xh asw):=alP _ _ λx oy _ ho=>by
 rw [<-ho]
 clear ho
 obtain ⟨⟨s,⟨⟩⟩,⟨⟩⟩:=x
 show _=(OT.ok ⟨A0,((VV s,()),())⟩:OT ki.Y).run
 unfold VV
 rcases (Bool.eq_false_or_eq_true (s==0)).symm with h|h
 ·rw [h];exact OT.aq h
 ·rw [h];exact OT.ao h
def D7:cn:=(ki.aI Xh asw)
theorem acC:ac Tryz.prog 102 D7:=azg
theorem acB:aG D7:=aA
def FO:Env:=ay 102 D7 Nh
theorem xa:aQ Tryz.prog FO:=ag acC FT
theorem G2:ax FO:=ae acB G6
theorem Nc:aW Tryz.prog te FO:=aJ follows ar xa G2
def eH:aw:=⟨[.val true .elem,.val true .elem],[],true,0,false⟩
abbrev vr:Type:=((aa)×(aa)×Unit)×(Unit)
def oD:Shape:=⟨24,[(2,.ptr 0 0 0),(3,.ptr 1 0 0),(5,.val false .int)],[(0,.row .u64),(1,.row .u64)],0,true⟩
abbrev bf:Type:=((Unit)×(Unit)×(Int)×Unit)×((List (UInt64))×(List (UInt64))×Unit)
def j3:Shape:=⟨24,[(4,.val false .bool)],[],0,true⟩
abbrev iy:Type:=((Bool)×Unit)×(Unit)
def mY:Shape:=⟨24,[],[],0,true⟩
abbrev iz:Type:=(Unit)×(Unit)
def PX:SE->Option Shape:=fC [(0,mY)] (some j3)
def alY (a5:Int) (c0:List (UInt64)) (c1:List (UInt64)):OT (Sum bf aE):=
 let z0:Bool:=inB a5 4
 let z1:Bool:=decide (Int.toNat a5+0<List.length c0)
 let z2:Bool:=decide (Int.toNat a5+0<List.length c1)
 let z3:UInt64:=List.getD c0 (Int.toNat a5+0) (0:UInt64)
 let z4:UInt64:=List.getD c1 (Int.toNat a5+0) (0:UInt64)
 (.br (decide ((0:Int)<=a5))
 (gd [z0,z1,z0,z2] (.br (!z3==z4)
  (gd [z0,z1,z0,z2] (.ok (.inr ⟨(.ret,j3),((decide (z3<z4),()),())⟩)))
  (gd [inR (a5-(1:Int))] (.ok (.inl (((),((),(a5-(1:Int),()))),(c0,(c1,()))))))))
 (.ok (.inr ⟨(.exit 0,mY),((),())⟩)))
def gn (s:bf):OT (Sum bf aE):=alY (s.1.2.2.1) (s.2.1) (s.2.2.1)
theorem alV (s:bf) (Q:Sum bf aE->Prop):wps te FO av 1000 (aU (aj Tryz.f99) 0) (oD.inj s) (bY oD PX (Q:Sum oD.T aE->Prop))=(gn s).wpR Q:=by kernel_rfl
def oE (g0_r:bf->iy) (c0_r:bf->Bool) (g0_0:bf->iz) (s:bf):OT aE:=(.br (c0_r s) (.ok ⟨(.ret,j3),g0_r s⟩) (.ok ⟨(.exit 0,mY),g0_0 s⟩))
def kX:az:=⟨[.val false .bool],[],false⟩
def JR:SV->Option az:=λ_=>some kX
def JU (ok0:bf->Bool) (g0_r:bf->iy) (c0_r:bf->Bool) (g0_0:bf->iz) (a0:aa) (a1:aa):OT eH.Y:=
 let z0:(PUnit×PUnit×Int×PUnit)×List UInt64×List UInt64×PUnit:=(((),(),(3:Int),()),[a0.w0,a0.w1,a0.w2,a0.w3],[a1.w0,a1.w1,a1.w2,a1.w3],())
 (gd [ok0 z0] (.br (c0_r z0)
 (.ok ⟨kX,(((g0_r z0).fst.fst,()),())⟩)
 (.ok ⟨kX,((false,()),())⟩)))
theorem asD (ok0:bf->Bool) (g0_r:bf->iy) (c0_r:bf->Bool) (g0_0:bf->iz) (x:vr) (Q:eH.Y->Prop):wpf te FO (aO 0 (cl oD 0 ok0 (oE g0_r c0_r g0_0)) av) 1000 Tryz.f99 (eH.inp.inj x).tm (eH.inp.inj x).hp (fnK eH JR Q) (λ_ _=>False)=(JU ok0 g0_r c0_r g0_0 (x.1.1) (x.1.2.1)).wpR Q:=by kernel_rfl
theorem Xp (ok0:bf->Bool) (g0_r:bf->iy) (c0_r:bf->Bool) (g0_0:bf->iz) (h0:∀ s:bf,ok0 s=true->∃ m e,al (gn) m s=some e/\(oE g0_r c0_r g0_0 s).run=some e) (pre:vr->Bool) (F:vr->OT eH.Y) (hF:∀ (x:vr) oy,pre x=true->(F x).run=some oy->(JU ok0 g0_r c0_r g0_0 (x.1.1) (x.1.2.1)).run=some oy):ac Tryz.prog 99 (eH.aI pre F):=
 aD ar xa Nc (f:=99) (fn:=Tryz.f99) (c:=aj Tryz.f99) (by kernel_rfl) (by kernel_rfl) (by kernel_rfl) (S:=eH) (k:=0) (by kernel_rfl) (λR hR=>(aB (c:=(aj Tryz.f99)) (by kernel_rfl) (id:=0) (by kernel_rfl) (aR ar xa Nc (sh:=oD) hR (xs:=PX) (aC (by kernel_rfl) (by kernel_rfl) hR) aL af (n:=1000) (T:=gn) (λs Q=>alV s Q) (ok:=ok0) (f:=oE g0_r c0_r g0_0) h0) af)) (n:=1000) (sel:=JR) (λv o h=>by cases h;rfl) (pre:=pre) (F:=F) (T:=λx=>JU ok0 g0_r c0_r g0_0 (x.1.1) (x.1.2.1)) (λx Q=>asD ok0 g0_r c0_r g0_0 x Q) hF
theorem rU {x y N M:Nat} (hx:x<18446744073709551616) (hy:y<18446744073709551616) (h:¬N=M):(x+18446744073709551616*N<y+18446744073709551616*M ↔ N<M)/\¬x+18446744073709551616*N=y+18446744073709551616*M:=by
 omega
theorem QL {x y N:Nat}:(x+18446744073709551616*N<y+18446744073709551616*N ↔ x<y)/\(¬x=y->¬x+18446744073709551616*N=y+18446744073709551616*N):=by
 omega
theorem uu {n m:Nat} {x y:UInt64} (h:n<m ↔ x.toNat<y.toNat):decide (x<y)=Nat.blt n m:=by
 have h1:Nat.blt n m=true ↔ n<m:=⟨dR,λh=>Nat.ble_eq_true_of_le h⟩
 rw [Bool.eq_iff_iff,decide_eq_true_iff,h1,h,UInt64.lt_iff_toNat_lt]
theorem EI {x y:UInt64} (h:¬x=y):¬x.toNat=y.toNat:=λe=>h (UInt64.toNat_inj.1 e)
def dQ (a b:aa) (i:Int):bf:=(((),(),i,()),(lst a,lst b,()))
theorem wH (a b:aa) (k:Nat) (hk:k<4) (h:(lst a).getD k 0=(lst b).getD k 0):(gn (dQ a b (k:Int))).run=some (.inl (dQ a b ((k:Int)-1))):=by
 refine (OT.ao (decide_eq_true (by dsimp only [dQ];omega))).trans ((ah ?_).trans ((OT.aq ?_).trans ((ah ?_).trans rfl)))
 ·simp only [dQ,Int.toNat_natCast,Nat.add_zero,cK,List.all_cons,List.all_nil,Bool.and_true,Bool.and_eq_true]
  exact ⟨aN (by omega),decide_eq_true hk,aN (by omega),decide_eq_true hk⟩
 ·simp only [dQ,Int.toNat_natCast,Nat.add_zero,h,beq_self_eq_true,Bool.not_true]
 ·simp only [dQ,List.all_cons,List.all_nil,Bool.and_true]
  exact aH (by omega)
theorem nB (a b:aa) (k:Nat) (hk:k<4) (h:¬(lst a).getD k 0=(lst b).getD k 0):(gn (dQ a b (k:Int))).run=some (.inr ⟨(.ret,j3),((decide ((lst a).getD k 0<(lst b).getD k 0),()),())⟩):=by
 refine (OT.ao (decide_eq_true (by dsimp only [dQ];omega))).trans ((ah ?_).trans ((OT.ao ?_).trans ((ah ?_).trans ?_)))
 ·simp only [dQ,Int.toNat_natCast,Nat.add_zero,cK,List.all_cons,List.all_nil,Bool.and_true,Bool.and_eq_true]
  exact ⟨aN (by omega),decide_eq_true hk,aN (by omega),decide_eq_true hk⟩
 ·simp only [dQ,Int.toNat_natCast,Nat.add_zero,beq_eq_false_iff_ne.2 h,Bool.not_false]
 ·simp only [dQ,Int.toNat_natCast,Nat.add_zero,cK,List.all_cons,List.all_nil,Bool.and_true,Bool.and_eq_true]
  exact ⟨aN (by omega),decide_eq_true hk,aN (by omega),decide_eq_true hk⟩
 ·simp only [dQ,Int.toNat_natCast,Nat.add_zero]
  rfl
def JT (s:bf):Bool:=decide (s.1.2.2.1=3/\s.2.1.length=4/\s.2.2.1.length=4)
def Ec (s:bf):iy:=((Nat.blt (elemOf s.2.1).nat (elemOf s.2.2.1).nat,()),())
def lU (s:bf):Bool:= !eqE (elemOf s.2.1) (elemOf s.2.2.1)
def Ed (_:bf):iz:=((),())
theorem B9 {a b:aa} (h:¬a=b) {r:Bool} (hr:r=Nat.blt a.nat b.nat) (hm:∃ m,al gn m (dQ a b 3)=some ⟨(.ret,j3),((r,()),())⟩):
 ∃ m e,al gn m (dQ a b 3)=some e/\(oE Ec lU Ed (dQ a b 3)).run=some e:=by
 obtain ⟨m,hm⟩:=hm
 refine ⟨m,_,hm,?_⟩
 have hc:lU (dQ a b 3)=true:=by
  show (!eqE a b)=true
  rw [Bool.eq_false_iff.2 λe=>h (zg.1 e)]
  rfl
 subst hr
 exact OT.ao hc
theorem alX:∀ s:bf,JT s=true->∃ m e,al gn m s=some e/\(oE Ec lU Ed s).run=some e:=by
 rintro ⟨⟨⟨⟩,⟨⟩,i,⟨⟩⟩,⟨l1,l2,⟨⟩⟩⟩ h
 have h':=of_decide_eq_true h
 dsimp only at h'
 obtain ⟨rfl,h1,h2⟩:=h'
 obtain ⟨a,rfl⟩:∃ a,l1=lst a:=⟨elemOf l1,(aS h1).symm⟩
 obtain ⟨b,rfl⟩:∃ a,l2=lst a:=⟨elemOf l2,(aS h2).symm⟩
 have ha0:=a.w0.toNat_lt
 have hb0:=b.w0.toNat_lt
 have ha1:=a.w1.toNat_lt
 have hb1:=b.w1.toNat_lt
 have ha2:=a.w2.toNat_lt
 have hb2:=b.w2.toNat_lt
 by_cases h3:a.w3=b.w3
 ·have s3:=wH a b 3 (by omega) h3
  by_cases h2:a.w2=b.w2
  ·have s2:=wH a b 2 (by omega) h2
   by_cases h1:a.w1=b.w1
   ·have s1:=wH a b 1 (by omega) h1
    by_cases h0:a.w0=b.w0
    ·have s0:=wH a b 0 (by omega) h0
     have e:a=b:=by cases a;cases b;simp_all
     have sx:(gn (dQ a b (((0:Nat):Int)-1))).run=some (.inr ⟨(.exit 0,mY),((),())⟩):=OT.aq (decide_eq_false (by dsimp only [dQ];omega))
     refine ⟨_,_,aF s3 (aF s2 (aF s1 (aF s0 (aM sx)))),?_⟩
     have hc:lU (((),(),3,()),(lst a,lst b,()))=false:=by
      show (!eqE a b)=false
      rw [e,aj8]
      rfl
     exact OT.aq hc
    ·refine B9 (λe=>h0 (by rw [e])) (uu ?_) ⟨_,aF s3 (aF s2 (aF s1 (aM (nB a b 0 (by omega) h0))))⟩
     show a.nat<b.nat ↔ a.w0.toNat<b.w0.toNat
     unfold Sx.aa.nat
     rw [h3,h2,h1]
     exact QL.1
   ·refine B9 (λe=>h1 (by rw [e])) (uu ?_) ⟨_,aF s3 (aF s2 (aM (nB a b 1 (by omega) h1)))⟩
    show a.nat<b.nat ↔ a.w1.toNat<b.w1.toNat
    unfold Sx.aa.nat
    rw [h3,h2]
    have k:=QL (x:=a.w1.toNat) (y:=b.w1.toNat) (N:=b.w2.toNat+18446744073709551616*b.w3.toNat)
    exact (rU ha0 hb0 (k.2 (EI h1))).1.trans k.1
  ·refine B9 (λe=>h2 (by rw [e])) (uu ?_) ⟨_,aF s3 (aM (nB a b 2 (by omega) h2))⟩
   show a.nat<b.nat ↔ a.w2.toNat<b.w2.toNat
   unfold Sx.aa.nat
   rw [h3]
   have k:=QL (x:=a.w2.toNat) (y:=b.w2.toNat) (N:=b.w3.toNat)
   have k1:=rU ha1 hb1 (k.2 (EI h2))
   exact (rU ha0 hb0 k1.2).1.trans (k1.1.trans k.1)
 ·refine B9 (λe=>h3 (by rw [e])) (uu ?_) ⟨_,aM (nB a b 3 (by omega) h3)⟩
  show a.nat<b.nat ↔ a.w3.toNat<b.w3.toNat
  unfold Sx.aa.nat
  have k2:=rU ha2 hb2 (EI h3)
  have k1:=rU ha1 hb1 k2.2
  exact (rU ha0 hb0 k1.2).1.trans (k1.1.trans k2.1)
def JS (_:vr):Bool:=true
def Xq (x:vr):OT eH.Y:=.ok ⟨kX,((Nat.blt x.1.1.nat x.1.2.1.nat,()),())⟩
theorem alW:ac Tryz.prog 99 (eH.aI JS Xq):=Xp JT Ec lU Ed alX _ _ λx oy _ ho=>by
 rw [<-ho]
 clear ho
 obtain ⟨⟨a,b,⟨⟩⟩,⟨⟩⟩:=x
 refine (ah ?_).trans ?_
 ·simp only [List.all_cons,List.all_nil,Bool.and_true]
  exact decide_eq_true ⟨rfl,rfl,rfl⟩
 ·rcases (Bool.eq_false_or_eq_true (eqE a b)).symm with h|h
  ·have hc:lU (((),(),3,()),(lst a,lst b,()))=true:=by
    show (!eqE a b)=true
    rw [h]
    rfl
   exact OT.ao hc
  ·have hc:lU (((),(),3,()),(lst a,lst b,()))=false:=by
    show (!eqE a b)=false
    rw [h]
    rfl
   refine (OT.aq hc).trans ?_
   have e:Nat.blt a.nat b.nat=false:=by
    rw [zg.1 h]
    cases hb:Nat.blt b.nat b.nat
    ·rfl
    ·exact absurd (dR hb) (Nat.lt_irrefl _)
   show (OT.ok ⟨kX,((false,()),())⟩:OT eH.Y).run=(OT.ok ⟨kX,((Nat.blt a.nat b.nat,()),())⟩:OT eH.Y).run
   rw [e]
def sS:cn:=(eH.aI JS Xq)
theorem Td:ac Tryz.prog 99 sS:=alW
theorem Tc:aG sS:=aA
def pN:Env:=ay 99 sS FO
theorem nF:aQ Tryz.prog pN:=ag Td xa
theorem xP:ax pN:=ae Tc G2
theorem CJ:aW Tryz.prog te pN:=aJ follows ar nF xP
def fO:aw:=⟨[.val true .elem,.val true .elem],[],true,0,false⟩
abbrev vn:Type:=((aa)×(aa)×Unit)×(Unit)
def ot:Shape:=⟨39,[(2,.ptr 0 0 0),(3,.ptr 1 0 0),(4,.ptr 2 0 0),(5,.ptr 3 0 0),(6,.val false .u64),(7,.val false .int)],[(0,.row .u64),(1,.row .u64),(2,.row .u64),(3,.row .u64)],0,true⟩
abbrev bV:Type:=((Unit)×(Unit)×(Unit)×(Unit)×(UInt64)×(Int)×Unit)×((List (UInt64))×(List (UInt64))×(List (UInt64))×(List (UInt64))×Unit)
def mV:Shape:=⟨39,[(4,.ptr 0 0 0),(5,.ptr 1 0 0)],[(0,.row .u64),(1,.row .u64)],0,true⟩
abbrev iv:Type:=((Unit)×(Unit)×Unit)×((List (UInt64))×(List (UInt64))×Unit)
def PM:SE->Option Shape:=fC [(0,mV)] none
def alO (a6:UInt64) (a7:Int) (c0:List (UInt64)) (c1:List (UInt64)) (c2:List (UInt64)) (c3:List (UInt64)):OT (Sum bV aE):=
 let z0:Bool:=inB a7 4
 let z1:Bool:=decide (Int.toNat a7+0<List.length c0)
 let z2:Bool:=decide (Int.toNat a7+0<List.length c1)
 let z3:UInt64:=List.getD c0 (Int.toNat a7+0) (0:UInt64)
 let z4:UInt64:=List.getD c1 (Int.toNat a7+0) (0:UInt64)
 let z5:Bool:=inR (a7+(1:Int))
 let z6:UInt64:=z3-z4
 let z7:List UInt64:=List.set c3 (Int.toNat a7+0) (z6-a6)
 (.br (decide (a7<(4:Int)))
 (gd [z0,z1,z0,z2,z0,decide (Int.toNat a7+0<List.length c3),z0,z1,z0,z2] (.br (decide (z3<z4))
  (gd [z5] (.ok (.inl (((),((),((),((),((1:UInt64),(a7+(1:Int),())))))),(c0,(c1,(c2,(z7,()))))))))
  (.br (decide (z6<a6))
   (gd [z5] (.ok (.inl (((),((),((),((),((1:UInt64),(a7+(1:Int),())))))),(c0,(c1,(c2,(z7,()))))))))
   (gd [z5] (.ok (.inl (((),((),((),((),((0:UInt64),(a7+(1:Int),())))))),(c0,(c1,(c2,(z7,())))))))))))
 (.ok (.inr ⟨(.exit 0,mV),(((),((),())),(c2,(c3,())))⟩)))
def ou (s:bV):OT (Sum bV aE):=alO (s.1.2.2.2.2.1) (s.1.2.2.2.2.2.1) (s.2.1) (s.2.2.1) (s.2.2.2.1) (s.2.2.2.2.1)
theorem alL (s:bV) (Q:Sum bV aE->Prop):wps te pN av 1000 (aU (aj Tryz.f103) 0) (ot.inj s) (bY ot PM (Q:Sum ot.T aE->Prop))=(ou s).wpR Q:=by kernel_rfl
def vm (g0_0:bV->iv) (s:bV):OT aE:=(.ok ⟨(.exit 0,mV),g0_0 s⟩)
def D6:az:=⟨[.val true .elem],[],false⟩
def JG:SV->Option az:=λ_=>some D6
def JJ (ok0:bV->Bool) (g0_0:bV->iv) (a0:aa) (a1:aa):OT fO.Y:=
 let z0:(PUnit×PUnit×PUnit×PUnit×UInt64×Int×PUnit)×List UInt64×List UInt64×List UInt64×List UInt64×PUnit:=(((),(),(),(),(0:UInt64),(0:Int),()),[a0.w0,a0.w1,a0.w2,a0.w3],[a1.w0,a1.w1,a1.w2,a1.w3],[(0:UInt64),(0:UInt64),(0:UInt64),(0:UInt64)],[(0:UInt64),(0:UInt64),(0:UInt64),(0:UInt64)],())
 let z1:=(g0_0 z0).snd
 let z2:=z1.snd.fst
 let z3:=z1.fst
 let z4:List UInt64:=lay z3 z2 4 (0:UInt64)
 (gd [ok0 z0,decide (4<=List.length z2),decide ((4/1:Nat)+0<=List.length z3),decide (4<=List.length z4)] (.ok ⟨D6,(({w0:=List.getD z4 0 0,w1:=List.getD z4 1 0,w2:=List.getD z4 2 0,w3:=List.getD z4 3 0},()),())⟩))
theorem asv (ok0:bV->Bool) (g0_0:bV->iv) (x:vn) (Q:fO.Y->Prop):wpf te pN (aO 0 (cl ot 0 ok0 (vm g0_0)) av) 1000 Tryz.f103 (fO.inp.inj x).tm (fO.inp.inj x).hp (fnK fO JG Q) (λ_ _=>False)=(JJ ok0 g0_0 (x.1.1) (x.1.2.1)).wpR Q:=by kernel_rfl
theorem Xf (ok0:bV->Bool) (g0_0:bV->iv) (h0:∀ s:bV,ok0 s=true->∃ m e,al (ou) m s=some e/\(vm g0_0 s).run=some e) (pre:vn->Bool) (F:vn->OT fO.Y) (hF:∀ (x:vn) oy,pre x=true->(F x).run=some oy->(JJ ok0 g0_0 (x.1.1) (x.1.2.1)).run=some oy):ac Tryz.prog 103 (fO.aI pre F):=
 aD ar nF CJ (f:=103) (fn:=Tryz.f103) (c:=aj Tryz.f103) (by kernel_rfl) (by kernel_rfl) (by kernel_rfl) (S:=fO) (k:=0) (by kernel_rfl) (λR hR=>(aB (c:=(aj Tryz.f103)) (by kernel_rfl) (id:=0) (by kernel_rfl) (aR ar nF CJ (sh:=ot) hR (xs:=PM) (aC (by kernel_rfl) (by kernel_rfl) hR) aL af (n:=1000) (T:=ou) (λs Q=>alL s Q) (ok:=ok0) (f:=vm g0_0) h0) af)) (n:=1000) (sel:=JG) (λv o h=>by cases h;rfl) (pre:=pre) (F:=F) (T:=λx=>JJ ok0 g0_0 (x.1.1) (x.1.2.1)) (λx Q=>asv ok0 g0_0 x Q) hF
theorem QE {x y c:UInt64} (hc:c.toNat<=1):x-y-c=qf x y c:=by
 have hx:=x.toNat_lt
 have hy:=y.toNat_lt
 unfold qf
 rw [<-UInt64.toNat_inj,UInt64.toNat_sub,UInt64.toNat_sub,UInt64.toNat_ofNat']
 omega
theorem ajg {x y c:UInt64} (h:x<y):VU x y c=1:=by
 have h:=UInt64.lt_iff_toNat_lt.1 h
 rw [<-UInt64.toNat_inj,Ai,if_pos (by omega)]
 rfl
theorem ajf {x y c:UInt64} (h:¬x<y) (hc:x-y<c):VU x y c=1:=by
 have hx:=x.toNat_lt
 have h:¬x.toNat<y.toNat:=λe=>h (UInt64.lt_iff_toNat_lt.2 e)
 have hc:=UInt64.lt_iff_toNat_lt.1 hc
 rw [UInt64.toNat_sub] at hc
 rw [<-UInt64.toNat_inj,Ai,if_pos (by omega)]
 rfl
theorem aje {x y c:UInt64} (h:¬x<y) (hc:¬x-y<c):VU x y c=0:=by
 have hx:=x.toNat_lt
 have h:¬x.toNat<y.toNat:=λe=>h (UInt64.lt_iff_toNat_lt.2 e)
 have hc:¬(x-y).toNat<c.toNat:=λe=>hc (UInt64.lt_iff_toNat_lt.2 e)
 rw [UInt64.toNat_sub] at hc
 rw [<-UInt64.toNat_inj,Ai,if_neg (by omega)]
 rfl
def JI (s:bV):Bool:=decide (s.1.2.2.2.2.1=0/\s.1.2.2.2.2.2.1=0/\s.2.1.length=4/\s.2.2.1.length=4/\s.2.2.2.2.1= [0,0,0,0])
def PN (s:bV):iv:=(((),(),()),(s.2.2.2.1,(upto (xq s.2.1 s.2.2.1) ([0,0,0,0],0) 4).1,()))
theorem alN:∀ s:bV,JI s=true->∃ m e,al ou m s=some e/\(vm PN s).run=some e:=by
 rintro ⟨⟨⟨⟩,⟨⟩,⟨⟩,⟨⟩,c,i,⟨⟩⟩,⟨c0,c1,c2,c3,⟨⟩⟩⟩ h
 have h':=of_decide_eq_true h
 dsimp only at h'
 obtain ⟨rfl,rfl,h0,h1,rfl⟩:=h'
 have:=(aP (T:=ou) (λk s=>((((),(),(),(),s.2,(k:Int),()),(c0,c1,c2,s.1,())):bV)) (xq c0 c1)
  (λs=>(⟨(.exit 0,mV),(((),(),()),(c2,s.1,()))⟩:aE)) 4 ([0,0,0,0],0) (λ_ s=>s.1.length=4/\s.2.toNat<=1) ⟨rfl,by decide⟩ (λk s hk hs=>⟨?_,?_⟩) (λs hs=> ?_)).1
 ·obtain ⟨m,hm⟩:=this
  exact ⟨m,_,hm,rfl⟩
 ·obtain ⟨o,c⟩:=s
  dsimp only at hs
  refine (OT.ao (decide_eq_true (by dsimp only;omega))).trans ((ah ?_).trans ?_)
  ·simp only [Int.toNat_natCast,Nat.add_zero,h0,h1,hs.1,List.all_cons,List.all_nil,Bool.and_true,Bool.and_eq_true]
   exact ⟨aN (by omega),decide_eq_true (by omega),aN (by omega),decide_eq_true (by omega),aN (by omega),decide_eq_true (by omega),aN (by omega),decide_eq_true (by omega),aN (by omega),decide_eq_true (by omega)⟩
  ·have hi:∀ z,(gd [inR ((k:Int)+1)] z:OT (Sum bV aE)).run=z.run:=λz=>ah (by simp only [List.all_cons,List.all_nil,Bool.and_true];exact aH (by omega))
   have hw:=QE (x:=c0.getD k 0) (y:=c1.getD k 0) hs.2
   by_cases hx:c0.getD k 0<c1.getD k 0
   ·have hk1:=ajg (c:=c) hx
    refine (OT.ao (decide_eq_true ?_)).trans ((hi _).trans ?_)
    ·simp only [Int.toNat_natCast,Nat.add_zero];exact hx
    ·simp only [OT.cP,Int.toNat_natCast,Nat.add_zero,xq,hw,hk1]
     rfl
   ·refine (OT.aq (decide_eq_false ?_)).trans ?_
    ·simp only [Int.toNat_natCast,Nat.add_zero];exact hx
    ·by_cases hd:c0.getD k 0-c1.getD k 0<c
     ·have hk2:=ajf hx hd
      refine (OT.ao (decide_eq_true ?_)).trans ((hi _).trans ?_)
      ·simp only [Int.toNat_natCast,Nat.add_zero];exact hd
      ·simp only [OT.cP,Int.toNat_natCast,Nat.add_zero,xq,hw,hk2]
       rfl
     ·have hk3:=aje hx hd
      refine (OT.aq (decide_eq_false ?_)).trans ((hi _).trans ?_)
      ·simp only [Int.toNat_natCast,Nat.add_zero];exact hd
      ·simp only [OT.cP,Int.toNat_natCast,Nat.add_zero,xq,hw,hk3]
       rfl
 ·exact ⟨by simp only [xq,List.length_set];exact hs.1,yj⟩
 ·exact OT.aq (decide_eq_false (by dsimp only;omega))
def JH (_:vn):Bool:=true
def JK (x:vn):OT fO.Y:=.ok ⟨D6,(((eu x.1.1 x.1.2.1).1,()),())⟩
theorem alM:ac Tryz.prog 103 (fO.aI JH JK):=Xf JI PN alN _ _ λx oy hp ho=>by
 rw [<-ho]
 clear ho
 obtain ⟨⟨a,b,⟨⟩⟩,⟨⟩⟩:=x
 obtain ⟨_,hw⟩:=DD a b
 refine (ah ?_).trans ?_
 ·simp only [List.all_cons,List.all_nil,Bool.and_true,Bool.and_eq_true]
  exact ⟨rfl,rfl,rfl,rfl⟩
 ·simp only [JK,hw]
  rfl
def sO:cn:=(fO.aI JH JK)
theorem S4:ac Tryz.prog 103 sO:=alM
theorem S3:aG sO:=aA
def pL:Env:=ay 103 sO pN
theorem nE:aQ Tryz.prog pL:=ag S4 nF
theorem xN:ax pL:=ae S3 xP
theorem CH:aW Tryz.prog te pL:=aJ follows ar nE xN
def ir:aw:=⟨[.val true .elem,.val true .elem],[],true,0,false⟩
abbrev D1:Type:=((aa)×(aa)×Unit)×(Unit)
def sL:Shape:=⟨39,[(2,.ptr 0 0 0),(3,.ptr 1 0 0),(4,.ptr 2 0 0),(5,.ptr 3 0 0),(6,.val false .u64),(7,.val false .int)],[(0,.row .u64),(1,.row .u64),(2,.row .u64),(3,.row .u64)],0,true⟩
abbrev cu:Type:=((Unit)×(Unit)×(Unit)×(Unit)×(UInt64)×(Int)×Unit)×((List (UInt64))×(List (UInt64))×(List (UInt64))×(List (UInt64))×Unit)
def qt:Shape:=⟨39,[(4,.ptr 0 0 0),(5,.ptr 1 0 0)],[(0,.row .u64),(1,.row .u64)],0,true⟩
abbrev j1:Type:=((Unit)×(Unit)×Unit)×((List (UInt64))×(List (UInt64))×Unit)
def W3:SE->Option Shape:=fC [(0,qt)] none
def asj (a6:UInt64) (a7:Int) (c0:List (UInt64)) (c1:List (UInt64)) (c2:List (UInt64)) (c3:List (UInt64)):OT (Sum cu aE):=
 let z0:Bool:=inB a7 4
 let z1:Bool:=decide (Int.toNat a7+0<List.length c0)
 let z2:UInt64:=List.getD c0 (Int.toNat a7+0) (0:UInt64)
 let z3:UInt64:=z2+List.getD c1 (Int.toNat a7+0) (0:UInt64)
 let z4:Bool:=inR (a7+(1:Int))
 let z5:List UInt64:=List.set c3 (Int.toNat a7+0) (z3+a6)
 (.br (decide (a7<(4:Int)))
 (gd [z0,z1,z0,decide (Int.toNat a7+0<List.length c1),z0,decide (Int.toNat a7+0<List.length c3),z0,z1] (.br (decide (z3<z2))
  (gd [z4] (.ok (.inl (((),((),((),((),((1:UInt64),(a7+(1:Int),())))))),(c0,(c1,(c2,(z5,()))))))))
  (gd [z0,decide (Int.toNat a7+0<List.length z5)] (.br (decide (List.getD z5 (Int.toNat a7+0) (0:UInt64)<z3))
   (gd [z4] (.ok (.inl (((),((),((),((),((1:UInt64),(a7+(1:Int),())))))),(c0,(c1,(c2,(z5,()))))))))
   (gd [z4] (.ok (.inl (((),((),((),((),((0:UInt64),(a7+(1:Int),())))))),(c0,(c1,(c2,(z5,()))))))))))))
 (.ok (.inr ⟨(.exit 0,qt),(((),((),())),(c2,(c3,())))⟩)))
def sM (s:cu):OT (Sum cu aE):=asj (s.1.2.2.2.2.1) (s.1.2.2.2.2.2.1) (s.2.1) (s.2.2.1) (s.2.2.2.1) (s.2.2.2.2.1)
theorem asg (s:cu) (Q:Sum cu aE->Prop):wps te pL av 1000 (aU (aj Tryz.f133) 0) (sL.inj s) (bY sL W3 (Q:Sum sL.T aE->Prop))=(sM s).wpR Q:=by kernel_rfl
def AW (g0_0:cu->j1) (s:cu):OT aE:=(.ok ⟨(.exit 0,qt),g0_0 s⟩)
def Jy:az:=⟨[.val true .elem],[],false⟩
def PF:SV->Option az:=λ_=>some Jy
def SS (ok0:cu->Bool) (g0_0:cu->j1) (a0:aa) (a1:aa):OT ir.Y:=
 let z0:(PUnit×PUnit×PUnit×PUnit×UInt64×Int×PUnit)×List UInt64×List UInt64×List UInt64×List UInt64×PUnit:=(((),(),(),(),(0:UInt64),(0:Int),()),[a0.w0,a0.w1,a0.w2,a0.w3],[a1.w0,a1.w1,a1.w2,a1.w3],[(0:UInt64),(0:UInt64),(0:UInt64),(0:UInt64)],[(0:UInt64),(0:UInt64),(0:UInt64),(0:UInt64)],())
 let z1:=(g0_0 z0).snd
 let z2:=z1.snd.fst
 let z3:=z1.fst
 let z4:List UInt64:=lay z3 z2 4 (0:UInt64)
 (gd [ok0 z0,decide (4<=List.length z2),decide ((4/1:Nat)+0<=List.length z3),decide (4<=List.length z4)] (.ok ⟨Jy,(({w0:=List.getD z4 0 0,w1:=List.getD z4 1 0,w2:=List.getD z4 2 0,w3:=List.getD z4 3 0},()),())⟩))
theorem aza (ok0:cu->Bool) (g0_0:cu->j1) (x:D1) (Q:ir.Y->Prop):wpf te pL (aO 0 (cl sL 0 ok0 (AW g0_0)) av) 1000 Tryz.f133 (ir.inp.inj x).tm (ir.inp.inj x).hp (fnK ir PF Q) (λ_ _=>False)=(SS ok0 g0_0 (x.1.1) (x.1.2.1)).wpR Q:=by kernel_rfl
theorem ach (ok0:cu->Bool) (g0_0:cu->j1) (h0:∀ s:cu,ok0 s=true->∃ m e,al (sM) m s=some e/\(AW g0_0 s).run=some e) (pre:D1->Bool) (F:D1->OT ir.Y) (hF:∀ (x:D1) oy,pre x=true->(F x).run=some oy->(SS ok0 g0_0 (x.1.1) (x.1.2.1)).run=some oy):ac Tryz.prog 133 (ir.aI pre F):=
 aD ar nE CH (f:=133) (fn:=Tryz.f133) (c:=aj Tryz.f133) (by kernel_rfl) (by kernel_rfl) (by kernel_rfl) (S:=ir) (k:=0) (by kernel_rfl) (λR hR=>(aB (c:=(aj Tryz.f133)) (by kernel_rfl) (id:=0) (by kernel_rfl) (aR ar nE CH (sh:=sL) hR (xs:=W3) (aC (by kernel_rfl) (by kernel_rfl) hR) aL af (n:=1000) (T:=sM) (λs Q=>asg s Q) (ok:=ok0) (f:=AW g0_0) h0) af)) (n:=1000) (sel:=PF) (λv o h=>by cases h;rfl) (pre:=pre) (F:=F) (T:=λx=>SS ok0 g0_0 (x.1.1) (x.1.2.1)) (λx Q=>aza ok0 g0_0 x Q) hF
theorem as0 {x y c:UInt64}:x+y+c=xv x y c:=by
 have hx:=x.toNat_lt
 have hy:=y.toNat_lt
 unfold xv
 rw [<-UInt64.toNat_inj,UInt64.toNat_add,UInt64.toNat_add,UInt64.toNat_ofNat']
 omega
theorem Vt {x y c:UInt64} (hc:c.toNat<=1):(zX x y c).toNat=(x.toNat+y.toNat+c.toNat)/18446744073709551616:=by
 have hx:=x.toNat_lt
 have hy:=y.toNat_lt
 unfold zX
 rw [UInt64.toNat_ofNat']
 omega
theorem aE0 {x y c:UInt64} (hc:c.toNat<=1) (h:x+y<x):zX x y c=1:=by
 have hx:=x.toNat_lt
 have hy:=y.toNat_lt
 have h:=UInt64.lt_iff_toNat_lt.1 h
 rw [UInt64.toNat_add] at h
 rw [<-UInt64.toNat_inj,Vt hc,show (1:UInt64).toNat=1 from rfl]
 omega
theorem aEZ {x y c:UInt64} (hc:c.toNat<=1) (h:¬x+y<x) (h2:x+y+c<x+y):zX x y c=1:=by
 have hx:=x.toNat_lt
 have hy:=y.toNat_lt
 have h:¬(x+y).toNat<x.toNat:=λe=>h (UInt64.lt_iff_toNat_lt.2 e)
 have h2:=UInt64.lt_iff_toNat_lt.1 h2
 rw [UInt64.toNat_add] at h
 rw [UInt64.toNat_add,UInt64.toNat_add] at h2
 rw [<-UInt64.toNat_inj,Vt hc,show (1:UInt64).toNat=1 from rfl]
 omega
theorem aEY {x y c:UInt64} (hc:c.toNat<=1) (h:¬x+y<x) (h2:¬x+y+c<x+y):zX x y c=0:=by
 have hx:=x.toNat_lt
 have hy:=y.toNat_lt
 have h:¬(x+y).toNat<x.toNat:=λe=>h (UInt64.lt_iff_toNat_lt.2 e)
 have h2:¬(x+y+c).toNat<(x+y).toNat:=λe=>h2 (UInt64.lt_iff_toNat_lt.2 e)
 rw [UInt64.toNat_add] at h
 rw [UInt64.toNat_add,UInt64.toNat_add] at h2
 rw [<-UInt64.toNat_inj,Vt hc,show (0:UInt64).toNat=0 from rfl]
 omega
def PH (s:cu):Bool:=decide (s.1.2.2.2.2.1=0/\s.1.2.2.2.2.2.1=0/\s.2.1.length=4/\s.2.2.1.length=4/\s.2.2.2.2.1= [0,0,0,0])
def W6 (s:cu):j1:=(((),(),()),(s.2.2.2.1,(upto (O0 s.2.1 s.2.2.1) ([0,0,0,0],0) 4).1,()))
theorem asi:∀ s:cu,PH s=true->∃ m e,al sM m s=some e/\(AW W6 s).run=some e:=by
 rintro ⟨⟨⟨⟩,⟨⟩,⟨⟩,⟨⟩,c,i,⟨⟩⟩,⟨c0,c1,c2,c3,⟨⟩⟩⟩ h
 have h':=of_decide_eq_true h
 dsimp only at h'
 obtain ⟨rfl,rfl,h0,h1,rfl⟩:=h'
 have:=(aP (T:=sM) (λk s=>((((),(),(),(),s.2,(k:Int),()),(c0,c1,c2,s.1,())):cu)) (O0 c0 c1)
  (λs=>(⟨(.exit 0,qt),(((),(),()),(c2,s.1,()))⟩:aE)) 4 ([0,0,0,0],0) (λ_ s=>s.1.length=4/\s.2.toNat<=1) ⟨rfl,by decide⟩ (λk s hk hs=>⟨?_,?_⟩) (λs hs=> ?_)).1
 ·obtain ⟨m,hm⟩:=this
  exact ⟨m,_,hm,rfl⟩
 ·obtain ⟨o,c⟩:=s
  dsimp only at hs
  refine (OT.ao (decide_eq_true (by dsimp only;omega))).trans ((ah ?_).trans ?_)
  ·simp only [Int.toNat_natCast,Nat.add_zero,h0,h1,hs.1,List.all_cons,List.all_nil,Bool.and_true,Bool.and_eq_true]
   exact ⟨aN (by omega),decide_eq_true (by omega),aN (by omega),decide_eq_true (by omega),aN (by omega),decide_eq_true (by omega),aN (by omega),decide_eq_true (by omega)⟩
  ·have hi:∀ z,(gd [inR ((k:Int)+1)] z:OT (Sum cu aE)).run=z.run:=λz=>ah (by simp only [List.all_cons,List.all_nil,Bool.and_true];exact aH (by omega))
   have hw:=as0 (x:=c0.getD k 0) (y:=c1.getD k 0) (c:=c)
   by_cases hx:c0.getD k 0+c1.getD k 0<c0.getD k 0
   ·have hk1:=aE0 hs.2 hx
    refine (OT.ao (decide_eq_true ?_)).trans ((hi _).trans ?_)
    ·simp only [Int.toNat_natCast,Nat.add_zero];exact hx
    ·simp only [OT.cP,Int.toNat_natCast,Nat.add_zero,O0,hw,hk1]
     rfl
   ·have hs2:∀ v,(o.set k v).getD k 0=v:=λv=>by
     rw [List.getD_eq_getElem?_getD,List.getElem?_set_self (by omega)]
     rfl
    refine (OT.aq (decide_eq_false ?_)).trans ((ah ?_).trans ?_)
    ·simp only [Int.toNat_natCast,Nat.add_zero];exact hx
    ·simp only [Int.toNat_natCast,Nat.add_zero,List.length_set,hs.1,List.all_cons,List.all_nil,Bool.and_true,Bool.and_eq_true]
     exact ⟨aN (by omega),decide_eq_true (by omega)⟩
    ·by_cases hd:c0.getD k 0+c1.getD k 0+c<c0.getD k 0+c1.getD k 0
     ·have hk2:=aEZ hs.2 hx hd
      refine (OT.ao (decide_eq_true ?_)).trans ((hi _).trans ?_)
      ·simp only [Int.toNat_natCast,Nat.add_zero,hs2];exact hd
      ·simp only [OT.cP,Int.toNat_natCast,Nat.add_zero,O0,hw,hk2]
       rfl
     ·have hk3:=aEY hs.2 hx hd
      refine (OT.aq (decide_eq_false ?_)).trans ((hi _).trans ?_)
      ·simp only [Int.toNat_natCast,Nat.add_zero,hs2];exact hd
      ·simp only [OT.cP,Int.toNat_natCast,Nat.add_zero,O0,hw,hk3]
       rfl
 ·exact ⟨by simp only [O0,List.length_set];exact hs.1,FD hs.2⟩
 ·exact OT.aq (decide_eq_false (by dsimp only;omega))
def PG (_:D1):Bool:=true
def SU (x:D1):OT ir.Y:=.ok ⟨Jy,(((qa x.1.1 x.1.2.1).1,()),())⟩
theorem ash:ac Tryz.prog 133 (ir.aI PG SU):=ach PH W6 asi _ _ λx oy hp ho=>by
 rw [<-ho]
 clear ho
 obtain ⟨⟨a,b,⟨⟩⟩,⟨⟩⟩:=x
 obtain ⟨_,hw⟩:=O6 a b
 refine (ah ?_).trans ?_
 ·simp only [List.all_cons,List.all_nil,Bool.and_true,Bool.and_eq_true]
  exact ⟨rfl,rfl,rfl,rfl⟩
 ·simp only [SU,hw]
  rfl
def yA:cn:=(ir.aI PG SU)
theorem W5:ac Tryz.prog 133 yA:=ash
theorem W4:aG yA:=aA
def rA:Env:=ay 133 yA pL
theorem mK:aQ Tryz.prog rA:=ag W5 nE
theorem CG:ax rA:=ae W4 xN
theorem uC:aW Tryz.prog te rA:=aJ follows ar mK CG
def lI:aw:=⟨[.val false .int,.val true .elem],[],true,0,false⟩
abbrev W7:Type:=((Int)×(aa)×Unit)×(Unit)
def JB:Shape:=⟨60,[(3,.ptr 0 0 0),(4,.ptr 1 0 0),(5,.val false .u64),(6,.val false .u64),(7,.val false .int)],[(0,.row .u64),(1,.row .u64)],0,true⟩
abbrev dK:Type:=((Unit)×(Unit)×(UInt64)×(UInt64)×(Int)×Unit)×((List (UInt64))×(List (UInt64))×Unit)
def AY:Shape:=⟨60,[(4,.ptr 0 0 0),(6,.val false .u64)],[(0,.row .u64)],0,true⟩
abbrev om:Type:=((Unit)×(UInt64)×Unit)×((List (UInt64))×Unit)
def aso:SE->Option Shape:=fC [(0,AY)] none
def aEK (a5:UInt64) (a6:UInt64) (a7:Int) (c0:List (UInt64)) (c1:List (UInt64)):OT (Sum dK aE):=
 let z0:Bool:=inB a7 4
 let z1:Bool:=decide (Int.toNat a7+0<List.length c0)
 let z2:Bool:= !a5==(0:UInt64)
 let z3:UInt64:=List.getD c0 (Int.toNat a7+0) (0:UInt64)
 (.br (decide ((0:Int)<=a7))
 (gd [z0,z1,z2,z0,z1,z2,inR (a7-(1:Int))] (.ok (.inl (((),((),(a5,((bR ((bR a6 (32:Int)+bk z3 (32:Int))%a5) (32:Int)+(z3&&&(4294967295:UInt64)))%a5,(a7-(1:Int),()))))),(c0,(c1,()))))))
 (.ok (.inr ⟨(.exit 0,AY),(((),(a6,())),(c1,()))⟩)))
def JD (s:dK):OT (Sum dK aE):=aEK (s.1.2.2.1) (s.1.2.2.2.1) (s.1.2.2.2.2.1) (s.2.1) (s.2.2.1)
theorem aEG (s:dK) (Q:Sum dK aE->Prop):wps te rA av 1000 (aU (aj Tryz.f62) 0) (JB.inj s) (bY JB aso (Q:Sum JB.T aE->Prop))=(JD s).wpR Q:=by kernel_rfl
def SY (g0_0:dK->om) (s:dK):OT aE:=(.ok ⟨(.exit 0,AY),g0_0 s⟩)
def JA:Shape:=⟨60,[(3,.ptr 0 0 0),(4,.ptr 1 0 0),(8,.ptr 2 0 0)],[(0,.row .u64),(1,.row .u64),(2,.row .u64)],0,true⟩
abbrev dY:Type:=((Unit)×(Unit)×(Unit)×Unit)×((List (UInt64))×(List (UInt64))×(List (UInt64))×Unit)
def AX:Shape:=⟨60,[(3,.ptr 0 0 0),(4,.ptr 1 0 0)],[(0,.row .u64),(1,.row .u64)],0,true⟩
abbrev ol:Type:=((Unit)×(Unit)×Unit)×((List (UInt64))×(List (UInt64))×Unit)
def asn:SE->Option Shape:=fC [(2,AX)] none
def aEJ (c0:List (UInt64)) (c1:List (UInt64)) (c2:List (UInt64)):OT (Sum dY aE):=
 let z0:Nat:=List.length c0
 let z1:Bool:=decide (4<=z0)
 let z2:Bool:=decide (4<=List.length c2)
 let z3:aa:= {w0:=List.getD c0 0 0,w1:=List.getD c0 1 0,w2:=List.getD c0 2 0,w3:=List.getD c0 3 0}
 let z4:aa:= {w0:=List.getD c2 0 0,w1:=List.getD c2 1 0,w2:=List.getD c2 2 0,w3:=List.getD c2 3 0}
 let z5:=(eu z3 z4).fst
 (gd [z1,z2] (.br (!Nat.blt (aa.nat z3) (aa.nat z4))
 (gd [z1,z2,decide ((4/1:Nat)+0<=z0)] (.ok (.inl (((),((),((),()))),(List.set (List.set (List.set (List.set c0 0 z5.w0) 1 z5.w1) 2 z5.w2) 3 z5.w3,(c1,(c2,())))))))
 (.ok (.inr ⟨(.exit 2,AX),(((),((),())),(c0,(c1,())))⟩))))
def JC (s:dY):OT (Sum dY aE):=aEJ (s.2.1) (s.2.2.1) (s.2.2.2.1)
theorem aEF (s:dY) (Q:Sum dY aE->Prop):wps te rA av 1000 (aU (aj Tryz.f62) 2) (JA.inj s) (bY JA asn (Q:Sum JA.T aE->Prop))=(JC s).wpR Q:=by kernel_rfl
def SX (g2_2:dY->ol) (s:dY):OT aE:=(.ok ⟨(.exit 2,AX),g2_2 s⟩)
def nR:az:=⟨[.val true .elem],[],false⟩
def ais:SV->Option az:=λ_=>some nR
def aiu (ok0:dK->Bool) (g0_0:dK->om) (ok2:dY->Bool) (g2_2:dY->ol) (a0:Int) (a1:aa):OT lI.Y:=
 let z0:(PUnit×PUnit×UInt64×UInt64×Int×PUnit)×List UInt64×List UInt64×PUnit:=(((),(),VV a0,(0:UInt64),(3:Int),()),[a1.w0,a1.w1,a1.w2,a1.w3],[(0:UInt64),(0:UInt64),(0:UInt64),(0:UInt64)],())
 let z1:Bool:=ok0 z0
 let z2:(PUnit×UInt64×PUnit)×List UInt64×PUnit:=g0_0 z0
 let z3:=z2.snd.fst
 let z4:Bool:=decide ((4/1:Nat)+0<=List.length z3)
 let z5:List UInt64:=List.set (List.set (List.set (List.set z3 0 z2.fst.snd.fst) 1 (0:UInt64)) 2 (0:UInt64)) 3 (0:UInt64)
 let z6:Bool:=decide (4<=List.length z5)
 let z7:aa:= {w0:=List.getD z5 0 0,w1:=List.getD z5 1 0,w2:=List.getD z5 2 0,w3:=List.getD z5 3 0}
 let z8:aa:=(aY (Int.toNat a0)).fst
 let z9:(PUnit×PUnit×PUnit×PUnit)×List UInt64×List UInt64×List UInt64×PUnit:=(((),(),(),()),[a1.w0,a1.w1,a1.w2,a1.w3],[(0:UInt64),(0:UInt64),(0:UInt64),(0:UInt64)],[z8.w0,z8.w1,z8.w2,z8.w3],())
 let z10:=(g2_2 z9).snd
 let z11:=z10.fst
 let z12:=z10.snd.fst
 let z13:List UInt64:=lay z12 z11 4 (0:UInt64)
 (.br (a0==(0:Int))
 (gd [z1,z4,z6] (.ok ⟨nR,((z7,()),())⟩))
 (.br (a0==(1:Int))
  (gd [z1,z4,z6] (.ok ⟨nR,((z7,()),())⟩))
  (.br (ap a0)
   (gd [ok2 z9,decide (4<=List.length z11),decide ((4/1:Nat)+0<=List.length z12),decide (4<=List.length z13)] (.ok ⟨nR,(({w0:=List.getD z13 0 0,w1:=List.getD z13 1 0,w2:=List.getD z13 2 0,w3:=List.getD z13 3 0},()),())⟩))
   (.ok ⟨nR,(({w0:=0,w1:=0,w2:=0,w3:=0},()),())⟩))))
theorem aHI (ok0:dK->Bool) (g0_0:dK->om) (ok2:dY->Bool) (g2_2:dY->ol) (x:W7) (Q:lI.Y->Prop):wpf te rA (aO 2 (cl JA 2 ok2 (SX g2_2)) (aO 0 (cl JB 0 ok0 (SY g0_0)) av)) 1000 Tryz.f62 (lI.inp.inj x).tm (lI.inp.inj x).hp (fnK lI ais Q) (λ_ _=>False)=(aiu ok0 g0_0 ok2 g2_2 (x.1.1) (x.1.2.1)).wpR Q:=by kernel_rfl
theorem asq (ok0:dK->Bool) (g0_0:dK->om) (ok2:dY->Bool) (g2_2:dY->ol) (h0:∀ s:dK,ok0 s=true->∃ m e,al (JD) m s=some e/\(SY g0_0 s).run=some e) (h2:∀ s:dY,ok2 s=true->∃ m e,al (JC) m s=some e/\(SX g2_2 s).run=some e) (pre:W7->Bool) (F:W7->OT lI.Y) (hF:∀ (x:W7) oy,pre x=true->(F x).run=some oy->(aiu ok0 g0_0 ok2 g2_2 (x.1.1) (x.1.2.1)).run=some oy):ac Tryz.prog 62 (lI.aI pre F):=
 aD ar mK uC (f:=62) (fn:=Tryz.f62) (c:=aj Tryz.f62) (by kernel_rfl) (by kernel_rfl) (by kernel_rfl) (S:=lI) (k:=0) (by kernel_rfl) (λR hR=>(aB (c:=(aj Tryz.f62)) (by kernel_rfl) (id:=2) (by kernel_rfl) (aR ar mK uC (sh:=JA) hR (xs:=asn) (aC (by kernel_rfl) (by kernel_rfl) hR) aL af (n:=1000) (T:=JC) (λs Q=>aEF s Q) (ok:=ok2) (f:=SX g2_2) h2) (aB (c:=(aj Tryz.f62)) (by kernel_rfl) (id:=0) (by kernel_rfl) (aR ar mK uC (sh:=JB) hR (xs:=aso) (aC (by kernel_rfl) (by kernel_rfl) hR) aL af (n:=1000) (T:=JD) (λs Q=>aEG s Q) (ok:=ok0) (f:=SY g0_0) h0) af))) (n:=1000) (sel:=ais) (λv o h=>by cases h;rfl) (pre:=pre) (F:=F) (T:=λx=>aiu ok0 g0_0 ok2 g2_2 (x.1.1) (x.1.2.1)) (λx Q=>aHI ok0 g0_0 ok2 g2_2 x Q) hF
theorem aHP {r w m:Nat}:((r*4294967296+w/4294967296)%m*4294967296+w%4294967296)%m=(r*18446744073709551616+w)%m:=by
 have e:(r*4294967296+w/4294967296)*4294967296+w%4294967296=r*18446744073709551616+w:=by omega
 rw [Nat.add_mod,Nat.mul_mod,Nat.mod_mod,<-Nat.mul_mod,<-Nat.add_mod,e]
theorem aE6 {r w m:UInt64} (hs:fW m=true) (hr:r.toNat<m.toNat):(bR ((bR r 32+bk w 32)%m) 32+(w&&&4294967295))%m=Zs r w m:=by
 have hm:=lu hs
 have hb:m.toNat<=16521217:=by rcases ec hs with rfl|rfl<;>decide
 have hw:=w.toNat_lt
 have e1:(bR r 32).toNat=r.toNat*4294967296:=by
  have:(bR r 32).toNat=r.toNat*2^32%2^64:=lv r 32 (by omega)
  rw [this]
  omega
 have e2:(bk w 32).toNat=w.toNat/4294967296:=eZ w 32 (by omega)
 have e3:((bR r 32+bk w 32)%m).toNat=(r.toNat*4294967296+w.toNat/4294967296)%m.toNat:=by
  rw [UInt64.toNat_mod,UInt64.toNat_add,e1,e2,Nat.mod_eq_of_lt (a:=r.toNat*4294967296+w.toNat/4294967296) (by omega)]
 generalize (bR r 32+bk w 32)%m=q at e3
 have hq:q.toNat<m.toNat:=by rw [e3];exact Nat.mod_lt _ hm
 have e4:(bR q 32).toNat=q.toNat*4294967296:=by
  have:(bR q 32).toNat=q.toNat*2^32%2^64:=lv q 32 (by omega)
  rw [this]
  omega
 rw [<-UInt64.toNat_inj,rf hm,UInt64.toNat_mod,UInt64.toNat_add,e4,jN,Nat.mod_eq_of_lt (a:=q.toNat*4294967296+w.toNat%4294967296) (by omega),e3,aHP]
def HZ (s:dK):Bool:=decide (s.1.2.2.2.1=0/\s.1.2.2.2.2.1=3/\s.2.1.length=4)&&fW s.1.2.2.1
def acm (s:dK):om:=(((),aHD s.2.1 s.1.2.2.1,()),(s.2.2.1,()))
theorem aEI:∀ s:dK,HZ s=true->∃ m e,al JD m s=some e/\(SY acm s).run=some e:=by
 rintro ⟨⟨⟨⟩,⟨⟩,sm,r,i,⟨⟩⟩,⟨c1,c2,⟨⟩⟩⟩ h
 simp only [HZ,Bool.and_eq_true,decide_eq_true_eq] at h
 obtain ⟨⟨rfl,rfl,hl⟩,hs⟩:=h
 have hm:=lu hs
 have hz:(!(sm==0))=true:=by rcases ec hs with rfl|rfl<;>rfl
 have:=(aP (T:=JD) (λk r=>((((),(),sm,r,3-(k:Int),()),(c1,c2,())):dK)) (λk r=>Zs r (c1.getD (3-k) 0) sm)
  (λr=>(⟨(.exit 0,AY),(((),r,()),(c2,()))⟩:aE)) 4 0 (λ_ r=>r.toNat<sm.toNat) hm (λk r hk hr=>⟨?_,?_⟩) (λr hr=> ?_)).1
 ·obtain ⟨m,hm⟩:=this
  exact ⟨m,_,hm,rfl⟩
 ·have e1:(3-(k:Int)).toNat=3-k:=by omega
  have e2:(3:Int)-(k:Int)-1=3-((k+1:Nat):Int):=by omega
  refine (OT.ao (decide_eq_true (by dsimp only;omega))).trans ((ah ?_).trans ?_)
  ·simp only [e1,Nat.add_zero,hl,hz,List.all_cons,List.all_nil,Bool.and_true,Bool.true_and,Bool.and_eq_true]
   exact ⟨aN (by omega),decide_eq_true (by omega),aN (by omega),decide_eq_true (by omega),aH (by omega)⟩
  ·simp only [OT.cP,e1,e2,Nat.add_zero,aE6 hs hr]
 ·rw [rf hm]
  exact Nat.mod_lt _ hm
 ·exact OT.aq (decide_eq_false (by dsimp only;omega))
def SW (s:dY):Bool:=decide (s.2.1.length=4/\s.2.2.2.1.length=4/\0<(elemOf s.2.2.2.1).nat)
def ack (s:dY):ol:=(((),(),()),(lst (ofN ((elemOf s.2.1).nat%(elemOf s.2.2.2.1).nat)),s.2.2.1,()))
theorem alF {M:aa} {c2:List UInt64} (hm:0<M.nat):∀ (n:Nat) (a:aa),a.nat=n->
 ∃ m,al JC m (((),(),(),()),(lst a,c2,lst M,()))=some ⟨(.exit 2,AX),(((),(),()),(lst (ofN (a.nat%M.nat)),c2,()))⟩:=by
 intro n
 induction n using Nat.strongRecOn with
 |_ n ih=>
  intro a hn
  rcases (Bool.eq_false_or_eq_true (Nat.blt a.nat M.nat)).symm with hb|hb
  ·have hle:M.nat<=a.nat:=by
    rcases Nat.lt_or_ge a.nat M.nat with h|h
    ·have:Nat.blt a.nat M.nat=true:=Nat.ble_eq_true_of_le h
     rw [this] at hb;cases hb
    ·exact h
   have hd:=mP hle
   obtain ⟨m,hm2⟩:=ih (a.nat-M.nat) (by omega) (eu a M).1 hd
   rw [hd,<-Nat.mod_eq_sub_mod hle] at hm2
   refine ⟨m+1,aF ?_ hm2⟩
   refine (ah rfl).trans ((OT.ao (b:= !Nat.blt a.nat M.nat) (by rw [hb];rfl)).trans ((ah rfl).trans rfl))
  ·have hlt:=dR hb
   rw [Nat.mod_eq_of_lt hlt,vT]
   refine ⟨1,aM ?_⟩
   exact (ah rfl).trans (OT.aq (b:= !Nat.blt a.nat M.nat) (by rw [hb];rfl))
theorem aEH:∀ s:dY,SW s=true->∃ m e,al JC m s=some e/\(SX ack s).run=some e:=by
 rintro ⟨⟨⟨⟩,⟨⟩,⟨⟩,⟨⟩⟩,⟨l,c2,l2,⟨⟩⟩⟩ h
 have h':=of_decide_eq_true h
 dsimp only at h'
 obtain ⟨h1,h2,h3⟩:=h'
 obtain ⟨a,rfl⟩:∃ a,l=lst a:=⟨elemOf l,(aS h1).symm⟩
 obtain ⟨M,rfl⟩:∃ a,l2=lst a:=⟨elemOf l2,(aS h2).symm⟩
 obtain ⟨m,hm⟩:=alF (c2:=c2) (M:=M) h3 _ a rfl
 exact ⟨m,_,hm,rfl⟩
def ofP (p:Nat) (a:aa):aa:=ofN (a.nat%p)
def ait (_:W7):Bool:=true
def aBO (x:W7):OT lI.Y:=.br (ap x.1.1) (.ok ⟨nR,((ofP (pS x.1.1) x.1.2.1,()),())⟩) (.ok ⟨nR,((⟨0,0,0,0⟩,()),())⟩)
theorem Yh {a:aa} {p:Nat} {m:UInt64} (hp:p=m.toNat) (hs:fW m=true):(⟨aHD (lst a) m,0,0,0⟩:aa)=ofP p a:=by
 have hm:=lu hs
 unfold ofP
 rw [aii hs,hp,tf (n:=a.nat%m.toNat) (Nat.lt_trans (Nat.mod_lt _ hm) m.toNat_lt)]
theorem aiZ {s:Int} {a:aa} (h0:(s==0)=false) (h1:(s==1)=false) (hs:ap s=true):(aiu HZ acm SW ack s a).run=some ⟨nR,((ofP (pS s) a,()),())⟩:=by
 refine (OT.aq h0).trans ((OT.aq h1).trans ((OT.ao hs).trans ((ah ?_).trans rfl)))
 simp only [List.all_cons,List.all_nil,Bool.and_true,Bool.and_eq_true]
 exact ⟨decide_eq_true ⟨rfl,rfl,(oW hs).1⟩,rfl,rfl,rfl⟩
theorem asp:ac Tryz.prog 62 (lI.aI ait aBO):=asq HZ acm SW ack aEI aEH _ _ λx oy _ ho=>by
 rw [<-ho]
 clear ho
 obtain ⟨⟨s,a,⟨⟩⟩,⟨⟩⟩:=x
 rcases (Bool.eq_false_or_eq_true (ap s)).symm with hs|hs
 ·obtain ⟨h0,h1,_,_⟩:=u5 hs
  exact (OT.aq h0).trans ((OT.aq h1).trans ((OT.aq hs).trans (OT.aq (b:=ap s) hs).symm))
 ·refine Eq.trans ?_ (OT.ao (b:=ap s) hs).symm
  show _=some (⟨nR,((ofP (pS s) a,()),())⟩:lI.Y)
  rcases cv hs with rfl|rfl|rfl|rfl
  ·rw [<-Yh (a:=a) (p:=pS 0) (m:=16513537) (by decide+kernel) rfl]
   refine (OT.ao rfl).trans ((ah ?_).trans rfl)
   exact rfl
  ·rw [<-Yh (a:=a) (p:=pS 1) (m:=16521217) (by decide+kernel) rfl]
   refine (OT.aq rfl).trans ((OT.ao rfl).trans ((ah ?_).trans rfl))
   exact rfl
  ·exact aiZ rfl rfl rfl
  ·exact aiZ rfl rfl rfl
def Jz:cn:=(lI.aI ait aBO)
theorem alG:ac Tryz.prog 62 Jz:=asp
theorem alE:aG Jz:=aA
def aaK:Env:=ay 62 Jz rA
theorem M8:aQ Tryz.prog aaK:=ag alG mK
theorem M9:ax aaK:=ae alE CG
theorem ao0:aW Tryz.prog te aaK:=aJ follows ar M8 M9
def gT:aw:=⟨[.val false .int,.val true .elem,.val true .elem],[],true,0,false⟩
abbrev PY:Type:=((Int)×(aa)×(aa)×Unit)×(Unit)
def cV:az:=⟨[.val true .elem],[],false⟩
def Xv:SV->Option az:=λ_=>some cV
def acZ (a0:Int) (a1:aa) (a2:aa):OT gT.Y:=
 let z0:Bool:=ap a0
 let z1:UInt64:=VV a0
 let z2:Bool:= !z1==(0:UInt64)
 let z3:Nat:=pS a0
 let z4:aa:=ofP z3 a1
 let z5:=z4.w0
 let z6:aa:=ofP z3 a2
 let z7:=z6.w0
 let z8:aa:= {w0:=(z5+z7)%z1,w1:=0,w2:=0,w3:=0}
 let z9:aa:= {w0:=(z5+(0:UInt64))%z1,w1:=0,w2:=0,w3:=0}
 let z10:aa:= {w0:=((0:UInt64)+z7)%z1,w1:=0,w2:=0,w3:=0}
 let z11:aa:= {w0:=0%z1,w1:=0,w2:=0,w3:=0}
 let z12:aa:= {w0:=0,w1:=0,w2:=0,w3:=0}
 (.br (a0==(0:Int))
 (.br (z0)
  (.br (z0)
   (gd [z2] (.ok ⟨cV,((z8,()),())⟩))
   (gd [z2] (.ok ⟨cV,((z9,()),())⟩)))
  (.br (z0)
   (gd [z2] (.ok ⟨cV,((z10,()),())⟩))
   (gd [z2] (.ok ⟨cV,((z11,()),())⟩))))
 (.br (a0==(1:Int))
  (.br (z0)
   (.br (z0)
    (gd [z2] (.ok ⟨cV,((z8,()),())⟩))
    (gd [z2] (.ok ⟨cV,((z9,()),())⟩)))
   (.br (z0)
    (gd [z2] (.ok ⟨cV,((z10,()),())⟩))
    (gd [z2] (.ok ⟨cV,((z11,()),())⟩))))
  (.br (z0)
   (.br (z0)
    (.br (z0)
     (.ok ⟨cV,((ofP z3 (qa z4 z6).fst,()),())⟩)
     (.ok ⟨cV,((z12,()),())⟩))
    (.br (z0)
     (.ok ⟨cV,((ofP z3 (qa z4 z12).fst,()),())⟩)
     (.ok ⟨cV,((z12,()),())⟩)))
   (.br (z0)
    (.br (z0)
     (.ok ⟨cV,((ofP z3 (qa z12 z6).fst,()),())⟩)
     (.ok ⟨cV,((z12,()),())⟩))
    (.br (z0)
     (.ok ⟨cV,((ofP z3 z12,()),())⟩)
     (.ok ⟨cV,((z12,()),())⟩))))))
theorem aES (x:PY) (Q:gT.Y->Prop):wpf te aaK av 1000 Tryz.f134 (gT.inp.inj x).tm (gT.inp.inj x).hp (fnK gT Xv Q) (λ_ _=>False)=(acZ (x.1.1) (x.1.2.1) (x.1.2.2.1)).wpR Q:=by kernel_rfl
theorem al0 (pre:PY->Bool) (F:PY->OT gT.Y) (hF:∀ (x:PY) oy,pre x=true->(F x).run=some oy->(acZ (x.1.1) (x.1.2.1) (x.1.2.2.1)).run=some oy):ac Tryz.prog 134 (gT.aI pre F):=
 aD ar M8 ao0 (f:=134) (fn:=Tryz.f134) (c:=aj Tryz.f134) (by kernel_rfl) (by kernel_rfl) (by kernel_rfl) (S:=gT) (k:=0) (by kernel_rfl) (λR hR=>af) (n:=1000) (sel:=Xv) (λv o h=>by cases h;rfl) (pre:=pre) (F:=F) (T:=λx=>acZ (x.1.1) (x.1.2.1) (x.1.2.2.1)) (λx Q=>aES x Q) hF
theorem BB {s:Int} (h:s=0\/s=1):pS s=(VV s).toNat/\0<(VV s).toNat/\(VV s).toNat<=16521217/\(!(VV s==0))=true:=by
 rcases h with rfl|rfl<;>exact ⟨by decide+kernel,by decide+kernel,by decide+kernel,rfl⟩
theorem aoU {s:Int} (h:s=0\/s=1) (a b:aa):(⟨((ofP (pS s) a).w0+(ofP (pS s) b).w0)%VV s,0,0,0⟩:aa)=FC (pS s) a b:=by
 obtain ⟨hp,h0,h1,_⟩:=BB h
 rw [hp]
 generalize VV s=m at*
 have ha:=Nat.mod_lt a.nat h0
 have hb:=Nat.mod_lt b.nat h0
 have hc:=Nat.mod_lt (a.nat+b.nat) h0
 unfold FC
 rw [tf (by omega)]
 have e:((ofP m.toNat a).w0+(ofP m.toNat b).w0)%m=UInt64.ofNat ((a.nat+b.nat)%m.toNat):=by
  show (UInt64.ofNat (a.nat%m.toNat)+UInt64.ofNat (b.nat%m.toNat))%m=_
  rw [<-UInt64.toNat_inj,UInt64.toNat_mod,UInt64.toNat_add,UInt64.toNat_ofNat',UInt64.toNat_ofNat',UInt64.toNat_ofNat',Nat.mod_eq_of_lt (a:=a.nat%m.toNat) (by omega),Nat.mod_eq_of_lt (a:=b.nat%m.toNat) (by omega),
   Nat.mod_eq_of_lt (a:=a.nat%m.toNat+b.nat%m.toNat) (by omega),Nat.mod_eq_of_lt (a:=(a.nat+b.nat)%m.toNat) (by omega),<-Nat.add_mod]
 rw [e]
def JV (x:PY):Bool:=ap x.1.1
def asG (x:PY):OT gT.Y:=.ok ⟨cV,((FC (pS x.1.1) x.1.2.1 x.1.2.2.1,()),())⟩
theorem azp:ac Tryz.prog 134 (gT.aI JV asG):=al0 _ _ λx oy hp ho=>by
 rw [<-ho]
 clear ho
 obtain ⟨⟨s,a,b,⟨⟩⟩,⟨⟩⟩:=x
 have hs:ap s=true:=hp
 show _=some (⟨cV,((FC (pS s) a b,()),())⟩:gT.Y)
 have little:(s=0\/s=1)->(gd [!(VV s==0)] (.ok ⟨cV,((⟨((ofP (pS s) a).w0+(ofP (pS s) b).w0)%VV s,0,0,0⟩,()),())⟩):OT gT.Y).run=some (⟨cV,((FC (pS s) a b,()),())⟩:gT.Y):=λh=>by
  obtain ⟨_,_,_,hz⟩:=BB h
  rw [aoU h]
  exact ah (by simp only [hz,List.all_cons,List.all_nil,Bool.and_true])
 by_cases h0:s=0
 ·exact (OT.ao (by simpa using h0)).trans ((OT.ao hs).trans ((OT.ao hs).trans (little (.inl h0))))
 ·refine (OT.aq (by simpa using h0)).trans ?_
  by_cases h1:s=1
  ·exact (OT.ao (by simpa using h1)).trans ((OT.ao hs).trans ((OT.ao hs).trans (little (.inr h1))))
  ·refine (OT.aq (by simpa using h1)).trans ((OT.ao hs).trans ((OT.ao hs).trans ((OT.ao hs).trans ?_)))
   have e:ofP (pS s) (qa (ofP (pS s) a) (ofP (pS s) b)).1=FC (pS s) a b:=awm (oW hs) a b
   show some (⟨cV,((ofP (pS s) (qa (ofP (pS s) a) (ofP (pS s) b)).1,()),())⟩:gT.Y)=_
   rw [e]
def Eg:cn:=(gT.aI JV asG)
theorem acY:ac Tryz.prog 134 Eg:=azp
theorem acX:aG Eg:=aA
def Ni:Env:=ay 134 Eg aaK
theorem FV:aQ Tryz.prog Ni:=ag acY M8
theorem G7:ax Ni:=ae acX M9
theorem afA:aW Tryz.prog te Ni:=aJ follows ar FV G7
def kh:aw:=⟨[.val false .int,.val true .elem],[],true,0,false⟩
abbrev PK:Type:=((Int)×(aa)×Unit)×(Unit)
def mU:az:=⟨[.val true .elem],[],false⟩
def W8:SV->Option az:=λ_=>some mU
def acu (a0:Int) (a1:aa):OT kh.Y:=
 let z0:Bool:=ap a0
 let z1:Nat:=pS a0
 let z2:aa:=(aY (Int.toNat a0)).fst
 let z3:aa:= {w0:=0,w1:=0,w2:=0,w3:=0}
 (.br (z0)
 (.br (z0)
  (.br (z0)
   (.ok ⟨mU,((ofP z1 (eu z2 (ofP z1 a1)).fst,()),())⟩)
   (.ok ⟨mU,((z3,()),())⟩))
  (.br (z0)
   (.ok ⟨mU,((ofP z1 (eu z2 z3).fst,()),())⟩)
   (.ok ⟨mU,((z3,()),())⟩)))
 (.ok ⟨mU,((z3,()),())⟩))
theorem aEL (x:PK) (Q:kh.Y->Prop):wpf te Ni av 1000 Tryz.f96 (kh.inp.inj x).tm (kh.inp.inj x).hp (fnK kh W8 Q) (λ_ _=>False)=(acu (x.1.1) (x.1.2.1)).wpR Q:=by kernel_rfl
theorem alI (pre:PK->Bool) (F:PK->OT kh.Y) (hF:∀ (x:PK) oy,pre x=true->(F x).run=some oy->(acu (x.1.1) (x.1.2.1)).run=some oy):ac Tryz.prog 96 (kh.aI pre F):=
 aD ar FV afA (f:=96) (fn:=Tryz.f96) (c:=aj Tryz.f96) (by kernel_rfl) (by kernel_rfl) (by kernel_rfl) (S:=kh) (k:=0) (by kernel_rfl) (λR hR=>af) (n:=1000) (sel:=W8) (λv o h=>by cases h;rfl) (pre:=pre) (F:=F) (T:=λx=>acu (x.1.1) (x.1.2.1)) (λx Q=>aEL x Q) hF
theorem neg_eq {s:Int} (hs:ap s=true) (a:aa):ofP (pS s) (eu (aY s.toNat).1 (ofP (pS s) a)).1=zW (pS s) a:=by
 have hp:=oW hs
 have hlt:=Nat.mod_lt a.nat hp.1
 have e:(ofP (pS s) a).nat=a.nat%pS s:=dg hp
 unfold zW
 have e2:(eu (aY s.toNat).1 (ofP (pS s) a)).1.nat=pS s-a.nat%pS s:=by
  rw [mP (by rw [e];exact Nat.le_of_lt hlt),e]
  rfl
 show ofN (_%_)=_
 rw [e2]
def lL (x:PK):Bool:=ap x.1.1
def asr (x:PK):OT kh.Y:=.ok ⟨mU,((zW (pS x.1.1) x.1.2.1,()),())⟩
theorem azc:ac Tryz.prog 96 (kh.aI lL asr):=alI _ _ λx oy hp ho=>by
 rw [<-ho]
 clear ho
 obtain ⟨⟨s,a,⟨⟩⟩,⟨⟩⟩:=x
 have hs:ap s=true:=hp
 show _=some (⟨mU,((zW (pS s) a,()),())⟩:kh.Y)
 rw [<-neg_eq hs]
 exact (OT.ao hs).trans ((OT.ao hs).trans ((OT.ao hs).trans rfl))
def D3:cn:=(kh.aI lL asr)
theorem acs:ac Tryz.prog 96 D3:=azc
theorem acr:aG D3:=aA
def FM:Env:=ay 96 D3 Ni
theorem wZ:aQ Tryz.prog FM:=ag acs FV
theorem GZ:ax FM:=ae acr G7
theorem Na:aW Tryz.prog te FM:=aJ follows ar wZ GZ
def gS:aw:=⟨[.val false .int,.val true .elem,.val true .elem],[],true,0,false⟩
abbrev PL:Type:=((Int)×(aa)×(aa)×Unit)×(Unit)
def AZ:Shape:=⟨80,[(4,.ptr 0 0 0),(5,.ptr 1 0 0),(6,.ptr 2 0 0),(7,.ptr 3 0 0),(9,.ptr 4 0 0),(10,.val false .int)],[(0,.row .u64),(1,.row .u64),(2,.row .u64),(3,.row .u64),(4,.row .u64)],0,true⟩
abbrev cq:Type:=((Unit)×(Unit)×(Unit)×(Unit)×(Unit)×(Int)×Unit)×((List (UInt64))×(List (UInt64))×(List (UInt64))×(List (UInt64))×(List (UInt64))×Unit)
def vk:Shape:=⟨80,[(6,.ptr 0 0 0),(9,.ptr 1 0 0)],[(0,.row .u64),(1,.row .u64)],0,true⟩
abbrev lM:Type:=((Unit)×(Unit)×Unit)×((List (UInt64))×(List (UInt64))×Unit)
def aiv:SE->Option Shape:=fC [(0,vk)] none
def S2 (a10:Int) (c0:List (UInt64)) (c1:List (UInt64)) (c2:List (UInt64)) (c3:List (UInt64)) (c4:List (UInt64)):OT (Sum cq aE):=
 let z0:Nat:=List.length c4
 let z1:Bool:=decide (4<=z0)
 let z2:aa:= {w0:=List.getD c4 0 0,w1:=List.getD c4 1 0,w2:=List.getD c4 2 0,w3:=List.getD c4 3 0}
 let z3:=(qa z2 z2).fst
 let z4:List UInt64:=List.set (List.set (List.set (List.set c4 0 z3.w0) 1 z3.w1) 2 z3.w2) 3 z3.w3
 let z5:Nat:=List.length z4
 let z6:Bool:=decide (4<=z5)
 let z7:Bool:=decide (4<=List.length c3)
 let z8:aa:= {w0:=List.getD z4 0 0,w1:=List.getD z4 1 0,w2:=List.getD z4 2 0,w3:=List.getD z4 3 0}
 let z9:aa:= {w0:=List.getD c3 0 0,w1:=List.getD c3 1 0,w2:=List.getD c3 2 0,w3:=List.getD c3 3 0}
 let z10:Nat:=aa.nat z9
 let z11:Int:=Int.tdiv a10 (64:Int)
 let z12:Bool:=true&&inR z11
 let z13:Bool:=inB z11 4
 let z14:Bool:=decide (Int.toNat z11+0<List.length c1)
 let z15:=(eu z8 z9).fst
 let z16:List UInt64:=List.set (List.set (List.set (List.set z4 0 z15.w0) 1 z15.w1) 2 z15.w2) 3 z15.w3
 let z17:Nat:=List.length z16
 let z18:Bool:=decide (4<=List.length c0)
 let z19:aa:= {w0:=List.getD c0 0 0,w1:=List.getD c0 1 0,w2:=List.getD c0 2 0,w3:=List.getD c0 3 0}
 let z20:aa:=(qa {w0:=List.getD z16 0 0,w1:=List.getD z16 1 0,w2:=List.getD z16 2 0,w3:=List.getD z16 3 0} z19).fst
 let z21:List UInt64:=List.set (List.set (List.set (List.set z16 0 z20.w0) 1 z20.w1) 2 z20.w2) 3 z20.w3
 let z22:Nat:=List.length z21
 let z23:Bool:=decide (4<=z22)
 let z24:aa:= {w0:=List.getD z21 0 0,w1:=List.getD z21 1 0,w2:=List.getD z21 2 0,w3:=List.getD z21 3 0}
 let z25:Bool:=inR (a10-(1:Int))
 let z26:=(eu z24 z9).fst
 let z27:=(qa z8 z19).fst
 let z28:List UInt64:=List.set (List.set (List.set (List.set z4 0 z27.w0) 1 z27.w1) 2 z27.w2) 3 z27.w3
 let z29:Nat:=List.length z28
 let z30:Bool:=decide (4<=z29)
 let z31:aa:= {w0:=List.getD z28 0 0,w1:=List.getD z28 1 0,w2:=List.getD z28 2 0,w3:=List.getD z28 3 0}
 let z32:=(eu z31 z9).fst
 (.br (decide ((0:Int)<=a10))
 (gd [z1,z1,decide ((4/1:Nat)+0<=z0),z6,z7] (.br (!Nat.blt (aa.nat z8) z10)
  (gd [z6,z7,decide ((4/1:Nat)+0<=z5),z12,z13,z14] (.br (bk (List.getD c1 (Int.toNat z11+0) (0:UInt64)) (↑(UInt64.toNat (i2u (Int.tmod a10 (64:Int)))):Int)&&&(1:UInt64)==(1:UInt64))
   (gd [decide (4<=z17),z18,decide ((4/1:Nat)+0<=z17),z23,z7] (.br (!Nat.blt (aa.nat z24) z10)
    (gd [z23,z7,decide ((4/1:Nat)+0<=z22),z25] (.ok (.inl (((),((),((),((),((),(a10-(1:Int),())))))),(c0,(c1,(c2,(c3,(List.set (List.set (List.set (List.set z21 0 z26.w0) 1 z26.w1) 2 z26.w2) 3 z26.w3,())))))))))
    (gd [z25] (.ok (.inl (((),((),((),((),((),(a10-(1:Int),())))))),(c0,(c1,(c2,(c3,(z21,())))))))))))
   (gd [z25] (.ok (.inl (((),((),((),((),((),(a10-(1:Int),())))))),(c0,(c1,(c2,(c3,(z16,())))))))))))
  (gd [z12,z13,z14] (.br (bk (List.getD c1 (Int.toNat z11+0) (0:UInt64)) (↑(UInt64.toNat (i2u (Int.tmod a10 (64:Int)))):Int)&&&(1:UInt64)==(1:UInt64))
   (gd [z6,z18,decide ((4/1:Nat)+0<=z5),z30,z7] (.br (!Nat.blt (aa.nat z31) z10)
    (gd [z30,z7,decide ((4/1:Nat)+0<=z29),z25] (.ok (.inl (((),((),((),((),((),(a10-(1:Int),())))))),(c0,(c1,(c2,(c3,(List.set (List.set (List.set (List.set z28 0 z32.w0) 1 z32.w1) 2 z32.w2) 3 z32.w3,())))))))))
    (gd [z25] (.ok (.inl (((),((),((),((),((),(a10-(1:Int),())))))),(c0,(c1,(c2,(c3,(z28,())))))))))))
   (gd [z25] (.ok (.inl (((),((),((),((),((),(a10-(1:Int),())))))),(c0,(c1,(c2,(c3,(z4,())))))))))))))
 (.ok (.inr ⟨(.exit 0,vk),(((),((),())),(c2,(c4,())))⟩)))
def vl (s:cq):OT (Sum cq aE):=S2 (s.1.2.2.2.2.2.1) (s.2.1) (s.2.2.1) (s.2.2.2.1) (s.2.2.2.2.1) (s.2.2.2.2.2.1)
theorem azd (s:cq) (Q:Sum cq aE->Prop):wps te FM av 1000 (aU (aj Tryz.f113) 0) (AZ.inj s) (bY AZ aiv (Q:Sum AZ.T aE->Prop))=(vl s).wpR Q:=by kernel_rfl
def H2 (g0_0:cq->lM) (s:cq):OT aE:=(.ok ⟨(.exit 0,vk),g0_0 s⟩)
def du:az:=⟨[.val true .elem],[],false⟩
def W9:SV->Option az:=λ_=>some du
def acx (ok0:cq->Bool) (g0_0:cq->lM) (a0:Int) (a1:aa) (a2:aa):OT gS.Y:=
 let z0:Bool:=ap a0
 let z1:UInt64:=VV a0
 let z2:Bool:= !z1==(0:UInt64)
 let z3:Nat:=pS a0
 let z4:aa:=ofP z3 a1
 let z5:=z4.w0
 let z6:aa:=ofP z3 a2
 let z7:=z6.w0
 let z8:aa:= {w0:=z5*z7%z1,w1:=0,w2:=0,w3:=0}
 let z9:aa:= {w0:=z5*(0:UInt64)%z1,w1:=0,w2:=0,w3:=0}
 let z10:aa:= {w0:=0*z7%z1,w1:=0,w2:=0,w3:=0}
 let z11:aa:= {w0:=0%z1,w1:=0,w2:=0,w3:=0}
 let z12:PUnit×PUnit×PUnit×PUnit×PUnit×Int×PUnit:=((),(),(),(),(),(255:Int),())
 let z13:aa:=(aY (Int.toNat a0)).fst
 let z14:List UInt64×List UInt64×List UInt64×PUnit:=([(0:UInt64),(0:UInt64),(0:UInt64),(0:UInt64)],[z13.w0,z13.w1,z13.w2,z13.w3],[(0:UInt64),(0:UInt64),(0:UInt64),(0:UInt64)],())
 let z15:List UInt64×List UInt64×List UInt64×List UInt64×PUnit:=([z7,z6.w1,z6.w2,z6.w3],z14)
 let z16:(PUnit×PUnit×PUnit×PUnit×PUnit×Int×PUnit)×List UInt64×List UInt64×List UInt64×List UInt64×List UInt64×PUnit:=(z12,[z5,z4.w1,z4.w2,z4.w3],z15)
 let z17:=(g0_0 z16).snd
 let z18:=z17.snd.fst
 let z19:=z17.fst
 let z20:List UInt64:=lay z19 z18 4 (0:UInt64)
 let z21:List UInt64×List UInt64×List UInt64×List UInt64×PUnit:=([(0:UInt64),(0:UInt64),(0:UInt64),(0:UInt64)],z14)
 let z22:(PUnit×PUnit×PUnit×PUnit×PUnit×Int×PUnit)×List UInt64×List UInt64×List UInt64×List UInt64×List UInt64×PUnit:=(z12,[z5,z4.w1,z4.w2,z4.w3],z21)
 let z23:=(g0_0 z22).snd
 let z24:=z23.snd.fst
 let z25:=z23.fst
 let z26:List UInt64:=lay z25 z24 4 (0:UInt64)
 let z27:(PUnit×PUnit×PUnit×PUnit×PUnit×Int×PUnit)×List UInt64×List UInt64×List UInt64×List UInt64×List UInt64×PUnit:=(z12,[(0:UInt64),(0:UInt64),(0:UInt64),(0:UInt64)],z15)
 let z28:=(g0_0 z27).snd
 let z29:=z28.snd.fst
 let z30:=z28.fst
 let z31:List UInt64:=lay z30 z29 4 (0:UInt64)
 let z32:(PUnit×PUnit×PUnit×PUnit×PUnit×Int×PUnit)×List UInt64×List UInt64×List UInt64×List UInt64×List UInt64×PUnit:=(z12,[(0:UInt64),(0:UInt64),(0:UInt64),(0:UInt64)],z21)
 let z33:=(g0_0 z32).snd
 let z34:=z33.snd.fst
 let z35:=z33.fst
 let z36:List UInt64:=lay z35 z34 4 (0:UInt64)
 (.br (a0==(0:Int))
 (.br (z0)
  (.br (z0)
   (gd [z2] (.ok ⟨du,((z8,()),())⟩))
   (gd [z2] (.ok ⟨du,((z9,()),())⟩)))
  (.br (z0)
   (gd [z2] (.ok ⟨du,((z10,()),())⟩))
   (gd [z2] (.ok ⟨du,((z11,()),())⟩))))
 (.br (a0==(1:Int))
  (.br (z0)
   (.br (z0)
    (gd [z2] (.ok ⟨du,((z8,()),())⟩))
    (gd [z2] (.ok ⟨du,((z9,()),())⟩)))
   (.br (z0)
    (gd [z2] (.ok ⟨du,((z10,()),())⟩))
    (gd [z2] (.ok ⟨du,((z11,()),())⟩))))
  (.br (z0)
   (.br (z0)
    (.br (z0)
     (gd [ok0 z16,decide (4<=List.length z18),decide ((4/1:Nat)+0<=List.length z19),decide (4<=List.length z20)] (.ok ⟨du,(({w0:=List.getD z20 0 0,w1:=List.getD z20 1 0,w2:=List.getD z20 2 0,w3:=List.getD z20 3 0},()),())⟩))
     (gd [ok0 z22,decide (4<=List.length z24),decide ((4/1:Nat)+0<=List.length z25),decide (4<=List.length z26)] (.ok ⟨du,(({w0:=List.getD z26 0 0,w1:=List.getD z26 1 0,w2:=List.getD z26 2 0,w3:=List.getD z26 3 0},()),())⟩)))
    (.br (z0)
     (gd [ok0 z27,decide (4<=List.length z29),decide ((4/1:Nat)+0<=List.length z30),decide (4<=List.length z31)] (.ok ⟨du,(({w0:=List.getD z31 0 0,w1:=List.getD z31 1 0,w2:=List.getD z31 2 0,w3:=List.getD z31 3 0},()),())⟩))
     (gd [ok0 z32,decide (4<=List.length z34),decide ((4/1:Nat)+0<=List.length z35),decide (4<=List.length z36)] (.ok ⟨du,(({w0:=List.getD z36 0 0,w1:=List.getD z36 1 0,w2:=List.getD z36 2 0,w3:=List.getD z36 3 0},()),())⟩))))
   (.ok ⟨du,(({w0:=0,w1:=0,w2:=0,w3:=0},()),())⟩))))
theorem aEM (ok0:cq->Bool) (g0_0:cq->lM) (x:PL) (Q:gS.Y->Prop):wpf te FM (aO 0 (cl AZ 0 ok0 (H2 g0_0)) av) 1000 Tryz.f113 (gS.inp.inj x).tm (gS.inp.inj x).hp (fnK gS W9 Q) (λ_ _=>False)=(acx ok0 g0_0 (x.1.1) (x.1.2.1) (x.1.2.2.1)).wpR Q:=by kernel_rfl
theorem alJ (ok0:cq->Bool) (g0_0:cq->lM) (h0:∀ s:cq,ok0 s=true->∃ m e,al (vl) m s=some e/\(H2 g0_0 s).run=some e) (pre:PL->Bool) (F:PL->OT gS.Y) (hF:∀ (x:PL) oy,pre x=true->(F x).run=some oy->(acx ok0 g0_0 (x.1.1) (x.1.2.1) (x.1.2.2.1)).run=some oy):ac Tryz.prog 113 (gS.aI pre F):=
 aD ar wZ Na (f:=113) (fn:=Tryz.f113) (c:=aj Tryz.f113) (by kernel_rfl) (by kernel_rfl) (by kernel_rfl) (S:=gS) (k:=0) (by kernel_rfl) (λR hR=>(aB (c:=(aj Tryz.f113)) (by kernel_rfl) (id:=0) (by kernel_rfl) (aR ar wZ Na (sh:=AZ) hR (xs:=aiv) (aC (by kernel_rfl) (by kernel_rfl) hR) aL af (n:=1000) (T:=vl) (λs Q=>azd s Q) (ok:=ok0) (f:=H2 g0_0) h0) af)) (n:=1000) (sel:=W9) (λv o h=>by cases h;rfl) (pre:=pre) (F:=F) (T:=λx=>acx ok0 g0_0 (x.1.1) (x.1.2.1) (x.1.2.2.1)) (λx Q=>aEM ok0 g0_0 x Q) hF
theorem amL {s:Int} (h:s=0\/s=1) (a b:aa):(⟨(ofP (pS s) a).w0*(ofP (pS s) b).w0%VV s,0,0,0⟩:aa)=bP (pS s) a b:=by
 obtain ⟨hp,h0,h1,_⟩:=BB h
 rw [hp]
 generalize VV s=m at*
 have ha:=Nat.mod_lt a.nat h0
 have hb:=Nat.mod_lt b.nat h0
 have hc:=Nat.mod_lt (a.nat*b.nat) h0
 have hab:a.nat%m.toNat*(b.nat%m.toNat)<18446744073709551616:=by
  have:a.nat%m.toNat*(b.nat%m.toNat)<=16521217*16521217:=Nat.mul_le_mul (by omega) (by omega)
  omega
 unfold bP
 rw [tf (n:=a.nat*b.nat%m.toNat) (by omega)]
 have e:(ofP m.toNat a).w0*(ofP m.toNat b).w0%m=UInt64.ofNat (a.nat*b.nat%m.toNat):=by
  show UInt64.ofNat (a.nat%m.toNat)*UInt64.ofNat (b.nat%m.toNat)%m=_
  rw [<-UInt64.toNat_inj,UInt64.toNat_mod,UInt64.toNat_mul,UInt64.toNat_ofNat',UInt64.toNat_ofNat',UInt64.toNat_ofNat',Nat.mod_eq_of_lt (a:=a.nat%m.toNat) (by omega),Nat.mod_eq_of_lt (a:=b.nat%m.toNat) (by omega),
   Nat.mod_eq_of_lt (a:=a.nat%m.toNat*(b.nat%m.toNat)) (by omega),Nat.mod_eq_of_lt (a:=a.nat*b.nat%m.toNat) (by omega),<-Nat.mul_mod]
 rw [e]
def BV (p a b:Nat) (n o:Nat):Nat:=cond (afb b (255-n)) ((2*o%p+a)%p) (2*o%p)
theorem au5 (p a b:Nat) (hb:b<2^256):∀ n,n<=256->upto (BV p a b) 0 n=a*(b/2^(256-n))%p
 |0,_=>by
  show 0=_
  rw [Nat.div_eq_of_lt (by exact hb),Nat.mul_zero,Nat.zero_mod]
 |n+1,hn=>by
  show BV p a b n (upto (BV p a b) 0 n)=_
  rw [au5 p a b hb n (by omega)]
  have e1:256-n=(255-n)+1:=by omega
  have e2:256-(n+1)=255-n:=by omega
  rw [e1,e2,Nat.pow_succ,<-Nat.div_div_eq_div_mul]
  unfold BV afb
  generalize b/2^(255-n)=q
  have hd:2*(a*(q/2)%p)%p=a*(2*(q/2))%p:=by
   rw [Nat.mul_mod,Nat.mod_mod,<-Nat.mul_mod,Nat.mul_left_comm]
  cases hq:Nat.beq (q%2) 1
  ·simp only [cond_false]
   have:¬q%2=1:=λe=>by rw [e] at hq;cases hq
   rw [hd,show 2*(q/2)=q by omega]
  ·have hq:=Nat.eq_of_beq_eq_true hq
   simp only [cond_true]
   rw [hd,Nat.mod_add_mod]
   have e3:a*(2*(q/2))+a=a*q:=by
    rw [<-Nat.mul_succ,show (2*(q/2)).succ=q by omega]
   rw [e3]
theorem aHF {z M:aa} (h:Nat.blt z.nat M.nat=true):z=ofN (z.nat%M.nat):=by
 rw [Nat.mod_eq_of_lt (dR h),vT]
theorem aFa {n m:Nat} (h:Nat.blt n m=false):m<=n:=by
 rcases Nat.lt_or_ge n m with h'|h'
 ·have:Nat.blt n m=true:=Nat.ble_eq_true_of_le h'
  rw [this] at h;cases h
 ·exact h'
theorem aHE {z M:aa} (h:Nat.blt z.nat M.nat=false) (h2:z.nat<2*M.nat):(eu z M).1=ofN (z.nat%M.nat):=by
 have hle:=aFa h
 have hz:=jq z
 apply qM
 rw [mP hle,Nat.mod_eq_sub_mod hle,Nat.mod_eq_of_lt (by omega),km (by omega)]
theorem sum_nat {a b:aa} (h:a.nat+b.nat<115792089237316195423570985008687907853269984665640564039457584007913129639936):(qa a b).1.nat=a.nat+b.nat:=km h
theorem Lj {k:Nat} (hk:k<64):(((i2u (k:Int)).toNat:Nat):Int)=(k:Int):=by
 unfold i2u
 rw [UInt64.toNat_ofNat']
 omega
theorem aCg {b:aa} {n:Nat} (hn:n<256):(bk (List.getD (lst b) (Int.toNat (Int.tdiv (255-(n:Int)) 64)+0) 0) (((i2u (Int.tmod (255-(n:Int)) 64)).toNat:Nat):Int)&&&1==1)=afb b.nat (255-n):=by
 have t0:(255:Int)-(n:Int)=((255-n:Nat):Int):=by omega
 rw [t0]
 generalize hk:255-n=k
 have hk2:k<256:=by omega
 have t1:Int.tdiv (k:Int) 64=((k/64:Nat):Int):=by rw [Int.tdiv_eq_ediv_of_nonneg (by omega)];omega
 have t2:Int.tmod (k:Int) 64=((k%64:Nat):Int):=by rw [Int.tmod_eq_emod_of_nonneg (by omega)];omega
 rw [t1,t2,Lj (by omega),Vj,eZ _ _ (by omega),Int.toNat_natCast,Nat.add_zero]
 have:=rn (a:=b) (q:=k/64) (r:=k%64) (by omega) (by omega)
 rw [show 64*(k/64)+k%64=k by omega] at this
 unfold afb
 rw [<-this]
theorem aGL (e f:aa):List.set (List.set (List.set (List.set (lst e) 0 f.w0) 1 f.w1) 2 f.w2) 3 f.w3=lst f:=rfl
theorem aGU (e:aa):(⟨List.getD (lst e) 0 0,List.getD (lst e) 1 0,List.getD (lst e) 2 0,List.getD (lst e) 3 0⟩:aa)=e:=rfl
def au6 (A B:aa) (c2:List UInt64) (M:aa) (n o:Nat):cq:=(((),(),(),(),(),255-(n:Int),()),(lst A,lst B,c2,lst M,lst (ofN o),()))
theorem aGg {A B M:aa} {c2:List UInt64} {n o:Nat} (hn:n<256) (hA:A.nat<M.nat) (ho:o<M.nat) (hM:2*M.nat<=115792089237316195423570985008687907853269984665640564039457584007913129639936):
 (vl (au6 A B c2 M n o)).run=some (.inl (au6 A B c2 M (n+1) (BV M.nat A.nat B.nat n o))):=by
 have e2:(255:Int)-(n:Int)-1=255-((n+1:Nat):Int):=by omega
 have hO:(ofN o).nat=o:=km (by omega)
 have hz:(qa (ofN o) (ofN o)).1.nat=2*o:=by rw [sum_nat (by omega),hO];omega
 have hbit:=aCg (b:=B) hn
 have t0:(255:Int)-(n:Int)=((255-n:Nat):Int):=by omega
 have t1:Int.tdiv (255-(n:Int)) 64=(((255-n)/64:Nat):Int):=by rw [t0,Int.tdiv_eq_ediv_of_nonneg (by omega)];omega
 have gb:∀ z:OT (Sum cq aE),(gd [true&&inR (Int.tdiv (255-(n:Int)) 64),inB (Int.tdiv (255-(n:Int)) 64) 4,decide (Int.toNat (Int.tdiv (255-(n:Int)) 64)+0<(lst B).length)] z).run=z.run:=λz=>ah (by
  simp only [t1,Int.toNat_natCast,Nat.add_zero,cK,List.all_cons,List.all_nil,Bool.and_true,Bool.true_and,Bool.and_eq_true]
  exact ⟨aH (by omega),aN (by omega),decide_eq_true (by omega)⟩)
 have gb2:∀ z:OT (Sum cq aE),(gd [true,true,true,true&&inR (Int.tdiv (255-(n:Int)) 64),inB (Int.tdiv (255-(n:Int)) 64) 4,decide (Int.toNat (Int.tdiv (255-(n:Int)) 64)+0<(lst B).length)] z).run=z.run:=λz=>ah (by
  simp only [t1,Int.toNat_natCast,Nat.add_zero,cK,List.all_cons,List.all_nil,Bool.and_true,Bool.true_and,Bool.and_eq_true]
  exact ⟨aH (by omega),aN (by omega),decide_eq_true (by omega)⟩)
 have hi:inR ((255:Int)-(n:Int)-1)=true:=aH (by omega)
 have gi:∀ z:OT (Sum cq aE),(gd [inR ((255:Int)-(n:Int)-1)] z).run=z.run:=λz=>ah (by simp only [hi,List.all_cons,List.all_nil,Bool.and_true])
 have gi2:∀ z:OT (Sum cq aE),(gd [true,true,true,inR ((255:Int)-(n:Int)-1)] z).run=z.run:=λz=>ah (by simp only [hi,List.all_cons,List.all_nil,Bool.and_true])
 --behind the doubling
 have tail:∀ D:aa,D=ofN (2*o%M.nat)->
  (OT.br (bk (List.getD (lst B) (Int.toNat (Int.tdiv (255-(n:Int)) 64)+0) 0) (((i2u (Int.tmod (255-(n:Int)) 64)).toNat:Nat):Int)&&&1==1)
   (gd [true,true,true,true,true] (OT.br (!Nat.blt (qa D A).1.nat M.nat)
    (gd [true,true,true,inR ((255:Int)-(n:Int)-1)] (.ok (.inl (((),(),(),(),(),(255:Int)-(n:Int)-1,()),(lst A,lst B,c2,lst M,lst (eu (qa D A).1 M).1,())))))
    (gd [inR ((255:Int)-(n:Int)-1)] (.ok (.inl (((),(),(),(),(),(255:Int)-(n:Int)-1,()),(lst A,lst B,c2,lst M,lst (qa D A).1,())))))))
   (gd [inR ((255:Int)-(n:Int)-1)] (.ok (.inl (((),(),(),(),(),(255:Int)-(n:Int)-1,()),(lst A,lst B,c2,lst M,lst D,()))))):OT (Sum cq aE)).run
  =some (.inl (au6 A B c2 M (n+1) (BV M.nat A.nat B.nat n o))):=λD hD=>by
  rw [hbit,e2]
  rw [e2] at gi gi2
  have hlt:=Nat.mod_lt (2*o) (show 0<M.nat by omega)
  have hDn:D.nat=2*o%M.nat:=by rw [hD];exact km (by omega)
  have hw:(qa D A).1.nat=2*o%M.nat+A.nat:=by rw [sum_nat (by omega),hDn]
  unfold BV
  rcases (Bool.eq_false_or_eq_true (afb B.nat (255-n))).symm with hb|hb
  ·rw [hb,hD]
   exact (OT.aq rfl).trans (gi _)
  ·rw [hb]
   refine (OT.ao rfl).trans ((ah rfl).trans ?_)
   rcases (Bool.eq_false_or_eq_true (Nat.blt (qa D A).1.nat M.nat)).symm with hc|hc
   ·have er:=aHE hc (by omega)
    rw [hw] at er
    refine (OT.ao (by rw [hc];rfl)).trans ((gi2 _).trans ?_)
    rw [er]
    rfl
   ·have er:=aHF hc
    rw [hw] at er
    refine (OT.aq (by rw [hc];rfl)).trans ((gi _).trans ?_)
    rw [er]
    rfl
 show (S2 (255-(n:Int)) (lst A) (lst B) c2 (lst M) (lst (ofN o))).run=_
 unfold S2
 simp only [aGL,aGU,cK]
 refine (OT.ao (decide_eq_true (by omega))).trans ((ah rfl).trans ?_)
 rcases (Bool.eq_false_or_eq_true (Nat.blt (qa (ofN o) (ofN o)).1.nat M.nat)).symm with hc|hc
 ·have er:=aHE hc (by omega)
  rw [hz] at er
  exact (OT.ao (b:= !Nat.blt (qa (ofN o) (ofN o)).1.nat M.nat) (by rw [hc];rfl)).trans ((gb2 _).trans (tail _ er))
 ·have er:=aHF hc
  rw [hz] at er
  exact (OT.aq (b:= !Nat.blt (qa (ofN o) (ofN o)).1.nat M.nat) (by rw [hc];rfl)).trans ((gb _).trans (tail _ er))
def Xa (s:cq):Bool:=decide (s.1.2.2.2.2.2.1=255/\s.2.1.length=4/\s.2.2.1.length=4/\s.2.2.2.2.1.length=4/\s.2.2.2.2.2.1= [0,0,0,0]/\(elemOf s.2.1).nat<(elemOf s.2.2.2.2.1).nat/\2*(elemOf s.2.2.2.2.1).nat<=115792089237316195423570985008687907853269984665640564039457584007913129639936)
def aiw (s:cq):lM:=(((),(),()),(s.2.2.2.1,lst (ofN ((elemOf s.2.1).nat*(elemOf s.2.2.1).nat%(elemOf s.2.2.2.2.1).nat)),()))
theorem azf:∀ s:cq,Xa s=true->∃ m e,al vl m s=some e/\(H2 aiw s).run=some e:=by
 rintro ⟨⟨⟨⟩,⟨⟩,⟨⟩,⟨⟩,⟨⟩,i,⟨⟩⟩,⟨l0,l1,c2,l3,l4,⟨⟩⟩⟩ h
 have h':=of_decide_eq_true h
 dsimp only at h'
 obtain ⟨rfl,h0,h1,h3,rfl,hA,hM⟩:=h'
 obtain ⟨A,rfl⟩:∃ a,l0=lst a:=⟨elemOf l0,(aS h0).symm⟩
 obtain ⟨B,rfl⟩:∃ a,l1=lst a:=⟨elemOf l1,(aS h1).symm⟩
 obtain ⟨M,rfl⟩:∃ a,l3=lst a:=⟨elemOf l3,(aS h3).symm⟩
 have hA:A.nat<M.nat:=hA
 have:=(aP (T:=vl) (au6 A B c2 M) (BV M.nat A.nat B.nat)
  (λo=>(⟨(.exit 0,vk),(((),(),()),(c2,lst (ofN o),()))⟩:aE)) 256 0 (λ_ o=>o<M.nat) (by omega) (λn o hn ho=>⟨aGg hn hA ho hM,?_⟩) (λo ho=> ?_)).1
 ·rw [au5 M.nat A.nat B.nat (jq B) 256 (by omega),Nat.sub_self,Nat.pow_zero,Nat.div_one] at this
  obtain ⟨m,hm⟩:=this
  exact ⟨m,_,hm,rfl⟩
 ·unfold BV
  cases afb B.nat (255-n)
  ·exact Nat.mod_lt _ (by omega)
  ·exact Nat.mod_lt _ (by omega)
 ·exact OT.aq (decide_eq_false (by dsimp only [au6];omega))
def fa (x:PL):Bool:=ap x.1.1
def ass (x:PL):OT gS.Y:=.ok ⟨du,((bP (pS x.1.1) x.1.2.1 x.1.2.2.1,()),())⟩
theorem atm {s:Int} (hs:ap s=true) (a b:aa):ofN ((ofP (pS s) a).nat*(ofP (pS s) b).nat%pS s)=bP (pS s) a b:=by
 have hp:=oW hs
 unfold ofP bP
 rw [dg hp,dg hp,<-Nat.mul_mod]
theorem aze:ac Tryz.prog 113 (gS.aI fa ass):=alJ Xa aiw azf _ _ λx oy hp ho=>by
 rw [<-ho]
 clear ho
 obtain ⟨⟨s,a,b,⟨⟩⟩,⟨⟩⟩:=x
 have hs:ap s=true:=hp
 show _=some (⟨du,((bP (pS s) a b,()),())⟩:gS.Y)
 have little:(s=0\/s=1)->(gd [!(VV s==0)] (.ok ⟨du,((⟨(ofP (pS s) a).w0*(ofP (pS s) b).w0%VV s,0,0,0⟩,()),())⟩):OT gS.Y).run=some (⟨du,((bP (pS s) a b,()),())⟩:gS.Y):=λh=>by
  obtain ⟨_,_,_,hz⟩:=BB h
  rw [amL h]
  exact ah (by simp only [hz,List.all_cons,List.all_nil,Bool.and_true])
 by_cases h0:s=0
 ·exact (OT.ao (by simpa using h0)).trans ((OT.ao hs).trans ((OT.ao hs).trans (little (.inl h0))))
 ·refine (OT.aq (by simpa using h0)).trans ?_
  by_cases h1:s=1
  ·exact (OT.ao (by simpa using h1)).trans ((OT.ao hs).trans ((OT.ao hs).trans (little (.inr h1))))
  ·refine (OT.aq (by simpa using h1)).trans ((OT.ao hs).trans ((OT.ao hs).trans ((OT.ao hs).trans ?_)))
   have hpp:=oW hs
   have hA:(ofP (pS s) a).nat<pS s:=by
    show (ofN _).nat<_
    rw [dg hpp]
    exact Nat.mod_lt _ hpp.1
   refine (ah ?_).trans ?_
   ·simp only [List.all_cons,List.all_nil,Bool.and_true,Bool.and_eq_true]
    exact ⟨decide_eq_true ⟨rfl,rfl,rfl,rfl,rfl,hA,(by show 2*pS s<=_;omega)⟩,rfl,rfl,rfl⟩
   ·rw [<-atm hs]
    show some (⟨du,((elemOf (lay [0,0,0,0] (lst (ofN ((ofP (pS s) a).nat*(ofP (pS s) b).nat%pS s))) 4 0),()),())⟩:gS.Y)=_
    rw [aGQ _ _ rfl rfl]
    rfl
def D4:cn:=(gS.aI fa ass)
theorem acw:ac Tryz.prog 113 D4:=aze
theorem acv:aG D4:=aA
def zD:Env:=ay 113 D4 FM
theorem pK:aQ Tryz.prog zD:=ag acw wZ
theorem G0:ax zD:=ae acv GZ
theorem zC:aW Tryz.prog te zD:=aJ follows ar pK G0
def jy:aw:=⟨[.val false .int,.val true .elem,.val true .elem],[],true,0,false⟩
abbrev PU:Type:=((Int)×(aa)×(aa)×Unit)×(Unit)
def A4:Shape:=⟨53,[(0,.val false .int),(4,.ptr 0 0 0),(5,.ptr 1 0 0),(6,.ptr 2 0 0),(7,.ptr 3 0 0),(8,.val false .int)],[(0,.row .u64),(1,.row .u64),(2,.row .u64),(3,.row .u64)],0,true⟩
abbrev cX:Type:=((Int)×(Unit)×(Unit)×(Unit)×(Unit)×(Int)×Unit)×((List (UInt64))×(List (UInt64))×(List (UInt64))×(List (UInt64))×Unit)
def ox:Shape:=⟨53,[(0,.val false .int),(4,.ptr 0 0 0),(5,.ptr 1 0 0),(6,.ptr 2 0 0),(7,.ptr 3 0 0),(8,.val false .int)],[(0,.row .u64),(1,.row .u64),(2,.row .u64),(3,.row .u64)],0,true⟩
abbrev lR:Type:=((Int)×(Unit)×(Unit)×(Unit)×(Unit)×(Int)×Unit)×((List (UInt64))×(List (UInt64))×(List (UInt64))×(List (UInt64))×Unit)
def aiC:SE->Option Shape:=fC [(0,ox)] none
def azo (a0:Int) (a8:Int) (c0:List (UInt64)) (c1:List (UInt64)) (c2:List (UInt64)) (c3:List (UInt64)):OT (Sum cX aE):=
 let z0:Int:=Int.tdiv a8 (64:Int)
 (.br (decide ((0:Int)<=a8))
 (gd [true&&inR z0,inB z0 4,decide (Int.toNat z0+0<List.length c1)] (.br (bk (List.getD c1 (Int.toNat z0+0) (0:UInt64)) (↑(UInt64.toNat (i2u (Int.tmod a8 (64:Int)))):Int)&&&(1:UInt64)==(0:UInt64))
  (gd [inR (a8-(1:Int))] (.ok (.inl ((a0,((),((),((),((),(a8-(1:Int),())))))),(c0,(c1,(c2,(c3,()))))))))
  (.ok (.inr ⟨(.exit 0,ox),((a0,((),((),((),((),(a8,())))))),(c0,(c1,(c2,(c3,())))))⟩))))
 (.ok (.inr ⟨(.exit 0,ox),((a0,((),((),((),((),(a8,())))))),(c0,(c1,(c2,(c3,())))))⟩)))
def A5 (s:cX):OT (Sum cX aE):=azo (s.1.1) (s.1.2.2.2.2.2.1) (s.2.1) (s.2.2.1) (s.2.2.2.1) (s.2.2.2.2.1)
theorem azk (s:cX) (Q:Sum cX aE->Prop):wps te zD av 1000 (aU (aj Tryz.f129) 0) (A4.inj s) (bY A4 aiC (Q:Sum A4.T aE->Prop))=(A5 s).wpR Q:=by kernel_rfl
def H4 (g0_0:cX->lR) (s:cX):OT aE:=(.ok ⟨(.exit 0,ox),g0_0 s⟩)
def A3:Shape:=⟨53,[(0,.val false .int),(4,.ptr 0 0 0),(5,.ptr 1 0 0),(6,.ptr 2 0 0),(7,.ptr 3 0 0),(9,.val false .int)],[(0,.row .u64),(1,.row .u64),(2,.row .u64),(3,.row .u64)],0,true⟩
abbrev dh:Type:=((Int)×(Unit)×(Unit)×(Unit)×(Unit)×(Int)×Unit)×((List (UInt64))×(List (UInt64))×(List (UInt64))×(List (UInt64))×Unit)
def vp:Shape:=⟨53,[(6,.ptr 0 0 0),(7,.ptr 1 0 0)],[(0,.row .u64),(1,.row .u64)],0,true⟩
abbrev lQ:Type:=((Unit)×(Unit)×Unit)×((List (UInt64))×(List (UInt64))×Unit)
def aiB:SE->Option Shape:=fC [(2,vp)] none
def S7 (a0:Int) (a9:Int) (c0:List (UInt64)) (c1:List (UInt64)) (c2:List (UInt64)) (c3:List (UInt64)):OT (Sum dh aE):=
 let z0:Nat:=List.length c3
 let z1:Bool:=decide (4<=z0)
 let z2:aa:= {w0:=List.getD c3 0 0,w1:=List.getD c3 1 0,w2:=List.getD c3 2 0,w3:=List.getD c3 3 0}
 let z3:Int:=Int.tdiv a9 (64:Int)
 let z4:Nat:=pS a0
 let z5:aa:=bP z4 z2 z2
 let z6:List UInt64:=List.set (List.set (List.set (List.set c3 0 z5.w0) 1 z5.w1) 2 z5.w2) 3 z5.w3
 let z7:Nat:=List.length z6
 let z8:aa:= {w0:=List.getD z6 0 0,w1:=List.getD z6 1 0,w2:=List.getD z6 2 0,w3:=List.getD z6 3 0}
 let z9:aa:= {w0:=List.getD c0 0 0,w1:=List.getD c0 1 0,w2:=List.getD c0 2 0,w3:=List.getD c0 3 0}
 let z10:Bool:=inR (a9-(1:Int))
 let z11:aa:=bP z4 z8 z9
 (.br (decide ((0:Int)<=a9))
 (gd [z1,z1,fa ((a0,z2,z2,()),()),decide ((4/1:Nat)+0<=z0),true&&inR z3,inB z3 4,decide (Int.toNat z3+0<List.length c1)] (.br (bk (List.getD c1 (Int.toNat z3+0) (0:UInt64)) (↑(UInt64.toNat (i2u (Int.tmod a9 (64:Int)))):Int)&&&(1:UInt64)==(1:UInt64))
  (gd [decide (4<=z7),decide (4<=List.length c0),fa ((a0,z8,z9,()),()),decide ((4/1:Nat)+0<=z7),z10] (.ok (.inl ((a0,((),((),((),((),(a9-(1:Int),())))))),(c0,(c1,(c2,(List.set (List.set (List.set (List.set z6 0 z11.w0) 1 z11.w1) 2 z11.w2) 3 z11.w3,()))))))))
  (gd [z10] (.ok (.inl ((a0,((),((),((),((),(a9-(1:Int),())))))),(c0,(c1,(c2,(z6,()))))))))))
 (.ok (.inr ⟨(.exit 2,vp),(((),((),())),(c2,(c3,())))⟩)))
def vq (s:dh):OT (Sum dh aE):=S7 (s.1.1) (s.1.2.2.2.2.2.1) (s.2.1) (s.2.2.1) (s.2.2.2.1) (s.2.2.2.2.1)
theorem azj (s:dh) (Q:Sum dh aE->Prop):wps te zD av 1000 (aU (aj Tryz.f129) 2) (A3.inj s) (bY A3 aiB (Q:Sum A3.T aE->Prop))=(vq s).wpR Q:=by kernel_rfl
def H3 (g2_2:dh->lQ) (s:dh):OT aE:=(.ok ⟨(.exit 2,vp),g2_2 s⟩)
def vo:az:=⟨[.val true .elem],[],false⟩
def Xn:SV->Option az:=λ_=>some vo
def acO (ok0:cX->Bool) (g0_0:cX->lR) (ok2:dh->Bool) (g2_2:dh->lQ) (a0:Int) (a1:aa) (a2:aa):OT jy.Y:=
 let z0:Int×PUnit×PUnit×PUnit×PUnit×Int×PUnit:=(a0,(),(),(),(),(255:Int),())
 let z1:aa:=ofP (pS a0) {w0:=1,w1:=0,w2:=0,w3:=0}
 let z2:(Int×PUnit×PUnit×PUnit×PUnit×Int×PUnit)×List UInt64×List UInt64×List UInt64×List UInt64×PUnit:=(z0,[a1.w0,a1.w1,a1.w2,a1.w3],[a2.w0,a2.w1,a2.w2,a2.w3],[(0:UInt64),(0:UInt64),(0:UInt64),(0:UInt64)],[z1.w0,z1.w1,z1.w2,z1.w3],())
 let z3:(Int×PUnit×PUnit×PUnit×PUnit×Int×PUnit)×List UInt64×List UInt64×List UInt64×List UInt64×PUnit:=g0_0 z2
 let z4:=z3.fst
 let z5:=z3.snd
 let z6:=z5.snd
 let z7:=z6.snd
 let z8:(Int×PUnit×PUnit×PUnit×PUnit×Int×PUnit)×List UInt64×List UInt64×List UInt64×List UInt64×PUnit:=((z4.fst,(),(),(),(),z4.snd.snd.snd.snd.snd.fst,()),z5.fst,z6.fst,z7.fst,z7.snd.fst,())
 let z9:=(g2_2 z8).snd
 let z10:=z9.snd.fst
 let z11:=z9.fst
 let z12:List UInt64:=lay z11 z10 4 (0:UInt64)
 let z13:(Int×PUnit×PUnit×PUnit×PUnit×Int×PUnit)×List UInt64×List UInt64×List UInt64×List UInt64×PUnit:=(z0,[a1.w0,a1.w1,a1.w2,a1.w3],[a2.w0,a2.w1,a2.w2,a2.w3],[(0:UInt64),(0:UInt64),(0:UInt64),(0:UInt64)],[(0:UInt64),(0:UInt64),(0:UInt64),(0:UInt64)],())
 let z14:(Int×PUnit×PUnit×PUnit×PUnit×Int×PUnit)×List UInt64×List UInt64×List UInt64×List UInt64×PUnit:=g0_0 z13
 let z15:=z14.fst
 let z16:=z14.snd
 let z17:=z16.snd
 let z18:=z17.snd
 let z19:(Int×PUnit×PUnit×PUnit×PUnit×Int×PUnit)×List UInt64×List UInt64×List UInt64×List UInt64×PUnit:=((z15.fst,(),(),(),(),z15.snd.snd.snd.snd.snd.fst,()),z16.fst,z17.fst,z18.fst,z18.snd.fst,())
 let z20:=(g2_2 z19).snd
 let z21:=z20.snd.fst
 let z22:=z20.fst
 let z23:List UInt64:=lay z22 z21 4 (0:UInt64)
 (.br (ap a0)
 (gd [ok0 z2,ok2 z8,decide (4<=List.length z10),decide ((4/1:Nat)+0<=List.length z11),decide (4<=List.length z12)] (.ok ⟨vo,(({w0:=List.getD z12 0 0,w1:=List.getD z12 1 0,w2:=List.getD z12 2 0,w3:=List.getD z12 3 0},()),())⟩))
 (gd [ok0 z13,ok2 z19,decide (4<=List.length z21),decide ((4/1:Nat)+0<=List.length z22),decide (4<=List.length z23)] (.ok ⟨vo,(({w0:=List.getD z23 0 0,w1:=List.getD z23 1 0,w2:=List.getD z23 2 0,w3:=List.getD z23 3 0},()),())⟩)))
theorem aEQ (ok0:cX->Bool) (g0_0:cX->lR) (ok2:dh->Bool) (g2_2:dh->lQ) (x:PU) (Q:jy.Y->Prop):wpf te zD (aO 2 (cl A3 2 ok2 (H3 g2_2)) (aO 0 (cl A4 0 ok0 (H4 g0_0)) av)) 1000 Tryz.f129 (jy.inp.inj x).tm (jy.inp.inj x).hp (fnK jy Xn Q) (λ_ _=>False)=(acO ok0 g0_0 ok2 g2_2 (x.1.1) (x.1.2.1) (x.1.2.2.1)).wpR Q:=by kernel_rfl
theorem alS (ok0:cX->Bool) (g0_0:cX->lR) (ok2:dh->Bool) (g2_2:dh->lQ) (h0:∀ s:cX,ok0 s=true->∃ m e,al (A5) m s=some e/\(H4 g0_0 s).run=some e) (h2:∀ s:dh,ok2 s=true->∃ m e,al (vq) m s=some e/\(H3 g2_2 s).run=some e) (pre:PU->Bool) (F:PU->OT jy.Y) (hF:∀ (x:PU) oy,pre x=true->(F x).run=some oy->(acO ok0 g0_0 ok2 g2_2 (x.1.1) (x.1.2.1) (x.1.2.2.1)).run=some oy):ac Tryz.prog 129 (jy.aI pre F):=
 aD ar pK zC (f:=129) (fn:=Tryz.f129) (c:=aj Tryz.f129) (by kernel_rfl) (by kernel_rfl) (by kernel_rfl) (S:=jy) (k:=0) (by kernel_rfl) (λR hR=>(aB (c:=(aj Tryz.f129)) (by kernel_rfl) (id:=2) (by kernel_rfl) (aR ar pK zC (sh:=A3) hR (xs:=aiB) (aC (by kernel_rfl) (by kernel_rfl) hR) aL af (n:=1000) (T:=vq) (λs Q=>azj s Q) (ok:=ok2) (f:=H3 g2_2) h2) (aB (c:=(aj Tryz.f129)) (by kernel_rfl) (id:=0) (by kernel_rfl) (aR ar pK zC (sh:=A4) hR (xs:=aiC) (aC (by kernel_rfl) (by kernel_rfl) hR) aL af (n:=1000) (T:=A5) (λs Q=>azk s Q) (ok:=ok0) (f:=H4 g0_0) h0) af))) (n:=1000) (sel:=Xn) (λv o h=>by cases h;rfl) (pre:=pre) (F:=F) (T:=λx=>acO ok0 g0_0 ok2 g2_2 (x.1.1) (x.1.2.1) (x.1.2.2.1)) (λx Q=>aEQ ok0 g0_0 ok2 g2_2 x Q) hF
theorem adf {p:Nat}:∀ (n o x k:Nat),k<2^n->o<p->aBQ p n o x k=o*x^k%p
 |0,o,x,k,hk,ho=>by
  have:k=0:=by omega
  subst this
  show o=_
  rw [Nat.pow_zero,Nat.mul_one,Nat.mod_eq_of_lt ho]
 |n+1,o,x,k,hk,ho=>by
  unfold aBQ
  rw [Nat.pow_succ] at hk
  cases h0:Nat.beq k 0
  ·simp only [cond_false]
   have hsq:(x*x%p)^(k/2)%p=x^(2*(k/2))%p:=by
    rw [<-Nat.pow_mod,Nat.pow_mul,Nat.pow_two]
   cases h1:Nat.beq (k%2) 1
   ·have h1':¬k%2=1:=λe=>by rw [e] at h1;cases h1
    simp only [cond_false]
    rw [adf n _ _ _ (by omega) ho,Nat.mul_mod,hsq,<-Nat.mul_mod,show 2*(k/2)=k by omega]
   ·have h1:=Nat.eq_of_beq_eq_true h1
    simp only [cond_true]
    rw [adf n _ _ _ (by omega) (Nat.mod_lt _ (by omega)),Nat.mul_mod,hsq,Nat.mod_mod,<-Nat.mul_mod,Nat.mul_assoc,<-Nat.pow_succ',show (2*(k/2)).succ=k by omega]
  ·have h0:=Nat.eq_of_beq_eq_true h0
   subst h0
   simp only [cond_true]
   rw [Nat.pow_zero,Nat.mul_one,Nat.mod_eq_of_lt ho]
theorem auR {p:Nat} (hp:1<p) (a k:aa):gO p a k=ofN (a.nat^k.nat%p):=by
 rw [UK (by omega),adf 256 1 _ _ (jq k) hp,Nat.one_mul,<-Nat.pow_mod]
theorem aJI {b:aa} {k:Nat} (hk:k<256):(bk (List.getD (lst b) (Int.toNat (Int.tdiv (k:Int) 64)+0) 0) (((i2u (Int.tmod (k:Int) 64)).toNat:Nat):Int)&&&1==1)=afb b.nat k:=by
 have h:=aCg (b:=b) (n:=255-k) (by omega)
 rw [show (255:Int)-((255-k:Nat):Int)=(k:Int) by omega,show 255-(255-k)=k by omega] at h
 exact h
theorem aCq (x:UInt64):(x&&&1==0)= !(x&&&1==1):=by
 have h:=Vj x
 have e:(x&&&1).toNat=x.toNat%2:=by
  rw [UInt64.toNat_and]
  exact Nat.and_two_pow_sub_one_eq_mod x.toNat 1
 have h2:x.toNat%2=0\/x.toNat%2=1:=by omega
 rcases h2 with h2|h2
 ·have:x&&&1=0:=UInt64.toNat_inj.1 (by rw [e,h2];rfl)
  rw [this];rfl
 ·have:x&&&1=1:=UInt64.toNat_inj.1 (by rw [e,h2];rfl)
  rw [this];rfl
def aCP (e:Nat):Nat->Int
 |0=> -1
 |n+1=>cond (afb e n) (n:Int) (aCP e n)
theorem akJ {e n:Nat} (h:afb e n=false):e/2^n%2=0:=by
 unfold afb at h
 have:¬e/2^n%2=1:=λe=>by rw [e] at h;cases h
 omega
theorem Wa (e:Nat):∀ n,e/2^n=0->∃ t:Nat,aCP e n=(t:Int)-1/\t<=n/\e/2^t=0
 |0,h=>⟨0,rfl,Nat.le_refl _,h⟩
 |n+1,h=>by
  unfold aCP
  cases hb:afb e n
  ·simp only [cond_false]
   have h0:=akJ hb
   have h1:e/2^n/2=0:=by rw [Nat.div_div_eq_div_mul,<-Nat.pow_succ];exact h
   obtain ⟨t,e1,e2,e3⟩:=Wa e n (by omega)
   exact ⟨t,e1,by omega,e3⟩
  ·exact ⟨n+1,by simp only [cond_true];omega,Nat.le_refl _,h⟩
def OO (s:Int) (A B:aa) (c2:List UInt64) (O:aa) (i:Int):cX:=((s,(),(),(),(),i,()),(lst A,lst B,c2,lst O,()))
theorem aIq {B:aa} {k:Nat} (hk:k<256) {α:Type} (z:OT α):(gd [true&&inR (Int.tdiv (k:Int) 64),inB (Int.tdiv (k:Int) 64) 4,decide (Int.toNat (Int.tdiv (k:Int) 64)+0<(lst B).length)] z).run=z.run:=by
 have t1:Int.tdiv (k:Int) 64=((k/64:Nat):Int):=by rw [Int.tdiv_eq_ediv_of_nonneg (by omega)];omega
 refine ah ?_
 simp only [t1,Int.toNat_natCast,Nat.add_zero,cK,List.all_cons,List.all_nil,Bool.and_true,Bool.true_and,Bool.and_eq_true]
 exact ⟨aH (by omega),aN (by omega),decide_eq_true (by omega)⟩
theorem aj5 (s:Int) (A B:aa) (c2:List UInt64) (O:aa):∀ n:Nat,n<=256->∃ m,al A5 m (OO s A B c2 O ((n:Int)-1))=some ⟨(.exit 0,ox),OO s A B c2 O (aCP B.nat n)⟩
 |0,_=>⟨1,aM (OT.aq (decide_eq_false (by dsimp only [OO];omega)))⟩
 |n+1,hn=>by
  have e1:((n+1:Nat):Int)-1=(n:Int):=by omega
  rw [e1]
  have hb:=aJI (b:=B) (k:=n) (by omega)
  unfold aCP
  rcases (Bool.eq_false_or_eq_true (afb B.nat n)).symm with h|h
  ·obtain ⟨m,hm⟩:=aj5 s A B c2 O n (by omega)
   rw [h] at hb⊢
   refine ⟨m+1,aF ?_ hm⟩
   refine (OT.ao (decide_eq_true (by dsimp only [OO];omega))).trans ((aIq (B:=B) (k:=n) (by omega) _).trans ((OT.ao ?_).trans ((ah ?_).trans rfl)))
   ·exact (aCq _).trans (congrArg Bool.not hb)
   ·simp only [List.all_cons,List.all_nil,Bool.and_true]
    exact aH (by dsimp only [OO];omega)
  ·rw [h] at hb⊢
   refine ⟨1,aM ?_⟩
   refine (OT.ao (decide_eq_true (by dsimp only [OO];omega))).trans ((aIq (B:=B) (k:=n) (by omega) _).trans ((OT.aq ?_).trans rfl))
   exact (aCq _).trans (congrArg Bool.not hb)
def Xo (s:cX):Bool:=decide (s.1.2.2.2.2.2.1=255/\s.2.1.length=4/\s.2.2.1.length=4/\s.2.2.2.2.1.length=4)
def aiE (s:cX):lR:=((s.1.1,(),(),(),(),aCP (elemOf s.2.2.1).nat 256,()),s.2)
theorem azn:∀ s:cX,Xo s=true->∃ m e,al A5 m s=some e/\(H4 aiE s).run=some e:=by
 rintro ⟨⟨s,⟨⟩,⟨⟩,⟨⟩,⟨⟩,i,⟨⟩⟩,⟨l0,l1,c2,l3,⟨⟩⟩⟩ h
 have h':=of_decide_eq_true h
 dsimp only at h'
 obtain ⟨rfl,h0,h1,h3⟩:=h'
 obtain ⟨A,rfl⟩:∃ a,l0=lst a:=⟨elemOf l0,(aS h0).symm⟩
 obtain ⟨B,rfl⟩:∃ a,l1=lst a:=⟨elemOf l1,(aS h1).symm⟩
 obtain ⟨O,rfl⟩:∃ a,l3=lst a:=⟨elemOf l3,(aS h3).symm⟩
 obtain ⟨m,hm⟩:=aj5 s A B c2 O 256 (by omega)
 exact ⟨m,_,hm,rfl⟩
theorem aF4 {s:Int} (hs:ap s=true) (A B:aa) (c2:List UInt64) (O:aa) {k:Nat} (hk:k<256) (hO:O=ofN (A.nat^(B.nat/2^(k+1))%pS s)):
 (vq (OO s A B c2 O (k:Int))).run=some (.inl (OO s A B c2 (ofN (A.nat^(B.nat/2^k)%pS s)) ((k:Int)-1))):=by
 have hp:=oW hs
 have hb:=aJI (b:=B) (k:=k) hk
 have t1:Int.tdiv (k:Int) 64=((k/64:Nat):Int):=by rw [Int.tdiv_eq_ediv_of_nonneg (by omega)];omega
 have hOn:O.nat=A.nat^(B.nat/2^(k+1))%pS s:=by rw [hO];exact dg hp
 have hi:inR ((k:Int)-1)=true:=aH (by omega)
 have hpre:∀ x y,fa ((s,x,y,()),())=true:=λ_ _=>hs
 have hD:bP (pS s) O O=ofN (A.nat^(2*(B.nat/2^(k+1)))%pS s):=by
  unfold bP
  rw [hOn,<-Nat.mul_mod,<-Nat.pow_add,<-Nat.two_mul]
 have hq:B.nat/2^k/2=B.nat/2^(k+1):=by rw [Nat.div_div_eq_div_mul,<-Nat.pow_succ]
 show (S7 s (k:Int) (lst A) (lst B) c2 (lst O)).run=_
 unfold S7
 simp only [aGL,aGU,cK,hpre,hi]
 refine (OT.ao (decide_eq_true (by omega))).trans ((ah ?_).trans ?_)
 ·simp only [t1,Int.toNat_natCast,Nat.add_zero,cK,List.all_cons,List.all_nil,Bool.and_true,Bool.true_and,Bool.and_eq_true]
  exact ⟨rfl,rfl,rfl,aH (by omega),aN (by omega),decide_eq_true (by omega)⟩
 ·rcases (Bool.eq_false_or_eq_true (afb B.nat k)).symm with h|h
  ·have h0:=akJ h
   rw [h] at hb
   refine (OT.aq hb).trans ((ah rfl).trans ?_)
   rw [hD,<-hq,show 2*(B.nat/2^k/2)=B.nat/2^k by omega]
   rfl
  ·have h0:B.nat/2^k%2=1:=Nat.eq_of_beq_eq_true h
   rw [h] at hb
   refine (OT.ao hb).trans ((ah rfl).trans ?_)
   have e:bP (pS s) (bP (pS s) O O) A=ofN (A.nat^(B.nat/2^k)%pS s):=by
    have e2:(bP (pS s) O O).nat=A.nat^(2*(B.nat/2^(k+1)))%pS s:=by rw [hD];exact dg hp
    show ofN (_*_%_)=_
    rw [e2,Nat.mod_mul_mod,<-Nat.pow_succ,<-hq,show (2*(B.nat/2^k/2)).succ=B.nat/2^k by omega]
   rw [e]
   rfl
theorem aj4 {s:Int} (hs:ap s=true) (A B:aa) (c2:List UInt64):∀ (n:Nat) (O:aa),n<=256->O=ofN (A.nat^(B.nat/2^n)%pS s)->
 ∃ m,al vq m (OO s A B c2 O ((n:Int)-1))=some ⟨(.exit 2,vp),(((),(),()),(c2,lst (ofN (A.nat^B.nat%pS s)),()))⟩
 |0,O,_,hO=>by
  rw [Nat.pow_zero,Nat.div_one] at hO
  rw [<-hO]
  exact ⟨1,aM (OT.aq (decide_eq_false (by dsimp only [OO];omega)))⟩
 |n+1,O,hn,hO=>by
  obtain ⟨m,hm⟩:=aj4 hs A B c2 n (ofN (A.nat^(B.nat/2^n)%pS s)) (by omega) rfl
  rw [show ((n+1:Nat):Int)-1=(n:Int) by omega]
  exact ⟨m+1,aF (aF4 hs A B c2 O (by omega) hO) hm⟩
def JO (s:dh):Bool:=ap s.1.1&&decide (s.1.2.2.2.2.2.1=aCP (elemOf s.2.2.1).nat 256/\s.2.1.length=4/\s.2.2.1.length=4/\s.2.2.2.2.1=lst (ofP (pS s.1.1) ⟨1,0,0,0⟩))
def aiD (s:dh):lQ:=(((),(),()),(s.2.2.2.1,lst (ofN ((elemOf s.2.1).nat^(elemOf s.2.2.1).nat%pS s.1.1)),()))
theorem azm:∀ s:dh,JO s=true->∃ m e,al vq m s=some e/\(H3 aiD s).run=some e:=by
 rintro ⟨⟨s,⟨⟩,⟨⟩,⟨⟩,⟨⟩,i,⟨⟩⟩,⟨l0,l1,c2,l3,⟨⟩⟩⟩ h
 simp only [JO,Bool.and_eq_true,decide_eq_true_eq] at h
 obtain ⟨hs,rfl,h0,h1,rfl⟩:=h
 obtain ⟨A,rfl⟩:∃ a,l0=lst a:=⟨elemOf l0,(aS h0).symm⟩
 obtain ⟨B,rfl⟩:∃ a,l1=lst a:=⟨elemOf l1,(aS h1).symm⟩
 obtain ⟨t,e1,e2,e3⟩:=Wa B.nat 256 (Nat.div_eq_of_lt (jq B))
 obtain ⟨m,hm⟩:=aj4 hs A B c2 t (ofP (pS s) ⟨1,0,0,0⟩) e2 (by rw [e3,Nat.pow_zero];rfl)
 rw [<-e1] at hm
 exact ⟨m,_,hm,rfl⟩
theorem aHN {s:Int} (h:ap s=true):1<pS s:=aBS h
def ow (x:PU):Bool:=ap x.1.1
def asC (x:PU):OT jy.Y:=.ok ⟨vo,((gO (pS x.1.1) x.1.2.1 x.1.2.2.1,()),())⟩
theorem azl:ac Tryz.prog 129 (jy.aI ow asC):=alS Xo aiE JO aiD azn azm _ _ λx oy hp ho=>by
 rw [<-ho]
 clear ho
 obtain ⟨⟨s,a,b,⟨⟩⟩,⟨⟩⟩:=x
 have hs:ap s=true:=hp
 show _=some (⟨vo,((gO (pS s) a b,()),())⟩:jy.Y)
 rw [auR (aHN hs)]
 refine (OT.ao hs).trans ((ah ?_).trans ?_)
 ·simp only [List.all_cons,List.all_nil,Bool.and_true,Bool.and_eq_true]
  refine ⟨decide_eq_true ⟨rfl,rfl,rfl,rfl⟩,?_,rfl,rfl,rfl⟩
  refine (Bool.and_eq_true _ _).mpr ⟨hs,?_⟩
  exact decide_eq_true ⟨rfl,rfl,rfl,rfl⟩
 ·show some (⟨vo,((elemOf (lay [0,0,0,0] (lst (ofN (a.nat^b.nat%pS s))) 4 0),()),())⟩:jy.Y)=_
  rw [aGQ _ _ rfl rfl]
  rfl
def Eb:cn:=(jy.aI ow asC)
theorem acN:ac Tryz.prog 129 Eb:=azl
theorem acM:aG Eb:=aA
def FR:Env:=ay 129 Eb zD
theorem xe:aQ Tryz.prog FR:=ag acN pK
theorem G5:ax FR:=ae acM G0
theorem Ng:aW Tryz.prog te FR:=aJ follows ar xe G5
def gK:aw:=⟨[.val true .elem],[],true,0,false⟩
abbrev Ea:Type:=((aa)×Unit)×(Unit)
def sQ:Shape:=⟨29,[(1,.ptr 0 0 0),(2,.ptr 1 0 0),(3,.ptr 2 0 0),(4,.val false .int)],[(0,.row .u64),(1,.row .u64),(2,.row .u64)],0,true⟩
abbrev cC:Type:=((Unit)×(Unit)×(Unit)×(Int)×Unit)×((List (UInt64))×(List (UInt64))×(List (UInt64))×Unit)
def qA:Shape:=⟨29,[(2,.ptr 0 0 0),(3,.ptr 1 0 0)],[(0,.row .u64),(1,.row .u64)],0,true⟩
abbrev j2:Type:=((Unit)×(Unit)×Unit)×((List (UInt64))×(List (UInt64))×Unit)
def Xj:SE->Option Shape:=fC [(0,qA)] none
def asB (a4:Int) (c0:List (UInt64)) (c1:List (UInt64)) (c2:List (UInt64)):OT (Sum cC aE):=
 let z0:Bool:=inB a4 4
 let z1:Nat:=List.length c0
 let z2:List UInt64:=List.set c2 (Int.toNat a4+0) (bk (List.getD c0 (Int.toNat a4+0) (0:UInt64)) (1:Int))
 let z3:Bool:=decide (Int.toNat a4+0<List.length z2)
 let z4:Bool:=inR (a4+(1:Int))
 (.br (decide (a4<(4:Int)))
 (gd [z0,decide (Int.toNat a4+0<z1),z0,decide (Int.toNat a4+0<List.length c2)] (.br (decide (a4<(3:Int)))
  (gd [z0,z3,z4,inB (a4+(1:Int)) 4,decide (Int.toNat (a4+(1:Int))+0<z1),z0,z3,z4] (.ok (.inl (((),((),((),(a4+(1:Int),())))),(c0,(c1,(List.set z2 (Int.toNat a4+0) (List.getD z2 (Int.toNat a4+0) (0:UInt64)|||bR (List.getD c0 (Int.toNat (a4+(1:Int))+0) (0:UInt64)) (63:Int)),())))))))
  (gd [z4] (.ok (.inl (((),((),((),(a4+(1:Int),())))),(c0,(c1,(z2,())))))))))
 (.ok (.inr ⟨(.exit 0,qA),(((),((),())),(c1,(c2,())))⟩)))
def iw (s:cC):OT (Sum cC aE):=asB (s.1.2.2.2.1) (s.2.1) (s.2.2.1) (s.2.2.2.1)
theorem asy (s:cC) (Q:Sum cC aE->Prop):wps te FR av 1000 (aU (aj Tryz.f130) 0) (sQ.inj s) (bY sQ Xj (Q:Sum sQ.T aE->Prop))=(iw s).wpR Q:=by kernel_rfl
def A2 (g0_0:cC->j2) (s:cC):OT aE:=(.ok ⟨(.exit 0,qA),g0_0 s⟩)
def sR:az:=⟨[.val true .elem],[],false⟩
def PR:SV->Option az:=λ_=>some sR
def S6 (ok0:cC->Bool) (g0_0:cC->j2) (a0:aa):OT gK.Y:=
 let z0:(PUnit×PUnit×PUnit×Int×PUnit)×List UInt64×List UInt64×List UInt64×PUnit:=(((),(),(),(0:Int),()),[a0.w0,a0.w1,a0.w2,a0.w3],[(0:UInt64),(0:UInt64),(0:UInt64),(0:UInt64)],[(0:UInt64),(0:UInt64),(0:UInt64),(0:UInt64)],())
 let z1:=(g0_0 z0).snd
 let z2:=z1.snd.fst
 let z3:=z1.fst
 let z4:List UInt64:=lay z3 z2 4 (0:UInt64)
 (gd [ok0 z0,decide (4<=List.length z2),decide ((4/1:Nat)+0<=List.length z3),decide (4<=List.length z4)] (.ok ⟨sR,(({w0:=List.getD z4 0 0,w1:=List.getD z4 1 0,w2:=List.getD z4 2 0,w3:=List.getD z4 3 0},()),())⟩))
theorem azi (ok0:cC->Bool) (g0_0:cC->j2) (x:Ea) (Q:gK.Y->Prop):wpf te FR (aO 0 (cl sQ 0 ok0 (A2 g0_0)) av) 1000 Tryz.f130 (gK.inp.inj x).tm (gK.inp.inj x).hp (fnK gK PR Q) (λ_ _=>False)=(S6 ok0 g0_0 (x.1.1)).wpR Q:=by kernel_rfl
theorem acL (ok0:cC->Bool) (g0_0:cC->j2) (h0:∀ s:cC,ok0 s=true->∃ m e,al (iw) m s=some e/\(A2 g0_0 s).run=some e) (pre:Ea->Bool) (F:Ea->OT gK.Y) (hF:∀ (x:Ea) oy,pre x=true->(F x).run=some oy->(S6 ok0 g0_0 (x.1.1)).run=some oy):ac Tryz.prog 130 (gK.aI pre F):=
 aD ar xe Ng (f:=130) (fn:=Tryz.f130) (c:=aj Tryz.f130) (by kernel_rfl) (by kernel_rfl) (by kernel_rfl) (S:=gK) (k:=0) (by kernel_rfl) (λR hR=>(aB (c:=(aj Tryz.f130)) (by kernel_rfl) (id:=0) (by kernel_rfl) (aR ar xe Ng (sh:=sQ) hR (xs:=Xj) (aC (by kernel_rfl) (by kernel_rfl) hR) aL af (n:=1000) (T:=iw) (λs Q=>asy s Q) (ok:=ok0) (f:=A2 g0_0) h0) af)) (n:=1000) (sel:=PR) (λv o h=>by cases h;rfl) (pre:=pre) (F:=F) (T:=λx=>S6 ok0 g0_0 (x.1.1)) (λx Q=>azi ok0 g0_0 x Q) hF
def qX (a:aa) (c1 l:List UInt64) (i:Int):cC:=(((),(),(),i,()),(lst a,c1,l,()))
theorem aH9 (a:aa) (c1:List UInt64):(iw (qX a c1 [0,0,0,0] 0)).run=some (.inl (qX a c1 [bk a.w0 1|||bR a.w1 63,0,0,0] 1)):=rfl
theorem aH8 (a:aa) (c1:List UInt64) (x:UInt64):(iw (qX a c1 [x,0,0,0] 1)).run=some (.inl (qX a c1 [x,bk a.w1 1|||bR a.w2 63,0,0] 2)):=rfl
theorem aH7 (a:aa) (c1:List UInt64) (x y:UInt64):(iw (qX a c1 [x,y,0,0] 2)).run=some (.inl (qX a c1 [x,y,bk a.w2 1|||bR a.w3 63,0] 3)):=rfl
theorem aH6 (a:aa) (c1:List UInt64) (x y z:UInt64):(iw (qX a c1 [x,y,z,0] 3)).run=some (.inl (qX a c1 [x,y,z,bk a.w3 1] 4)):=rfl
theorem aH5 (a:aa) (c1 l:List UInt64):(iw (qX a c1 l 4)).run=some (.inr ⟨(.exit 0,qA),(((),(),()),(c1,l,()))⟩):=rfl
def PT (s:cC):Bool:=decide (s.1.2.2.2.1=0/\s.2.1.length=4/\s.2.2.2.1= [0,0,0,0])
def Xm (s:cC):j2:=(((),(),()),(s.2.2.1,lst (dp (elemOf s.2.1)),()))
theorem asA:∀ s:cC,PT s=true->∃ m e,al iw m s=some e/\(A2 Xm s).run=some e:=by
 rintro ⟨⟨⟨⟩,⟨⟩,⟨⟩,i,⟨⟩⟩,⟨l,c1,c2,⟨⟩⟩⟩ h
 have h':=of_decide_eq_true h
 dsimp only at h'
 obtain ⟨rfl,hl,rfl⟩:=h'
 obtain ⟨a,rfl⟩:∃ a,l=lst a:=⟨elemOf l,(aS hl).symm⟩
 refine ⟨_,_,aF (aH9 a c1) (aF (aH8 a c1 _) (aF (aH7 a c1 _ _) (aF (aH6 a c1 _ _ _) (aM (aH5 a c1 _))))),?_⟩
 have e: [bk a.w0 1|||bR a.w1 63,bk a.w1 1|||bR a.w2 63,bk a.w2 1|||bR a.w3 63,bk a.w3 1]=lst (dp a):=by rw [ajt];rfl
 rw [e]
 rfl
def PS (_:Ea):Bool:=true
def aiA (x:Ea):OT gK.Y:=.ok ⟨sR,((dp x.1.1,()),())⟩
theorem asz:ac Tryz.prog 130 (gK.aI PS aiA):=acL PT Xm asA _ _ λx oy hp ho=>by
 rw [<-ho]
 clear ho
 obtain ⟨⟨a,⟨⟩⟩,⟨⟩⟩:=x
 refine (ah ?_).trans ?_
 ·simp only [List.all_cons,List.all_nil,Bool.and_true,Bool.and_eq_true]
  exact ⟨decide_eq_true ⟨rfl,rfl,rfl⟩,rfl,rfl,rfl⟩
 ·show some (⟨sR,((elemOf (lay [0,0,0,0] (lst (dp a)) 4 0),()),())⟩:gK.Y)=some ⟨sR,((dp a,()),())⟩
  rw [aGQ _ _ rfl rfl]
  rfl
def yC:cn:=(gK.aI PS aiA)
theorem Xl:ac Tryz.prog 130 yC:=asz
theorem Xk:aG yC:=aA
def xd:Env:=ay 130 yC FR
theorem rC:aQ Tryz.prog xd:=ag Xl xe
theorem CI:ax xd:=ae Xk G5
theorem G4:aW Tryz.prog te xd:=aJ follows ar rC CI
def dU:aw:=⟨[.val true .elem,.val false .int],[],true,0,false⟩
abbrev ov:Type:=((aa)×(Int)×Unit)×(Unit)
def lN:Shape:=⟨14,[(1,.val false .int),(2,.ptr 0 0 0),(4,.ptr 1 0 0),(5,.val false .int)],[(0,.row .u64),(1,.row .u64)],0,true⟩
abbrev bO:Type:=((Int)×(Unit)×(Unit)×(Int)×Unit)×((List (UInt64))×(List (UInt64))×Unit)
def kI:Shape:=⟨14,[(2,.ptr 0 0 0),(4,.ptr 1 0 0)],[(0,.row .u64),(1,.row .u64)],0,true⟩
abbrev gE:Type:=((Unit)×(Unit)×Unit)×((List (UInt64))×(List (UInt64))×Unit)
def JM:SE->Option Shape:=fC [(0,kI)] none
def acK (a1:Int) (a5:Int) (c0:List (UInt64)) (c1:List (UInt64)):OT (Sum bO aE):=
 let z0:Nat:=List.length c0
 let z1:aa:=dp {w0:=List.getD c0 0 0,w1:=List.getD c0 1 0,w2:=List.getD c0 2 0,w3:=List.getD c0 3 0}
 (.br (decide (a5<a1))
 (gd [decide (4<=z0),decide ((4/1:Nat)+0<=z0),inR (a5+(1:Int))] (.ok (.inl ((a1,((),((),(a5+(1:Int),())))),(List.set (List.set (List.set (List.set c0 0 z1.w0) 1 z1.w1) 2 z1.w2) 3 z1.w3,(c1,()))))))
 (.ok (.inr ⟨(.exit 0,kI),(((),((),())),(c0,(c1,())))⟩)))
def lP (s:bO):OT (Sum bO aE):=acK (s.1.1) (s.1.2.2.2.1) (s.2.1) (s.2.2.1)
theorem acH (s:bO) (Q:Sum bO aE->Prop):wps te xd av 1000 (aU (aj Tryz.f132) 0) (lN.inj s) (bY lN JM (Q:Sum lN.T aE->Prop))=(lP s).wpR Q:=by kernel_rfl
def qy (g0_0:bO->gE) (s:bO):OT aE:=(.ok ⟨(.exit 0,kI),g0_0 s⟩)
def lO:az:=⟨[.val true .elem],[],false⟩
def Gn:SV->Option az:=λ_=>some lO
def D9 (ok0:bO->Bool) (g0_0:bO->gE) (a0:aa) (a1:Int):OT dU.Y:=
 let z0:(Int×PUnit×PUnit×Int×PUnit)×List UInt64×List UInt64×PUnit:=((a1,(),(),(0:Int),()),[a0.w0,a0.w1,a0.w2,a0.w3],[(0:UInt64),(0:UInt64),(0:UInt64),(0:UInt64)],())
 let z1:=(g0_0 z0).snd
 let z2:=z1.fst
 let z3:=z1.snd.fst
 let z4:List UInt64:=lay z3 z2 4 (0:UInt64)
 (gd [ok0 z0,decide (4<=List.length z2),decide ((4/1:Nat)+0<=List.length z3),decide (4<=List.length z4)] (.ok ⟨lO,(({w0:=List.getD z4 0 0,w1:=List.getD z4 1 0,w2:=List.getD z4 2 0,w3:=List.getD z4 3 0},()),())⟩))
theorem alR (ok0:bO->Bool) (g0_0:bO->gE) (x:ov) (Q:dU.Y->Prop):wpf te xd (aO 0 (cl lN 0 ok0 (qy g0_0)) av) 1000 Tryz.f132 (dU.inp.inj x).tm (dU.inp.inj x).hp (fnK dU Gn Q) (λ_ _=>False)=(D9 ok0 g0_0 (x.1.1) (x.1.2.1)).wpR Q:=by kernel_rfl
theorem S5 (ok0:bO->Bool) (g0_0:bO->gE) (h0:∀ s:bO,ok0 s=true->∃ m e,al (lP) m s=some e/\(qy g0_0 s).run=some e) (pre:ov->Bool) (F:ov->OT dU.Y) (hF:∀ (x:ov) oy,pre x=true->(F x).run=some oy->(D9 ok0 g0_0 (x.1.1) (x.1.2.1)).run=some oy):ac Tryz.prog 132 (dU.aI pre F):=
 aD ar rC G4 (f:=132) (fn:=Tryz.f132) (c:=aj Tryz.f132) (by kernel_rfl) (by kernel_rfl) (by kernel_rfl) (S:=dU) (k:=0) (by kernel_rfl) (λR hR=>(aB (c:=(aj Tryz.f132)) (by kernel_rfl) (id:=0) (by kernel_rfl) (aR ar rC G4 (sh:=lN) hR (xs:=JM) (aC (by kernel_rfl) (by kernel_rfl) hR) aL af (n:=1000) (T:=lP) (λs Q=>acH s Q) (ok:=ok0) (f:=qy g0_0) h0) af)) (n:=1000) (sel:=Gn) (λv o h=>by cases h;rfl) (pre:=pre) (F:=F) (T:=λx=>D9 ok0 g0_0 (x.1.1) (x.1.2.1)) (λx Q=>alR ok0 g0_0 x Q) hF
def Gp (s:bO):Bool:=decide (s.1.2.2.2.1=0/\0<=s.1.1/\s.1.1<=1000000/\s.2.1.length=4)
def JN (s:bO):gE:=(((),(),()),(lst (dT (elemOf s.2.1) s.1.1.toNat),s.2.2.1,()))
theorem acJ:∀ s:bO,Gp s=true->∃ m e,al lP m s=some e/\(qy JN s).run=some e:=by
 rintro ⟨⟨k,⟨⟩,⟨⟩,i,⟨⟩⟩,⟨l,o,⟨⟩⟩⟩ h
 have h':=of_decide_eq_true h
 dsimp only at h'
 obtain ⟨rfl,h0,h1,hl⟩:=h'
 obtain ⟨a,rfl⟩:∃ a,l=lst a:=⟨elemOf l,(aS hl).symm⟩
 have:=(aP (T:=lP) (λi a=>(((k,(),(),(i:Int),()),(lst a,o,())):bO)) (λ_ e=>dp e)
  (λa=>(⟨(.exit 0,kI),(((),(),()),(lst a,o,()))⟩:aE)) k.toNat a (λ_ _=>True) trivial (λi a hi _=>⟨?_,trivial⟩) (λa _=> ?_)).1
 ·rw [y8] at this
  obtain ⟨m,hm⟩:=this
  exact ⟨m,_,hm,rfl⟩
 ·refine (OT.ao (decide_eq_true (by dsimp only;omega))).trans ((ah ?_).trans rfl)
  simp only [List.all_cons,List.all_nil,Bool.and_true,Bool.and_eq_true]
  exact ⟨rfl,rfl,aH (by omega)⟩
 ·exact OT.aq (decide_eq_false (by dsimp only;omega))
def sP (x:ov):Bool:=decide (0<=x.1.2.1/\x.1.2.1<=1000000)
def PQ (x:ov):OT dU.Y:=.ok ⟨lO,((dT x.1.1 x.1.2.1.toNat,()),())⟩
theorem acI:ac Tryz.prog 132 (dU.aI sP PQ):=S5 Gp JN acJ _ _ λx oy hp ho=>by
 rw [<-ho]
 clear ho
 obtain ⟨⟨a,k,⟨⟩⟩,⟨⟩⟩:=x
 have hp':0<=k/\k<=1000000:=of_decide_eq_true hp
 refine (ah ?_).trans ?_
 ·simp only [List.all_cons,List.all_nil,Bool.and_true,Bool.and_eq_true]
  exact ⟨decide_eq_true ⟨rfl,hp'.1,hp'.2,rfl⟩,rfl,rfl,rfl⟩
 ·show some (⟨lO,((elemOf (lay [0,0,0,0] (lst (dT a k.toNat)) 4 0),()),())⟩:dU.Y)=some ⟨lO,((dT a k.toNat,()),())⟩
  rw [aGQ _ _ rfl rfl]
  rfl
def qx:cn:=(dU.aI sP PQ)
theorem Ow:ac Tryz.prog 132 qx:=acI
theorem Ov:aG qx:=aA
def FQ:Env:=ay 132 qx xd
theorem VD:aQ Tryz.prog FQ:=ag Ow rC
theorem Nf:ax FQ:=ae Ov CI
end Go.Proofs.YtohjofabochgfaaGreat

namespace Go.Proofs.YtohjofabochgfaaGreat
namespace Sx
open Go
theorem OT.Vk {α β:Type} {f:α->OT β}:∀ {t:OT α} {a:α} {b:β},t.run=some a->(f a).run=some b->(t.bind f).run=some b
 |.ok x,a,b,h,h2=>by
  cases h
  exact h2
 |.br c x y,a,b,h,h2=>by
  cases c
  ·exact OT.Vk (t:=y) h h2
  ·exact OT.Vk (t:=x) h h2
 |.fail,a,b,h,_=>by cases h
theorem jt {P:Program} {n:FuncId} {S:aw} {pre pre':S.T->Bool} {F F':S.T->OT S.Y} (h:ac P n (S.aI pre F))
 (hw:∀ x oy,pre' x=true->(F' x).run=some oy->pre x=true/\(F x).run=some oy):ac P n (S.aI pre' F'):=by
 refine ⟨λR w d args vs out hm hr hrun=>h.calls R w d args vs out hm hr ?_⟩
 simp only [aw.aI] at hrun⊢
 split at hrun
 ·cases hrun
 ·rename_i x hx
  obtain ⟨hp,hrun⟩:=OT.aK hrun
  obtain ⟨oy,h1,h2⟩:=OT.run_bind hrun
  obtain ⟨h3,h4⟩:=hw x oy hp h1
  rw [h3]
  exact OT.Vk h4 h2
end Sx
end Go.Proofs.YtohjofabochgfaaGreat

namespace Go.Proofs.YtohjofabochgfaaGreat
open Sx Go
set_option maxRecDepth 100000
abbrev aix:aw:=iu
def kW (x:Gm):Bool:=ap x.1.1
def aiy (x:Gm):OT iu.Y:=.ok ⟨kH,(((aY x.1.1.toNat).1,((0:Int),())),())⟩
theorem ast:ac Tryz.prog 92 (aix.aI kW aiy):=jt (S:=iu) aiz λx oy hp ho=>⟨rfl,(OT.ao (b:=ap x.1.1) hp).trans ho⟩
def yB:cn:=(aix.aI kW aiy)
theorem Xc:ac Tryz.prog 92 yB:=ast
theorem Xb:aG yB:=aA
def VC:Env:=ay 92 yB FQ
theorem afw:aQ Tryz.prog VC:=ag Xc VD
theorem VB:ax VC:=ae Xb Nf
abbrev aiF:aw:=iA
def Ee (x:Gt):Bool:=ap x.1.1
def aiG (x:Gt):OT iA.Y:=.ok ⟨qF,(((aY x.1.1.toNat).2.1,((0:Int),())),())⟩
theorem asE:ac Tryz.prog 131 (aiF.aI Ee aiG):=jt (S:=iA) aiH λx oy hp ho=>⟨rfl,(OT.ao (b:=ap x.1.1) hp).trans ho⟩
def yD:cn:=(aiF.aI Ee aiG)
theorem Xs:ac Tryz.prog 131 yD:=asE
theorem Xr:aG yD:=aA
def VF:Env:=ay 131 yD VC
theorem afy:aQ Tryz.prog VF:=ag Xs afw
theorem VE:ax VF:=ae Xr VB
abbrev asl:aw:=lI
def sN (x:W7):Bool:=ap x.1.1
def asm (x:W7):OT lI.Y:=.ok ⟨nR,((ofP (pS x.1.1) x.1.2.1,()),())⟩
theorem azb:ac Tryz.prog 62 (asl.aI sN asm):=jt (S:=lI) asp λx oy hp ho=>⟨rfl,(OT.ao (b:=ap x.1.1) hp).trans ho⟩
def D2:cn:=(asl.aI sN asm)
theorem acj:ac Tryz.prog 62 D2:=azb
theorem aci:aG D2:=aA
def M7:Env:=ay 62 D2 VF
theorem FL:aQ Tryz.prog M7:=ag acj afy
theorem GY:ax M7:=ae aci VE
theorem afv:aW Tryz.prog te M7:=aJ follows ar FL GY
def lG:aw:=⟨[],[],true,0,false⟩
abbrev PA:Type:=(Unit)×(Unit)
def SM:az:=⟨[.val true (.prod .elem (.prod .elem .bool))],[],false⟩
def WS:SV->Option az:=λ_=>some SM
def aca:OT lG.Y:=
 let z0:aa:= {w0:=0,w1:=0,w2:=0,w3:=0}
 (.ok ⟨SM,(((z0,z0,true),()),())⟩)
theorem aED (x:PA) (Q:lG.Y->Prop):wpf te M7 av 1000 Tryz.f93 (lG.inp.inj x).tm (lG.inp.inj x).hp (fnK lG WS Q) (λ_ _=>False)=(aca).wpR Q:=by kernel_rfl
theorem alC (pre:PA->Bool) (F:PA->OT lG.Y) (hF:∀ (x:PA) oy,pre x=true->(F x).run=some oy->(aca).run=some oy):ac Tryz.prog 93 (lG.aI pre F):=
 aD ar FL afv (f:=93) (fn:=Tryz.f93) (c:=aj Tryz.f93) (by kernel_rfl) (by kernel_rfl) (by kernel_rfl) (S:=lG) (k:=0) (by kernel_rfl) (λR hR=>af) (n:=1000) (sel:=WS) (λv o h=>by cases h;rfl) (pre:=pre) (F:=F) (T:=λx=>aca) (λx Q=>aED x Q) hF
def WT (_:PA):Bool:=true
def ar3 (_:PA):OT lG.Y:=.ok ⟨SM,((cF,()),())⟩
theorem ay5:ac Tryz.prog 93 (lG.aI WT ar3):=alC _ _ λx oy _ ho=>ho
def DW:cn:=(lG.aI WT ar3)
theorem ab9:ac Tryz.prog 93 DW:=ay5
theorem ab8:aG DW:=aA
def M4:Env:=ay 93 DW M7
theorem FJ:aQ Tryz.prog M4:=ag ab9 FL
theorem GX:ax M4:=ae ab8 GY
theorem afu:aW Tryz.prog te M4:=aJ follows ar FJ GX
def Jv:aw:=⟨[.val false .int],[],true,0,false⟩
abbrev aGN:Type:=((Int)×Unit)×(Unit)
def ar7:az:=⟨[.val true .elem],[],false⟩
def ar6:SV->Option az:=λ_=>some ar7
def aEE (a0:Int):OT Jv.Y:=
 (gd [inB a0 4,decide (Int.toNat a0+0<4)] (.ok ⟨ar7,(({w0:=List.getD [(23:UInt64),(21:UInt64),(5:UInt64),(5:UInt64)] (Int.toNat a0+0) (0:UInt64),w1:=0,w2:=0,w3:=0},()),())⟩))
theorem aJd (x:aGN) (Q:Jv.Y->Prop):wpf te M4 av 1000 Tryz.f135 (Jv.inp.inj x).tm (Jv.inp.inj x).hp (fnK Jv ar6 Q) (λ_ _=>False)=(aEE (x.1.1)).wpR Q:=by kernel_rfl
theorem ay7 (pre:aGN->Bool) (F:aGN->OT Jv.Y) (hF:∀ (x:aGN) oy,pre x=true->(F x).run=some oy->(aEE (x.1.1)).run=some oy):ac Tryz.prog 135 (Jv.aI pre F):=
 aD ar FJ afu (f:=135) (fn:=Tryz.f135) (c:=aj Tryz.f135) (by kernel_rfl) (by kernel_rfl) (by kernel_rfl) (S:=Jv) (k:=0) (by kernel_rfl) (λR hR=>af) (n:=1000) (sel:=ar6) (λv o h=>by cases h;rfl) (pre:=pre) (F:=F) (T:=λx=>aEE (x.1.1)) (λx Q=>aJd x Q) hF
def acd (x:aGN):Bool:=ap x.1.1
def aHH (x:aGN):OT Jv.Y:=.ok ⟨ar7,((bS x.1.1,()),())⟩
theorem aHG:ac Tryz.prog 135 (Jv.aI acd aHH):=ay7 _ _ λx oy hp ho=>by
 rw [<-ho]
 clear ho
 obtain ⟨⟨s,⟨⟩⟩,⟨⟩⟩:=x
 rcases cv hp with h|h|h|h
 all_goals
  have h:s=_:=h
  subst h
  rfl
def SQ:cn:=(Jv.aI acd aHH)
theorem ar8:ac Tryz.prog 135 SQ:=aHG
theorem ar5:aG SQ:=aA
def awr:Env:=ay 135 SQ M4
theorem VA:aQ Tryz.prog awr:=ag ar8 FJ
theorem RQ:ax awr:=ae ar5 GX
theorem awq:aW Tryz.prog te awr:=aJ follows ar VA RQ
def gI:aw:=⟨[.val false .int,.val true .elem],[],true,0,false⟩
abbrev DX:Type:=((Int)×(aa)×Unit)×(Unit)
def AR:az:=⟨[.val true .elem],[],false⟩
def PC:SV->Option az:=λ_=>some AR
def SP (a0:Int) (a1:aa):OT gI.Y:=
 let z0:Nat:=pS a0
 let z1:aa:=bP z0 a1 a1
 let z2:aa:=bP z0 a1 z1
 let z3:aa:=bS a0
 (gd [fa ((a0,a1,a1,()),()),fa ((a0,a1,z1,()),()),acd ((a0,()),()),JV ((a0,z2,z3,()),())] (.ok ⟨AR,((FC z0 z2 z3,()),())⟩))
theorem ay6 (x:DX) (Q:gI.Y->Prop):wpf te awr av 1000 Tryz.f95 (gI.inp.inj x).tm (gI.inp.inj x).hp (fnK gI PC Q) (λ_ _=>False)=(SP (x.1.1) (x.1.2.1)).wpR Q:=by kernel_rfl
theorem acb (pre:DX->Bool) (F:DX->OT gI.Y) (hF:∀ (x:DX) oy,pre x=true->(F x).run=some oy->(SP (x.1.1) (x.1.2.1)).run=some oy):ac Tryz.prog 95 (gI.aI pre F):=
 aD ar VA awq (f:=95) (fn:=Tryz.f95) (c:=aj Tryz.f95) (by kernel_rfl) (by kernel_rfl) (by kernel_rfl) (S:=gI) (k:=0) (by kernel_rfl) (λR hR=>af) (n:=1000) (sel:=PC) (λv o h=>by cases h;rfl) (pre:=pre) (F:=F) (T:=λx=>SP (x.1.1) (x.1.2.1)) (λx Q=>ay6 x Q) hF
theorem atn (p:Nat) (a b:aa):bP p a b=bP p b a:=by unfold bP;rw [Nat.mul_comm]
def og (x:DX):Bool:=ap x.1.1
def aip (x:DX):OT gI.Y:=.ok ⟨AR,((xt (pS x.1.1) x.1.2.1 (bS x.1.1),()),())⟩
theorem ar4:ac Tryz.prog 95 (gI.aI og aip):=acb _ _ λx oy hp ho=>by
 rw [<-ho]
 clear ho
 obtain ⟨⟨s,a,⟨⟩⟩,⟨⟩⟩:=x
 have hs:ap s=true:=hp
 show _=some (⟨AR,((xt (pS s) a (bS s),()),())⟩:gI.Y)
 unfold xt
 rw [atn _ (bP (pS s) a a) a]
 refine (ah ?_).trans rfl
 simp only [List.all_cons,List.all_nil,Bool.and_true,Bool.and_eq_true]
 exact ⟨hs,hs,hs,hs⟩
def yv:cn:=(gI.aI og aip)
theorem WW:ac Tryz.prog 95 yv:=ar4
theorem WV:aG yv:=aA
def rz:Env:=ay 95 yv awr
theorem mJ:aQ Tryz.prog rz:=ag WW VA
theorem CB:ax rz:=ae WV RQ
theorem uB:aW Tryz.prog te rz:=aJ follows ar mJ CB
def gJ:aw:=⟨[.val false .int,.val true .elem],[],true,0,false⟩
abbrev D0:Type:=((Int)×(aa)×Unit)×(Unit)
def sJ:Shape:=⟨114,[(0,.val false .int),(4,.ptr 0 0 0),(10,.ptr 1 0 0),(14,.ptr 2 0 0),(15,.ptr 3 0 0),(16,.ptr 4 0 0),(17,.val false .int)],[(0,.row .u64),(1,.row .u64),(2,.row .u64),(3,.row .u64),(4,.row .u64)],0,true⟩
abbrev cB:Type:=((Int)×(Unit)×(Unit)×(Unit)×(Unit)×(Unit)×(Int)×Unit)×((List (UInt64))×(List (UInt64))×(List (UInt64))×(List (UInt64))×(List (UInt64))×Unit)
def sI:Shape:=⟨114,[(0,.val false .int),(4,.ptr 0 0 0),(10,.ptr 1 0 0),(14,.ptr 2 0 0),(15,.ptr 3 0 0),(16,.ptr 4 0 0),(17,.val false .int),(18,.ptr 5 0 0),(19,.val false .int)],[(0,.row .u64),(1,.row .u64),(2,.row .u64),(3,.row .u64),(4,.row .u64),(5,.row .u64)],0,true⟩
abbrev bG:Type:=((Int)×(Unit)×(Unit)×(Unit)×(Unit)×(Unit)×(Int)×(Unit)×(Int)×Unit)×((List (UInt64))×(List (UInt64))×(List (UInt64))×(List (UInt64))×(List (UInt64))×(List (UInt64))×Unit)
def qq:Shape:=⟨114,[(0,.val false .int),(4,.ptr 0 0 0),(10,.ptr 1 0 0),(14,.ptr 2 0 0),(15,.ptr 3 0 0),(16,.ptr 4 0 0),(17,.val false .int),(18,.ptr 5 0 0)],[(0,.row .u64),(1,.row .u64),(2,.row .u64),(3,.row .u64),(4,.row .u64),(5,.row .u64)],0,true⟩
abbrev eQ:Type:=((Int)×(Unit)×(Unit)×(Unit)×(Unit)×(Unit)×(Int)×(Unit)×Unit)×((List (UInt64))×(List (UInt64))×(List (UInt64))×(List (UInt64))×(List (UInt64))×(List (UInt64))×Unit)
def WZ:SE->Option Shape:=fC [(2,qq)] none
def asf (a0:Int) (a17:Int) (a19:Int) (c0:List (UInt64)) (c1:List (UInt64)) (c2:List (UInt64)) (c3:List (UInt64)) (c4:List (UInt64)) (c5:List (UInt64)):OT (Sum bG aE):=
 let z0:Nat:=List.length c5
 let z1:Bool:=decide (4<=z0)
 let z2:aa:= {w0:=List.getD c5 0 0,w1:=List.getD c5 1 0,w2:=List.getD c5 2 0,w3:=List.getD c5 3 0}
 let z3:aa:=bP (pS a0) z2 z2
 (.br (decide (a19<a17))
 (gd [z1,z1,fa ((a0,z2,z2,()),()),decide ((4/1:Nat)+0<=z0),inR (a19+(1:Int))] (.ok (.inl ((a0,((),((),((),((),((),(a17,((),(a19+(1:Int),()))))))))),(c0,(c1,(c2,(c3,(c4,(List.set (List.set (List.set (List.set c5 0 z3.w0) 1 z3.w1) 2 z3.w2) 3 z3.w3,()))))))))))
 (.ok (.inr ⟨(.exit 2,qq),((a0,((),((),((),((),((),(a17,((),())))))))),(c0,(c1,(c2,(c3,(c4,(c5,())))))))⟩)))
def sK (s:bG):OT (Sum bG aE):=asf (s.1.1) (s.1.2.2.2.2.2.2.1) (s.1.2.2.2.2.2.2.2.2.1) (s.2.1) (s.2.2.1) (s.2.2.2.1) (s.2.2.2.2.1) (s.2.2.2.2.2.1) (s.2.2.2.2.2.2.1)
theorem asa (s:bG) (Q:Sum bG aE->Prop):wps te rz av 1000 (aU (aU (aj Tryz.f94) 0) 2) (sI.inj s) (bY sI WZ (Q:Sum sI.T aE->Prop))=(sK s).wpR Q:=by kernel_rfl
def AU (g2_2:bG->eQ) (s:bG):OT aE:=(.ok ⟨(.exit 2,qq),g2_2 s⟩)
def qs:Shape:=⟨114,[(0,.val false .int),(4,.ptr 0 0 0),(14,.ptr 1 0 0)],[(0,.row .u64),(1,.row .u64)],0,true⟩
abbrev j0:Type:=((Int)×(Unit)×(Unit)×Unit)×((List (UInt64))×(List (UInt64))×Unit)
def W0:SE->Option Shape:=fC [(0,qs)] none
def Jx (ok2:bG->Bool) (g2_2:bG->eQ) (a0:Int) (a17:Int) (c0:List (UInt64)) (c1:List (UInt64)) (c2:List (UInt64)) (c3:List (UInt64)) (c4:List (UInt64)):OT (Sum cB aE):=
 let z0:(Int×PUnit×PUnit×PUnit×PUnit×PUnit×Int×PUnit×Int×PUnit)×List UInt64×List UInt64×List UInt64×List UInt64×List UInt64×List UInt64×PUnit:=((a0,(),(),(),(),(),a17,(),(1:Int),()),c0,c1,c2,c3,c4,[List.getD c3 0 0,List.getD c3 1 0,List.getD c3 2 0,List.getD c3 3 0],())
 let z1:(Int×PUnit×PUnit×PUnit×PUnit×PUnit×Int×PUnit×PUnit)×List UInt64×List UInt64×List UInt64×List UInt64×List UInt64×List UInt64×PUnit:=g2_2 z0
 let z2:=z1.snd
 let z3:=z2.snd
 let z4:=z3.snd
 let z5:=z4.snd
 let z6:=z5.snd
 let z7:=z6.snd.fst
 let z8:=z3.fst
 let z9:=z4.fst
 let z10:Nat:=List.length z9
 let z11:=z6.fst
 let z12:Nat:=List.length z11
 let z13:Bool:=decide (4<=z12)
 let z14:=z1.fst
 let z15:=z14.fst
 let z16:aa:= {w0:=List.getD z9 0 0,w1:=List.getD z9 1 0,w2:=List.getD z9 2 0,w3:=List.getD z9 3 0}
 let z17:aa:= {w0:=List.getD z11 0 0,w1:=List.getD z11 1 0,w2:=List.getD z11 2 0,w3:=List.getD z11 3 0}
 let z18:aa×PUnit:=(z17,())
 let z19:=z5.fst
 let z20:Nat:=List.length z19
 let z21:Bool:=fa ((z15,z17,z18),())
 let z22:aa:= {w0:=List.getD z19 0 0,w1:=List.getD z19 1 0,w2:=List.getD z19 2 0,w3:=List.getD z19 3 0}
 let z23:Nat:=pS z15
 let z24:aa:=bP z23 z17 z17
 let z25:Bool:=decide ((4/1:Nat)+0<=z12)
 let z26:Bool:=inR (z14.snd.snd.snd.snd.snd.snd.fst-(1:Int))
 let z27:=z2.fst
 let z28:aa:=bP z23 z16 z17
 let z29:aa:=bP z23 z22 z24
 let z30:List UInt64:=List.set (List.set (List.set (List.set z11 0 z24.w0) 1 z24.w1) 2 z24.w2) 3 z24.w3
 (.br (decide ((1:Int)<=a17))
 (gd [decide (4<=List.length c3),ok2 z0,decide (4<=List.length z7),decide (4<=List.length z8)] (.br (!(List.getD z7 0 0==List.getD z8 0 0&&(List.getD z7 1 0==List.getD z8 1 0&&(List.getD z7 2 0==List.getD z8 2 0&&(List.getD z7 3 0==List.getD z8 3 0&&true)))))
  (gd [decide (4<=z10),z13,fa ((z15,z16,z18),()),decide ((4/1:Nat)+0<=z10),decide (4<=z20),z13,z13,z21,fa ((z15,z22,z24,()),()),decide ((4/1:Nat)+0<=z20),z13,z13,z21,z25,z26] (.ok (.inl ((z15,((),((),((),((),((),(z14.snd.snd.snd.snd.snd.snd.fst-(1:Int),()))))))),(z27,(z8,(List.set (List.set (List.set (List.set z9 0 z28.w0) 1 z28.w1) 2 z28.w2) 3 z28.w3,(List.set (List.set (List.set (List.set z19 0 z29.w0) 1 z29.w1) 2 z29.w2) 3 z29.w3,(z30,())))))))))
  (gd [z13,z13,z21,z25,z26] (.ok (.inl ((z15,((),((),((),((),((),(z14.snd.snd.snd.snd.snd.snd.fst-(1:Int),()))))))),(z27,(z8,(z9,(z19,(z30,())))))))))))
 (.ok (.inr ⟨(.exit 0,qs),((a0,((),((),()))),(c0,(c2,())))⟩)))
def oj (ok2:bG->Bool) (g2_2:bG->eQ) (s:cB):OT (Sum cB aE):=Jx ok2 g2_2 (s.1.1) (s.1.2.2.2.2.2.2.1) (s.2.1) (s.2.2.1) (s.2.2.2.1) (s.2.2.2.2.1) (s.2.2.2.2.2.1)
theorem asb (ok2:bG->Bool) (g2_2:bG->eQ) (s:cB) (Q:Sum cB aE->Prop):wps te rz (aO 2 (cl sI 2 ok2 (AU g2_2)) av) 1000 (aU (aj Tryz.f94) 0) (sJ.inj s) (bY sJ W0 (Q:Sum sJ.T aE->Prop))=(oj ok2 g2_2 s).wpR Q:=by kernel_rfl
def AV (g0_0:cB->j0) (s:cB):OT aE:=(.ok ⟨(.exit 0,qs),g0_0 s⟩)
def fN:az:=⟨[.val true .elem,.val false .int],[],false⟩
def PE:SV->Option az:=λ_=>some fN
def SR (ok2:bG->Bool) (g2_2:bG->eQ) (ok0:cB->Bool) (g0_0:cB->j0) (a0:Int) (a1:aa):OT gJ.Y:=
 let z0:Int×PUnit:=(a0,())
 let z1:Nat:=pS a0
 let z2:aa:=ofP z1 a1
 let z3:aa:= {w0:=0,w1:=0,w2:=0,w3:=0}
 let z4:aa×Int×UInt64×UInt64×aa:=aY (Int.toNat a0)
 let z5:aa:= {w0:=1,w1:=0,w2:=0,w3:=0}
 let z6:aa:=(eu z4.fst z5).fst
 let z7:aa:=dp z6
 let z8:aa:=gO z1 z2 z7
 let z9:=z4.snd.fst
 let z10:aa:=dT z6 (Int.toNat z9)
 let z11:aa:=dp (qa z10 z5).fst
 let z12:aa×PUnit:=(z10,())
 let z13:aa:= {w0:=5,w1:=0,w2:=0,w3:=0}
 let z14:aa:=gO z1 z2 z11
 let z15:aa:=gO z1 z2 z10
 let z16:aa:=gO z1 z13 z10
 let z17:(Int×PUnit×PUnit×PUnit×PUnit×PUnit×Int×PUnit)×List UInt64×List UInt64×List UInt64×List UInt64×List UInt64×PUnit:=((a0,(),(),(),(),(),z9-(1:Int),()),[(0:UInt64),(0:UInt64),(0:UInt64),(0:UInt64)],[(1:UInt64),(0:UInt64),(0:UInt64),(0:UInt64)],[z14.w0,z14.w1,z14.w2,z14.w3],[z15.w0,z15.w1,z15.w2,z15.w3],[z16.w0,z16.w1,z16.w2,z16.w3],())
 let z18:(Int×PUnit×PUnit×PUnit)×List UInt64×List UInt64×PUnit:=g0_0 z17
 let z19:=z18.snd
 let z20:=z19.snd.fst
 let z21:Nat:=List.length z20
 let z22:UInt64:=List.getD z20 0 0
 let z23:Bool:=decide (4<=z21)
 let z24:=z18.fst.fst
 let z25:aa:= {w0:=z22,w1:=List.getD z20 1 0,w2:=List.getD z20 2 0,w3:=List.getD z20 3 0}
 let z26:aa:=zW (pS z24) z25
 let z27:List UInt64:=List.set (List.set (List.set (List.set z20 0 z26.w0) 1 z26.w1) 2 z26.w2) 3 z26.w3
 let z28:=z19.fst
 let z29:Nat:=List.length z28
 let z30:List UInt64:=lay z28 z27 4 (0:UInt64)
 let z31:List UInt64:=lay z28 z20 4 (0:UInt64)
 (gd [kW (z0,()),sN ((a0,a1,()),())] (.br (z2.w0==(0:UInt64)&&(z2.w1==(0:UInt64)&&(z2.w2==(0:UInt64)&&(z2.w3==(0:UInt64)&&true))))
 (.ok ⟨fN,((z3,((0:Int),())),())⟩)
 (gd [ow ((a0,z2,z7,()),())] (.br (!(z8.w0==(1:UInt64)&&(z8.w1==(0:UInt64)&&(z8.w2==(0:UInt64)&&(z8.w3==(0:UInt64)&&true)))))
  (.ok ⟨fN,((z3,((22:Int),())),())⟩)
  (gd [Ee (z0,()),sP ((z6,z9,()),()),ow ((a0,z2,z11,()),()),ow ((a0,z2,z12),()),ow ((a0,z13,z12),()),inR (z9-(1:Int)),ok0 z17,decide (0<z21)] (.br (z22%(2:UInt64)==(1:UInt64))
   (gd [z23,lL ((z24,z25,()),()),decide ((4/1:Nat)+0<=z21),decide (4<=List.length z27),decide ((4/1:Nat)+0<=z29),decide (4<=List.length z30)] (.ok ⟨fN,(({w0:=List.getD z30 0 0,w1:=List.getD z30 1 0,w2:=List.getD z30 2 0,w3:=List.getD z30 3 0},((0:Int),())),())⟩))
   (gd [z23,decide ((4/1:Nat)+0<=z29),decide (4<=List.length z31)] (.ok ⟨fN,(({w0:=List.getD z31 0 0,w1:=List.getD z31 1 0,w2:=List.getD z31 2 0,w3:=List.getD z31 3 0},((0:Int),())),())⟩))))))))
theorem ay9 (ok2:bG->Bool) (g2_2:bG->eQ) (ok0:cB->Bool) (g0_0:cB->j0) (x:D0) (Q:gJ.Y->Prop):wpf te rz (aO 0 (cl sJ 0 ok0 (AV g0_0)) av) 1000 Tryz.f94 (gJ.inp.inj x).tm (gJ.inp.inj x).hp (fnK gJ PE Q) (λ_ _=>False)=(SR ok2 g2_2 ok0 g0_0 (x.1.1) (x.1.2.1)).wpR Q:=by kernel_rfl
theorem acg (ok2:bG->Bool) (g2_2:bG->eQ) (ok0:cB->Bool) (g0_0:cB->j0) (h2:∀ s:bG,ok2 s=true->∃ m e,al (sK) m s=some e/\(AU g2_2 s).run=some e) (h0:∀ s:cB,ok0 s=true->∃ m e,al (oj ok2 g2_2) m s=some e/\(AV g0_0 s).run=some e) (pre:D0->Bool) (F:D0->OT gJ.Y) (hF:∀ (x:D0) oy,pre x=true->(F x).run=some oy->(SR ok2 g2_2 ok0 g0_0 (x.1.1) (x.1.2.1)).run=some oy):ac Tryz.prog 94 (gJ.aI pre F):=
 aD ar mJ uB (f:=94) (fn:=Tryz.f94) (c:=aj Tryz.f94) (by kernel_rfl) (by kernel_rfl) (by kernel_rfl) (S:=gJ) (k:=0) (by kernel_rfl) (λR hR=>(aB (c:=(aj Tryz.f94)) (by kernel_rfl) (id:=0) (by kernel_rfl) (aR ar mJ uB (sh:=sJ) hR (xs:=W0) (aC (by kernel_rfl) (by kernel_rfl) hR) aL (aB (c:=(aU (aj Tryz.f94) 0)) (by kernel_rfl) (id:=2) (by kernel_rfl) (aR ar mJ uB (sh:=sI) hR (xs:=WZ) (aC (by kernel_rfl) (by kernel_rfl) hR) aL af (n:=1000) (T:=sK) (λs Q=>asa s Q) (ok:=ok2) (f:=AU g2_2) h2) af) (n:=1000) (T:=oj ok2 g2_2) (λs Q=>asb ok2 g2_2 s Q) (ok:=ok0) (f:=AV g0_0) h0) af)) (n:=1000) (sel:=PE) (λv o h=>by cases h;rfl) (pre:=pre) (F:=F) (T:=λx=>SR ok2 g2_2 ok0 g0_0 (x.1.1) (x.1.2.1)) (λx Q=>ay9 ok2 g2_2 ok0 g0_0 x Q) hF
def eP:aa:=⟨1,0,0,0⟩
def sqN (p:Nat) (b:aa) (n:Nat):aa:=upto (λ_ e=>bP p e e) b n
def gX (s:bG):Bool:=ap s.1.1&&decide (s.1.2.2.2.2.2.2.2.2.1=1/\s.1.2.2.2.2.2.2.1<=1000/\s.2.2.2.2.2.2.1.length=4)
def lH (s:bG):eQ:=((s.1.1,(),(),(),(),(),s.1.2.2.2.2.2.2.1,(),()),(s.2.1,s.2.2.1,s.2.2.2.1,s.2.2.2.2.1,s.2.2.2.2.2.1,lst (sqN (pS s.1.1) (elemOf s.2.2.2.2.2.2.1) (s.1.2.2.2.2.2.2.1-1).toNat),()))
theorem asd:∀ s:bG,gX s=true->∃ m e,al sK m s=some e/\(AU lH s).run=some e:=by
 rintro ⟨⟨s,⟨⟩,⟨⟩,⟨⟩,⟨⟩,⟨⟩,i,⟨⟩,j,⟨⟩⟩,⟨c0,c1,c2,c3,c4,c5,⟨⟩⟩⟩ h
 simp only [gX,Bool.and_eq_true,decide_eq_true_eq] at h
 obtain ⟨hs,rfl,hi,hl⟩:=h
 obtain ⟨t,rfl⟩:∃ a,c5=lst a:=⟨elemOf c5,(aS hl).symm⟩
 have:=(aP (T:=sK) (λk t=>(((s,(),(),(),(),(),i,(),1+(k:Int),()),(c0,c1,c2,c3,c4,lst t,())):bG)) (λ_ e=>bP (pS s) e e)
  (λt=>(⟨(.exit 2,qq),((s,(),(),(),(),(),i,(),()),(c0,c1,c2,c3,c4,lst t,()))⟩:aE)) (i-1).toNat t (λ_ _=>True) trivial (λk t hk _=>⟨?_,trivial⟩) (λt _=> ?_)).1
 ·obtain ⟨m,hm⟩:=this
  exact ⟨m,_,hm,rfl⟩
 ·have e2:(1:Int)+(k:Int)+1=1+((k+1:Nat):Int):=by omega
  rw [<-e2]
  refine (OT.ao (decide_eq_true (by dsimp only;omega))).trans ((ah ?_).trans rfl)
  simp only [List.all_cons,List.all_nil,Bool.and_true,Bool.and_eq_true]
  exact ⟨rfl,rfl,hs,rfl,aH (by omega)⟩
 ·exact OT.aq (decide_eq_false (by dsimp only;omega))
abbrev Ton:Type:=aa×aa×aa
def yh (p m:Nat) (k:Nat) (w:Ton):Ton:=cond (eqE (sqN p w.2.1 (m-k-1)) eP) (w.1,w.2.1,bP p w.2.2 w.2.2) (bP p w.1 w.2.2,bP p w.2.1 (bP p w.2.2 w.2.2),bP p w.2.2 w.2.2)
def Wb (s:Int) (c0:List UInt64) (i:Int) (w:Ton):cB:=((s,(),(),(),(),(),i,()),(c0,lst eP,lst w.1,lst w.2.1,lst w.2.2,()))
theorem awI {s:Int} (hs:ap s=true) (c0:List UInt64) {m k:Nat} (hm:m<=1000) (hk:k<m) (w:Ton):
 (oj gX lH (Wb s c0 ((m:Int)-(k:Int)) w)).run=some (.inl (Wb s c0 ((m:Int)-((k+1:Nat):Int)) (yh (pS s) m k w))):=by
 obtain ⟨x,b,z⟩:=w
 have e2:(m:Int)-((k+1:Nat):Int)=(m:Int)-(k:Int)-1:=by omega
 have hi:inR ((m:Int)-(k:Int)-1)=true:=aH (by omega)
 have hk2:((m:Int)-(k:Int)-1).toNat=m-k-1:=by omega
 have hg:lH ((s,(),(),(),(),(),(m:Int)-(k:Int),(),1,()),(c0,lst eP,lst x,lst b,lst z,lst b,()))=((s,(),(),(),(),(),(m:Int)-(k:Int),(),()),(c0,lst eP,lst x,lst b,lst z,lst (sqN (pS s) b (m-k-1)),())):=by
  show ((s,(),(),(),(),(),(m:Int)-(k:Int),(),()),(c0,lst eP,lst x,lst b,lst z,lst (sqN (pS s) b ((m:Int)-(k:Int)-1).toNat),()))=_
  rw [hk2]
 have hok:gX ((s,(),(),(),(),(),(m:Int)-(k:Int),(),1,()),(c0,lst eP,lst x,lst b,lst z,lst b,()))=true:=
  (Bool.and_eq_true _ _).mpr ⟨hs,decide_eq_true (p:=(1:Int)=1/\(m:Int)-(k:Int)<=1000/\(lst b).length=4) ⟨rfl,by omega,rfl⟩⟩
 have hb: [List.getD (lst b) 0 0,List.getD (lst b) 1 0,List.getD (lst b) 2 0,List.getD (lst b) 3 0]=lst b:=rfl
 have hpre:∀ x y,fa ((s,x,y,()),())=true:=λ_ _=>hs
 show (Jx gX lH s ((m:Int)-(k:Int)) c0 (lst eP) (lst x) (lst b) (lst z)).run=_
 unfold Jx
 simp only [hb,hg,hok]
 refine (OT.ao (decide_eq_true (by omega))).trans ((ah rfl).trans ?_)
 unfold yh
 dsimp only
 rw [e2]
 generalize sqN (pS s) b (m-k-1)=t
 rcases (Bool.eq_false_or_eq_true (eqE t eP)).symm with h|h
 ·refine (OT.ao (b:= !eqE t eP) (by rw [h];rfl)).trans ((ah ?_).trans ?_)
  ·simp only [aGL,aGU,cK,hpre,hi,List.all_cons,List.all_nil,Bool.and_true,Bool.and_eq_true]
   exact ⟨rfl,rfl,trivial,rfl,rfl,rfl,rfl,trivial,trivial,rfl,rfl,rfl,trivial,rfl⟩
  ·rw [h]
   simp only [aGL,aGU]
   rfl
 ·refine (OT.aq (b:= !eqE t eP) (by rw [h];rfl)).trans ((ah ?_).trans ?_)
  ·simp only [aGL,aGU,cK,hpre,hi,List.all_cons,List.all_nil,Bool.and_true,Bool.and_eq_true]
   exact ⟨rfl,rfl,trivial,rfl⟩
  ·rw [h]
   simp only [aGL,aGU]
   rfl
def awJ (p m:Nat) (w:Ton):Ton:=upto (yh p m) w m
def DZ (s:cB):Bool:=ap s.1.1&&decide (0<=s.1.2.2.2.2.2.2.1/\s.1.2.2.2.2.2.2.1<=1000/\s.2.2.1= [1,0,0,0]/\s.2.2.2.1.length=4/\s.2.2.2.2.1.length=4/\s.2.2.2.2.2.1.length=4)
def Jw (s:cB):j0:=((s.1.1,(),(),()),(s.2.1,lst (awJ (pS s.1.1) s.1.2.2.2.2.2.2.1.toNat (elemOf s.2.2.2.1,elemOf s.2.2.2.2.1,elemOf s.2.2.2.2.2.1)).1,()))
theorem ase:∀ s:cB,DZ s=true->∃ m e,al (oj gX lH) m s=some e/\(AV Jw s).run=some e:=by
 rintro ⟨⟨s,⟨⟩,⟨⟩,⟨⟩,⟨⟩,⟨⟩,i,⟨⟩⟩,⟨c0,c1,c2,c3,c4,⟨⟩⟩⟩ h
 simp only [DZ,Bool.and_eq_true,decide_eq_true_eq] at h
 obtain ⟨hs,h0,h1,rfl,h2,h3,h4⟩:=h
 obtain ⟨x,rfl⟩:∃ a,c2=lst a:=⟨elemOf c2,(aS h2).symm⟩
 obtain ⟨b,rfl⟩:∃ a,c3=lst a:=⟨elemOf c3,(aS h3).symm⟩
 obtain ⟨z,rfl⟩:∃ a,c4=lst a:=⟨elemOf c4,(aS h4).symm⟩
 obtain ⟨m,rfl⟩:∃ m:Nat,i=(m:Int):=⟨i.toNat,by omega⟩
 have:=(aP (T:=oj gX lH) (λk w=>Wb s c0 ((m:Int)-(k:Int)) w) (yh (pS s) m)
  (λw=>(⟨(.exit 0,qs),((s,(),(),()),(c0,lst w.1,()))⟩:aE)) m (x,b,z) (λ_ _=>True) trivial (λk w hk _=>⟨awI hs c0 (by omega) hk w,trivial⟩) (λw _=> ?_)).1
 ·obtain ⟨n,hn⟩:=this
  refine ⟨n,_,?_,rfl⟩
  have e:Wb s c0 ((m:Int)-((0:Nat):Int)) (x,b,z)=((s,(),(),(),(),(),(m:Int),()),(c0,[1,0,0,0],lst x,lst b,lst z,())):=by
   rw [show (m:Int)-((0:Nat):Int)=(m:Int) by omega]
   rfl
  rw [e] at hn
  exact hn
 ·exact OT.aq (decide_eq_false (by dsimp only [Wb];omega))
def sr (s:Int) (a:aa):aa:=(awJ (pS s) ((aY s.toNat).2.1-1).toNat
 (gO (pS s) a (dp (qa (dT (eu (aY s.toNat).1 eP).1 (aY s.toNat).2.1.toNat) eP).1),gO (pS s) a (dT (eu (aY s.toNat).1 eP).1 (aY s.toNat).2.1.toNat),gO (pS s) ⟨5,0,0,0⟩ (dT (eu (aY s.toNat).1 eP).1 (aY s.toNat).2.1.toNat))).1
def kS (p:Nat) (x:aa):aa:=cond (x.w0%2==1) (zW p x) x
def oi (x:D0):Bool:=ap x.1.1
def air (x:D0):OT gJ.Y:=.br (bU (ofP (pS x.1.1) x.1.2.1)) (.ok ⟨fN,((⟨0,0,0,0⟩,((0:Int),())),())⟩)
 (.br (eqE (gO (pS x.1.1) (ofP (pS x.1.1) x.1.2.1) (dp (eu (aY x.1.1.toNat).1 eP).1)) eP) (.ok ⟨fN,((kS (pS x.1.1) (sr x.1.1 (ofP (pS x.1.1) x.1.2.1)),((0:Int),())),())⟩) (.ok ⟨fN,((⟨0,0,0,0⟩,((22:Int),())),())⟩))
theorem awk {s:Int} (hs:ap s=true):1<=(aY s.toNat).2.1/\(aY s.toNat).2.1<=32:=by
 rcases cv hs with rfl|rfl|rfl|rfl<;>decide
theorem asc:ac Tryz.prog 94 (gJ.aI oi air):=acg gX lH DZ Jw asd ase _ _ λx oy hp ho=>by
 rw [<-ho]
 clear ho
 obtain ⟨⟨s,a,⟨⟩⟩,⟨⟩⟩:=x
 have hs:ap s=true:=hp
 have had:=awk hs
 show _=(OT.br (bU (ofP (pS s) a)) (.ok ⟨fN,((⟨0,0,0,0⟩,((0:Int),())),())⟩) (.br (eqE (gO (pS s) (ofP (pS s) a) (dp (eu (aY s.toNat).1 eP).1)) eP) (.ok ⟨fN,((kS (pS s) (sr s (ofP (pS s) a)),((0:Int),())),())⟩) (.ok ⟨fN,((⟨0,0,0,0⟩,((22:Int),())),())⟩)):OT gJ.Y).run
 refine (ah ?_).trans ?_
 ·simp only [List.all_cons,List.all_nil,Bool.and_true,Bool.and_eq_true]
  exact ⟨hs,hs⟩
 generalize hA:ofP (pS s) a=A
 rcases (Bool.eq_false_or_eq_true (bU A)).symm with hz|hz
 ·refine Eq.trans ?_ (OT.aq (b:=bU A) hz).symm
  refine (OT.aq hz).trans ((ah ?_).trans ?_)
  ·simp only [List.all_cons,List.all_nil,Bool.and_true]
   exact hs
  ·rcases (Bool.eq_false_or_eq_true (eqE (gO (pS s) A (dp (eu (aY s.toNat).1 eP).1)) eP)).symm with h1|h1
   ·refine Eq.trans ?_ (OT.aq h1).symm
    exact OT.ao (b:= !eqE (gO (pS s) A (dp (eu (aY s.toNat).1 eP).1)) eP) (by rw [h1];rfl)
   ·refine Eq.trans ?_ (OT.ao h1).symm
    refine (OT.aq (b:= !eqE (gO (pS s) A (dp (eu (aY s.toNat).1 eP).1)) eP) (by rw [h1];rfl)).trans ((ah ?_).trans ?_)
    ·simp only [List.all_cons,List.all_nil,Bool.and_true,Bool.and_eq_true]
     refine ⟨hs,decide_eq_true ⟨(by show 0<=(aY s.toNat).2.1;omega),(by show (aY s.toNat).2.1<=1000000;omega)⟩,hs,hs,hs,aH (by omega),(Bool.and_eq_true _ _).mpr ⟨hs,?_⟩,rfl⟩
     exact decide_eq_true ⟨(by show 0<=(aY s.toNat).2.1-1;omega),(by show (aY s.toNat).2.1-1<=1000;omega),rfl,rfl,rfl,rfl⟩
    ·have hg:∀ w x b z:aa,(Jw ((s,(),(),(),(),(),(aY s.toNat).2.1-1,()),([0,0,0,0],[1,0,0,0],[x.w0,x.w1,x.w2,x.w3],[b.w0,b.w1,b.w2,b.w3],[z.w0,z.w1,z.w2,z.w3],())))=((s,(),(),()),([0,0,0,0],lst (awJ (pS s) ((aY s.toNat).2.1-1).toNat (x,b,z)).1,())):=λ_ _ _ _=>rfl
     simp only [hg eP]
     have hR:(awJ (pS s) ((aY s.toNat).2.1-1).toNat (gO (pS s) A (dp (qa (dT (eu (aY s.toNat).1 ⟨1,0,0,0⟩).1 (aY s.toNat).2.1.toNat) ⟨1,0,0,0⟩).1),gO (pS s) A (dT (eu (aY s.toNat).1 ⟨1,0,0,0⟩).1 (aY s.toNat).2.1.toNat),gO (pS s) ⟨5,0,0,0⟩ (dT (eu (aY s.toNat).1 ⟨1,0,0,0⟩).1 (aY s.toNat).2.1.toNat))).1=sr s A:=rfl
     simp only [hR]
     generalize sr s A=R
     rcases (Bool.eq_false_or_eq_true (R.w0%2==1)).symm with h2|h2
     ·have e:kS (pS s) R=R:=by unfold kS;rw [h2];rfl
      rw [e]
      exact (OT.aq h2).trans ((ah rfl).trans rfl)
     ·have e:kS (pS s) R=zW (pS s) R:=by unfold kS;rw [h2];rfl
      rw [e]
      refine (OT.ao h2).trans ((ah ?_).trans rfl)
      simp only [List.all_cons,List.all_nil,Bool.and_true,Bool.and_eq_true]
      exact ⟨rfl,hs,rfl,rfl,rfl,rfl⟩
 ·exact (OT.ao hz).trans (OT.ao (b:=bU A) hz).symm
def yz:cn:=(gJ.aI oi air)
theorem W2:ac Tryz.prog 94 yz:=asc
theorem W1:aG yz:=aA
def CF:Env:=ay 94 yz rz
theorem zB:aQ Tryz.prog CF:=ag W2 mJ
theorem CE:ax CF:=ae W1 CB
theorem aaJ:aW Tryz.prog te CF:=aJ follows ar zB CE
def kj:aw:=⟨[.val false .int,.val false .int],[],true,0,false⟩
abbrev PP:Type:=((Int)×(Int)×Unit)×(Unit)
def A1:az:=⟨[.val true .elem],[],false⟩
def Xi:SV->Option az:=λ_=>some A1
def acG (a0:Int) (a1:Int):OT kj.Y:=
 let z0:UInt64:=i2u a1
 let z1:aa:= {w0:=z0,w1:=0,w2:=0,w3:=0}
 let z2:Nat:=pS a0
 let z3:aa:= {w0:=0-z0,w1:=0,w2:=0,w3:=0}
 (.br (decide ((0:Int)<=a1))
 (gd [sN ((a0,z1,()),())] (.ok ⟨A1,((ofP z2 z1,()),())⟩))
 (gd [lL ((a0,z3,()),())] (.ok ⟨A1,((zW z2 z3,()),())⟩)))
theorem aEP (x:PP) (Q:kj.Y->Prop):wpf te CF av 1000 Tryz.f108 (kj.inp.inj x).tm (kj.inp.inj x).hp (fnK kj Xi Q) (λ_ _=>False)=(acG (x.1.1) (x.1.2.1)).wpR Q:=by kernel_rfl
theorem alQ (pre:PP->Bool) (F:PP->OT kj.Y) (hF:∀ (x:PP) oy,pre x=true->(F x).run=some oy->(acG (x.1.1) (x.1.2.1)).run=some oy):ac Tryz.prog 108 (kj.aI pre F):=
 aD ar zB aaJ (f:=108) (fn:=Tryz.f108) (c:=aj Tryz.f108) (by kernel_rfl) (by kernel_rfl) (by kernel_rfl) (S:=kj) (k:=0) (by kernel_rfl) (λR hR=>af) (n:=1000) (sel:=Xi) (λv o h=>by cases h;rfl) (pre:=pre) (F:=F) (T:=λx=>acG (x.1.1) (x.1.2.1)) (λx Q=>aEP x Q) hF
def aH3 (p:Nat) (n:Int):aa:=cond (decide (0<=n)) (ofP p ⟨i2u n,0,0,0⟩) (zW p ⟨0-i2u n,0,0,0⟩)
def JL (x:PP):Bool:=ap x.1.1
def asx (x:PP):OT kj.Y:=.ok ⟨A1,((aH3 (pS x.1.1) x.1.2.1,()),())⟩
theorem azh:ac Tryz.prog 108 (kj.aI JL asx):=alQ _ _ λx oy hp ho=>by
 rw [<-ho]
 clear ho
 obtain ⟨⟨s,n,⟨⟩⟩,⟨⟩⟩:=x
 have hs:ap s=true:=hp
 show _=some (⟨A1,((aH3 (pS s) n,()),())⟩:kj.Y)
 unfold aH3
 rcases (Bool.eq_false_or_eq_true (decide ((0:Int)<=n))).symm with h|h
 ·rw [h]
  refine (OT.aq h).trans ((ah ?_).trans rfl)
  simp only [List.all_cons,List.all_nil,Bool.and_true]
  exact hs
 ·rw [h]
  refine (OT.ao h).trans ((ah ?_).trans rfl)
  simp only [List.all_cons,List.all_nil,Bool.and_true]
  exact hs
def D8:cn:=(kj.aI JL asx)
theorem acF:ac Tryz.prog 108 D8:=azh
theorem acE:aG D8:=aA
def FP:Env:=ay 108 D8 CF
theorem xb:aQ Tryz.prog FP:=ag acF zB
theorem G3:ax FP:=ae acE CE
theorem Nd:aW Tryz.prog te FP:=aJ follows ar xb G3
def io:aw:=⟨[.val false .int,.val false .int],[],true,0,false⟩
abbrev DV:Type:=((Int)×(Int)×Unit)×(Unit)
def sH:Shape:=⟨38,[(0,.val false .int),(1,.val false .int),(4,.ptr 0 0 0)],[(0,.cells [.val false .u64,.val false .u64,.val false .u64,.val false .u64,.val false .u64,.val false .u64,.val false .u64,.val false .u64,.val false .bool])],0,true⟩
abbrev ct:Type:=((Int)×(Int)×(Unit)×Unit)×(((UInt64)×(UInt64)×(UInt64)×(UInt64)×(UInt64)×(UInt64)×(UInt64)×(UInt64)×(Bool)×Unit)×Unit)
def jx:Shape:=⟨38,[(4,.ptr 0 0 0)],[(0,.cells [.val false .u64,.val false .u64,.val false .u64,.val false .u64,.val false .u64,.val false .u64,.val false .u64,.val false .u64,.val false .bool])],0,true⟩
abbrev jY:Type:=((Unit)×Unit)×(((UInt64)×(UInt64)×(UInt64)×(UInt64)×(UInt64)×(UInt64)×(UInt64)×(UInt64)×(Bool)×Unit)×Unit)
def WN:SE->Option Shape:=fC [] (some jx)
def ar2 (a0:Int) (a1:Int) (c0_0:UInt64) (c0_1:UInt64) (c0_2:UInt64) (c0_3:UInt64) (c0_4:UInt64) (c0_5:UInt64) (c0_6:UInt64) (c0_7:UInt64) (c0_8:Bool):OT (Sum ct aE):=
 let z0:Nat:=pS a0
 let z1:aa:=aH3 z0 a1
 let z2:aa:=xt z0 z1 (bS a0)
 let z3:aa:=ofP z0 z2
 let z4:Bool:=inR (a1+(1:Int))
 let z5:aa:=kS z0 (sr a0 z3)
 let z6:=z5.w0
 let z7:=z5.w1
 let z8:=z5.w2
 let z9:=z5.w3
 let z10:=z1.w0
 let z11:=z1.w1
 let z12:=z1.w2
 let z13:=z1.w3
 (gd [JL ((a0,a1,()),()),og ((a0,z1,()),()),oi ((a0,z2,()),())] (.br (bU z3)
 (gd [z4] (.ok (.inl ((a0,(a1+(1:Int),((),()))),((c0_0,(c0_1,(c0_2,(c0_3,(c0_4,(c0_5,(c0_6,(c0_7,(c0_8,()))))))))),())))))
 (.br (eqE (gO z0 z3 (dp (eu (aY (Int.toNat a0)).fst eP).fst)) eP)
  (.br (!(z6==(0:UInt64)&&(z7==(0:UInt64)&&(z8==(0:UInt64)&&(z9==(0:UInt64)&&true)))))
   (.br (!(z10==(0:UInt64)&&(z11==(0:UInt64)&&(z12==(0:UInt64)&&(z13==(0:UInt64)&&true)))))
    (.ok (.inr ⟨(.ret,jx),(((),()),((z10,(z11,(z12,(z13,(z6,(z7,(z8,(z9,(false,()))))))))),()))⟩))
    (gd [z4] (.ok (.inl ((a0,(a1+(1:Int),((),()))),((c0_0,(c0_1,(c0_2,(c0_3,(c0_4,(c0_5,(c0_6,(c0_7,(c0_8,()))))))))),()))))))
   (gd [z4] (.ok (.inl ((a0,(a1+(1:Int),((),()))),((c0_0,(c0_1,(c0_2,(c0_3,(c0_4,(c0_5,(c0_6,(c0_7,(c0_8,()))))))))),()))))))
  (gd [z4] (.ok (.inl ((a0,(a1+(1:Int),((),()))),((c0_0,(c0_1,(c0_2,(c0_3,(c0_4,(c0_5,(c0_6,(c0_7,(c0_8,()))))))))),()))))))))
def oc (s:ct):OT (Sum ct aE):=ar2 (s.1.1) (s.1.2.1) (s.2.1.1) (s.2.1.2.1) (s.2.1.2.2.1) (s.2.1.2.2.2.1) (s.2.1.2.2.2.2.1) (s.2.1.2.2.2.2.2.1) (s.2.1.2.2.2.2.2.2.1) (s.2.1.2.2.2.2.2.2.2.1) (s.2.1.2.2.2.2.2.2.2.2.1)
theorem arZ (s:ct) (Q:Sum ct aE->Prop):wps te FP av 1000 (aU (aj Tryz.f65) 0) (sH.inj s) (bY sH WN (Q:Sum sH.T aE->Prop))=(oc s).wpR Q:=by kernel_rfl
def AP (g0_r:ct->jY) (s:ct):OT aE:=(.ok ⟨(.ret,jx),g0_r s⟩)
def Jp:az:=⟨[.val true (.prod .elem (.prod .elem .bool))],[],false⟩
def Py:SV->Option az:=λ_=>some Jp
def SL (ok0:ct->Bool) (g0_r:ct->jY) (a0:Int) (a1:Int):OT io.Y:=
 let z0:(Int×Int×PUnit×PUnit)×(UInt64×UInt64×UInt64×UInt64×UInt64×UInt64×UInt64×UInt64×Bool×PUnit)×PUnit:=((a0,a1,(),()),((0:UInt64),(0:UInt64),(0:UInt64),(0:UInt64),(0:UInt64),(0:UInt64),(0:UInt64),(0:UInt64),false,()),())
 let z1:=(g0_r z0).snd.fst
 let z2:=z1.snd
 let z3:=z2.snd
 let z4:=z3.snd
 let z5:=z4.snd
 let z6:=z5.snd
 let z7:=z6.snd
 let z8:=z7.snd
 (gd [ok0 z0] (.ok ⟨Jp,((({w0:=z1.fst,w1:=z2.fst,w2:=z3.fst,w3:=z4.fst},{w0:=z5.fst,w1:=z6.fst,w2:=z7.fst,w3:=z8.fst},z8.snd.fst),()),())⟩))
theorem ay4 (ok0:ct->Bool) (g0_r:ct->jY) (x:DV) (Q:io.Y->Prop):wpf te FP (aO 0 (cl sH 0 ok0 (AP g0_r)) av) 1000 Tryz.f65 (io.inp.inj x).tm (io.inp.inj x).hp (fnK io Py Q) (λ_ _=>False)=(SL ok0 g0_r (x.1.1) (x.1.2.1)).wpR Q:=by kernel_rfl
theorem ab7 (ok0:ct->Bool) (g0_r:ct->jY) (h0:∀ s:ct,ok0 s=true->∃ m e,al (oc) m s=some e/\(AP g0_r s).run=some e) (pre:DV->Bool) (F:DV->OT io.Y) (hF:∀ (x:DV) oy,pre x=true->(F x).run=some oy->(SL ok0 g0_r (x.1.1) (x.1.2.1)).run=some oy):ac Tryz.prog 65 (io.aI pre F):=
 aD ar xb Nd (f:=65) (fn:=Tryz.f65) (c:=aj Tryz.f65) (by kernel_rfl) (by kernel_rfl) (by kernel_rfl) (S:=io) (k:=0) (by kernel_rfl) (λR hR=>(aB (c:=(aj Tryz.f65)) (by kernel_rfl) (id:=0) (by kernel_rfl) (aR ar xb Nd (sh:=sH) hR (xs:=WN) (aC (by kernel_rfl) (by kernel_rfl) hR) aL af (n:=1000) (T:=oc) (λs Q=>arZ s Q) (ok:=ok0) (f:=AP g0_r) h0) af)) (n:=1000) (sel:=Py) (λv o h=>by cases h;rfl) (pre:=pre) (F:=F) (T:=λx=>SL ok0 g0_r (x.1.1) (x.1.2.1)) (λx Q=>ay4 ok0 g0_r x Q) hF
def alg (s n:Int):aa:=aH3 (pS s) n
def abD (s n:Int):aa:=ofP (pS s) (xt (pS s) (alg s n) (bS s))
def aq6 (s n:Int):aa:=kS (pS s) (sr s (abD s n))
def Si (s n:Int):Option Pt:=cond (bU (abD s n)) none (cond (eqE (gO (pS s) (abD s n) (dp (eu (aY s.toNat).1 eP).1)) eP)
 (cond (bU (aq6 s n)) none (cond (bU (alg s n)) none (some (alg s n,aq6 s n,false)))) none)
def qh (s:Int):Nat->Int->Option Pt
 |0,_=>none
 |k+1,n=>match Si s n with
  |some P=>some P
  |none=>qh s k (n+1)
def abC (s n:Int) (c:C9):ct:=((s,n,(),()),(c,()))
theorem aq5 {s n:Int} (hs:ap s=true) (h0:0<=n) (h1:n<=1000000) (c:C9):
 (oc (abC s n c)).run=match Si s n with
  |some P=>some (.inr ⟨(.ret,jx),(((),()),(bQ P,()))⟩)
  |none=>some (.inl (abC s (n+1) c)):=by
 have hi:inR (n+1)=true:=aH (by omega)
 have hgd:∀ z:OT (Sum ct aE),(gd [inR (n+1)] z).run=z.run:=λz=>ah (by simp only [hi,List.all_cons,List.all_nil,Bool.and_true])
 refine (ah (by simp only [List.all_cons,List.all_nil,Bool.and_true,Bool.and_eq_true];exact ⟨hs,hs,hs⟩)).trans ?_
 unfold Si
 rcases (Bool.eq_false_or_eq_true (bU (abD s n))).symm with h1|h1
 ·refine (OT.aq (b:=bU (abD s n)) h1).trans ?_
  rcases (Bool.eq_false_or_eq_true (eqE (gO (pS s) (abD s n) (dp (eu (aY s.toNat).1 eP).1)) eP)).symm with h2|h2
  ·rw [h1,h2]
   exact (OT.aq h2).trans (hgd _)
  ·refine (OT.ao h2).trans ?_
   rcases (Bool.eq_false_or_eq_true (bU (aq6 s n))).symm with h3|h3
   ·refine (OT.ao (b:= !bU (aq6 s n)) (by rw [h3];rfl)).trans ?_
    rcases (Bool.eq_false_or_eq_true (bU (alg s n))).symm with h4|h4
    ·rw [h1,h2,h3,h4]
     exact OT.ao (b:= !bU (alg s n)) (by rw [h4];rfl)
    ·rw [h1,h2,h3,h4]
     exact (OT.aq (b:= !bU (alg s n)) (by rw [h4];rfl)).trans (hgd _)
   ·rw [h1,h2,h3]
    exact (OT.aq (b:= !bU (aq6 s n)) (by rw [h3];rfl)).trans (hgd _)
 ·rw [h1]
  exact (OT.ao (b:=bU (abD s n)) h1).trans (hgd _)
theorem Wg {s:Int} (hs:ap s=true) (c:C9) {P:Pt}:∀ (k:Nat) (n:Int),0<=n->n+k<=1000000->qh s k n=some P->
 ∃ m,al oc m (abC s n c)=some ⟨(.ret,jx),(((),()),(bQ P,()))⟩
 |0,_,_,_,h=>by cases h
 |k+1,n,h0,h1,h=>by
  have hst:=aq5 hs h0 (by omega) c
  unfold qh at h
  cases ho:Si s n with
  |some Q=>
   rw [ho] at h hst
   obtain rfl:=Option.some.inj h
   exact ⟨1,aM hst⟩
  |none=>
   rw [ho] at h hst
   obtain ⟨m,hm⟩:=Wg hs c k (n+1) (by omega) (by omega) h
   exact ⟨m+1,aF hst hm⟩
def Ak:Nat:=2000
def DU (s:ct):Bool:=ap s.1.1&&decide (0<=s.1.2.1/\s.1.2.1<=2000)&&(qh s.1.1 Ak s.1.2.1).isSome
def aBK (s n:Int):Pt:=(qh s Ak n).getD cF
def WR (s:ct):jY:=(((),()),(bQ (aBK s.1.1 s.1.2.1),()))
theorem ar1:∀ s:ct,DU s=true->∃ m e,al oc m s=some e/\(AP WR s).run=some e:=by
 rintro ⟨⟨s,n,⟨⟩,⟨⟩⟩,⟨c,⟨⟩⟩⟩ h
 simp only [DU,Bool.and_eq_true,decide_eq_true_eq] at h
 obtain ⟨⟨hs,h0,h1⟩,h2⟩:=h
 obtain ⟨P,hP⟩:=Option.isSome_iff_exists.1 h2
 obtain ⟨m,hm⟩:=Wg hs c Ak n h0 (by show n+((2000:Nat):Int)<=_;omega) hP
 refine ⟨m,_,hm,?_⟩
 show some (⟨(.ret,jx),(((),()),(bQ ((qh s Ak n).getD cF),()))⟩:aE)=_
 rw [hP]
 rfl
def Pz (x:DV):Bool:=ap x.1.1&&decide (0<=x.1.2.1/\x.1.2.1<=2000)&&(qh x.1.1 Ak x.1.2.1).isSome
def aio (x:DV):OT io.Y:=.ok ⟨Jp,((aBK x.1.1 x.1.2.1,()),())⟩
theorem ar0:ac Tryz.prog 65 (io.aI Pz aio):=ab7 DU WR ar1 _ _ λx oy hp ho=>by
 rw [<-ho]
 clear ho
 obtain ⟨⟨s,n,⟨⟩⟩,⟨⟩⟩:=x
 refine (ah ?_).trans rfl
 simp only [List.all_cons,List.all_nil,Bool.and_true]
 exact hp
def yu:cn:=(io.aI Pz aio)
theorem WQ:ac Tryz.prog 65 yu:=ar0
theorem WO:aG yu:=aA
def CA:Env:=ay 65 yu FP
theorem zz:aQ Tryz.prog CA:=ag WQ xb
theorem Cz:ax CA:=ae WO G3
theorem aaH:aW Tryz.prog te CA:=aJ follows ar zz Cz
def lq:aw:=⟨[.val false (.list .u8)],[],true,0,false⟩
abbrev Pd:Type:=((List (UInt8))×Unit)×(Unit)
def Se:az:=⟨[.own 0],[(0,.row .u8)],false⟩
def V9:SV->Option az:=λ_=>some Se
def abu (a0:List (UInt8)):OT lq.Y:=
 (gd [decide ((0+List.length a0)*1<=140737488355328)] (.ok ⟨Se,(((),()),([]++a0,()))⟩))
theorem aCJ (x:Pd) (Q:lq.Y->Prop):wpf te CA av 1000 Tryz.f32 (lq.inp.inj x).tm (lq.inp.inj x).hp (fnK lq V9 Q) (λ_ _=>False)=(abu (x.1.1)).wpR Q:=by kernel_rfl
theorem ald (pre:Pd->Bool) (F:Pd->OT lq.Y) (hF:∀ (x:Pd) oy,pre x=true->(F x).run=some oy->(abu (x.1.1)).run=some oy):ac Tryz.prog 32 (lq.aI pre F):=
 aD ar zz aaH (f:=32) (fn:=Tryz.f32) (c:=aj Tryz.f32) (by kernel_rfl) (by kernel_rfl) (by kernel_rfl) (S:=lq) (k:=0) (by kernel_rfl) (λR hR=>af) (n:=1000) (sel:=V9) (λv o h=>by cases h;rfl) (pre:=pre) (F:=F) (T:=λx=>abu (x.1.1)) (λx Q=>aCJ x Q) hF
def lp (x:Pd):Bool:=decide (x.1.1.length<=140737488355328)
def apG (x:Pd):OT lq.Y:=.ok ⟨Se,(((),()),(x.1.1,()))⟩
theorem awH:ac Tryz.prog 32 (lq.aI lp apG):=ald _ _ λx oy hp ho=>by
 rw [<-ho]
 have hp':x.1.1.length<=140737488355328:=of_decide_eq_true hp
 refine (ah ?_).trans rfl
 simp only [List.all_cons,List.all_nil,Bool.and_true]
 exact decide_eq_true (by omega)
def DF:cn:=(lq.aI lp apG)
theorem abt:ac Tryz.prog 32 DF:=awH
theorem abr:aG DF:=aA
def FF:Env:=ay 32 DF CA
theorem wY:aQ Tryz.prog FF:=ag abt zz
theorem GS:ax FF:=ae abr Cz
theorem MV:aW Tryz.prog te FF:=aJ follows ar wY GS
def fY:aw:=⟨[.val false (.list .u8)],[],true,0,false⟩
abbrev wm:Type:=((List (UInt8))×Unit)×(Unit)
def pi:Shape:=⟨27,[(2,.ptr 0 0 0),(3,.ptr 1 0 0),(6,.val false (.list .u8)),(7,.val false .int),(8,.val false .int)],[(0,.row .u64),(1,.row .u64)],0,true⟩
abbrev bF:Type:=((Unit)×(Unit)×(List (UInt8))×(Int)×(Int)×Unit)×((List (UInt64))×(List (UInt64))×Unit)
def nv:Shape:=⟨27,[(2,.ptr 0 0 0),(3,.ptr 1 0 0)],[(0,.row .u64),(1,.row .u64)],0,true⟩
abbrev gz:Type:=((Unit)×(Unit)×Unit)×((List (UInt64))×(List (UInt64))×Unit)
def QV:SE->Option Shape:=fC [(0,nv)] none
def anw (a6:List (UInt8)) (a7:Int) (a8:Int) (c0:List (UInt64)) (c1:List (UInt64)):OT (Sum bF aE):=
 let z0:Int:=Int.tdiv a8 (8:Int)
 let z1:Bool:=inB z0 4
 let z2:Bool:=decide (Int.toNat z0+0<List.length c1)
 let z3:Int:=(8:Int)*Int.tmod a8 (8:Int)
 (.br (decide (a8<a7))
 (gd [inB a8 (List.length a6),true&&inR z0,z1,z2,inR z3,decide ((0:Int)<=z3),z1,z2,inR (a8+(1:Int))] (.ok (.inl (((),((),(a6,(a7,(a8+(1:Int),()))))),(c0,(List.set c1 (Int.toNat z0+0) (List.getD c1 (Int.toNat z0+0) (0:UInt64)|||bR (UInt8.toUInt64 (List.getD a6 (Int.toNat a8) (0:UInt8))) z3),()))))))
 (.ok (.inr ⟨(.exit 0,nv),(((),((),())),(c0,(c1,())))⟩)))
def pj (s:bF):OT (Sum bF aE):=anw (s.1.2.2.1) (s.1.2.2.2.1) (s.1.2.2.2.2.1) (s.2.1) (s.2.2.1)
theorem ant (s:bF) (Q:Sum bF aE->Prop):wps te FF av 1000 (aU (aj Tryz.f101) 0) (pi.inj s) (bY pi QV (Q:Sum pi.T aE->Prop))=(pj s).wpR Q:=by kernel_rfl
def wl (g0_0:bF->gz) (s:bF):OT aE:=(.ok ⟨(.exit 0,nv),g0_0 s⟩)
def wk:az:=⟨[.val true .elem],[],false⟩
def LA:SV->Option az:=λ_=>some wk
def tI (ok0:bF->Bool) (g0_0:bF->gz) (a0:List (UInt8)):OT fY.Y:=
 let z0:(PUnit×PUnit×List UInt8×Int×Int×PUnit)×List UInt64×List UInt64×PUnit:=(((),(),a0,(↑(List.length a0):Int),(0:Int),()),[(0:UInt64),(0:UInt64),(0:UInt64),(0:UInt64)],[(0:UInt64),(0:UInt64),(0:UInt64),(0:UInt64)],())
 let z1:=(g0_0 z0).snd
 let z2:=z1.snd.fst
 let z3:=z1.fst
 let z4:List UInt64:=lay z3 z2 4 (0:UInt64)
 (gd [ok0 z0,decide (4<=List.length z2),decide ((4/1:Nat)+0<=List.length z3),decide (4<=List.length z4)] (.ok ⟨wk,(({w0:=List.getD z4 0 0,w1:=List.getD z4 1 0,w2:=List.getD z4 2 0,w3:=List.getD z4 3 0},()),())⟩))
theorem aum (ok0:bF->Bool) (g0_0:bF->gz) (x:wm) (Q:fY.Y->Prop):wpf te FF (aO 0 (cl pi 0 ok0 (wl g0_0)) av) 1000 Tryz.f101 (fY.inp.inj x).tm (fY.inp.inj x).hp (fnK fY LA Q) (λ_ _=>False)=(tI ok0 g0_0 (x.1.1)).wpR Q:=by kernel_rfl
theorem Y1 (ok0:bF->Bool) (g0_0:bF->gz) (h0:∀ s:bF,ok0 s=true->∃ m e,al (pj) m s=some e/\(wl g0_0 s).run=some e) (pre:wm->Bool) (F:wm->OT fY.Y) (hF:∀ (x:wm) oy,pre x=true->(F x).run=some oy->(tI ok0 g0_0 (x.1.1)).run=some oy):ac Tryz.prog 101 (fY.aI pre F):=
 aD ar wY MV (f:=101) (fn:=Tryz.f101) (c:=aj Tryz.f101) (by kernel_rfl) (by kernel_rfl) (by kernel_rfl) (S:=fY) (k:=0) (by kernel_rfl) (λR hR=>(aB (c:=(aj Tryz.f101)) (by kernel_rfl) (id:=0) (by kernel_rfl) (aR ar wY MV (sh:=pi) hR (xs:=QV) (aC (by kernel_rfl) (by kernel_rfl) hR) aL af (n:=1000) (T:=pj) (λs Q=>ant s Q) (ok:=ok0) (f:=wl g0_0) h0) af)) (n:=1000) (sel:=LA) (λv o h=>by cases h;rfl) (pre:=pre) (F:=F) (T:=λx=>tI ok0 g0_0 (x.1.1)) (λx Q=>aum ok0 g0_0 x Q) hF
def TM (b:List UInt8) (k:Nat) (l:List UInt64):List UInt64:=l.set (k/8) (l.getD (k/8) 0|||bR (UInt8.toUInt64 (b.getD k 0)) (8*((k%8:Nat):Int)))
def aGP (b:List UInt8) (n:Nat):List UInt64:=upto (TM b) [0,0,0,0] n
def HF (b:List UInt8):aa:=elemOf (aGP b 32)
theorem yU (b:List UInt8):∀ n,(aGP b n).length=4
 |0=>rfl
 |n+1=>(List.length_set ..).trans (yU b n)
def LB (s:bF):Bool:=decide (s.1.2.2.1.length=32/\s.1.2.2.2.1=32/\s.1.2.2.2.2.1=0/\s.2.2.1= [0,0,0,0])
def QW (s:bF):gz:=(((),(),()),(s.2.1,aGP s.1.2.2.1 32,()))
theorem aE8 (i:Nat):Int.tdiv (i:Int) 8=((i/8:Nat):Int):=by rw [Int.tdiv_eq_ediv_of_nonneg (by omega)];omega
theorem aE9 (i:Nat):Int.tmod (i:Int) 8=((i%8:Nat):Int):=by rw [Int.tmod_eq_emod_of_nonneg (by omega)];omega
theorem anv:∀ s:bF,LB s=true->∃ m e,al pj m s=some e/\(wl QW s).run=some e:=by
 rintro ⟨⟨⟨⟩,⟨⟩,b,n,i,⟨⟩⟩,⟨c0,c1,⟨⟩⟩⟩ h
 have h':=of_decide_eq_true h
 dsimp only at h'
 obtain ⟨hb,rfl,rfl,rfl⟩:=h'
 have:=(aP (T:=pj) (λi o=>((((),(),b,(32:Int),(i:Int),()),(c0,o,())):bF)) (TM b)
  (λo=>(⟨(.exit 0,nv),(((),(),()),(c0,o,()))⟩:aE)) 32 [0,0,0,0] (λ_ o=>o.length=4) rfl (λi o hi ho=>⟨?_,(List.length_set ..).trans ho⟩) (λo ho=> ?_)).1
 ·obtain ⟨m,hm⟩:=this
  exact ⟨m,_,hm,rfl⟩
 ·have t1:=aE8 i
  have t2:=aE9 i
  refine (OT.ao (decide_eq_true (by dsimp only;omega))).trans ((ah ?_).trans ?_)
  ·simp only [t1,t2,ho,hb,Int.toNat_natCast,List.all_cons,List.all_nil,Bool.and_true,Bool.true_and,Bool.and_eq_true]
   exact ⟨aN (by omega),aH (by omega),aN (by omega),decide_eq_true (by omega),aH (by omega),decide_eq_true (by omega),aN (by omega),decide_eq_true (by omega),aH (by omega)⟩
  ·simp only [OT.cP,t1,t2,Int.toNat_natCast,Nat.add_zero]
   rfl
 ·exact OT.aq (decide_eq_false (by dsimp only;omega))
def jI (x:wm):Bool:=decide (x.1.1.length=32)
def Y4 (x:wm):OT fY.Y:=.ok ⟨wk,((HF x.1.1,()),())⟩
abbrev Y0 (b:List UInt8):bF:=(((),(),b,(b.length:Int),0,()),([0,0,0,0],[0,0,0,0],()))
theorem Y3 {ok0:bF->Bool} {g0:bF->gz} {b:List UInt8} {L:List UInt64} (hok:ok0 (Y0 b)=true)
 (hg:g0 (Y0 b)=(((),(),()),([0,0,0,0],L,()))) (hL:L.length=4):(tI ok0 g0 b).run=some ⟨wk,((elemOf L,()),())⟩:=by
 have e:lay [0,0,0,0] L 4 0=L:=xE rfl hL
 unfold tI
 simp only [hg]
 refine (ah ?_).trans ?_
 ·simp only [e,hL,List.all_cons,List.all_nil,Bool.and_true,Bool.and_eq_true]
  exact ⟨hok,rfl,rfl,rfl⟩
 ·rw [e]
  rfl
theorem anu:ac Tryz.prog 101 (fY.aI jI Y4):=Y1 LB QW anv _ _ λx oy hp ho=>by
 rw [<-ho]
 clear ho
 obtain ⟨⟨b,⟨⟩⟩,⟨⟩⟩:=x
 have hb:b.length=32:=of_decide_eq_true hp
 exact Y3 (b:=b) (L:=aGP b 32) (decide_eq_true ⟨hb,by show ((b.length:Nat):Int)=32;omega,rfl,rfl⟩) rfl (yU b 32)
def tH:cn:=(fY.aI jI Y4)
theorem Uw:ac Tryz.prog 101 tH:=anu
theorem Uv:aG tH:=aA
def uQ:Env:=ay 101 tH FF
theorem uP:aQ Tryz.prog uQ:=ag Uw wY
theorem xZ:ax uQ:=ae Uv GS
theorem VL:aW Tryz.prog te uQ:=aJ follows ar uP xZ
def kp:aw:=⟨[.val false .int,.val false (.list .u8)],[],true,0,false⟩
abbrev QP:Type:=((Int)×(List (UInt8))×Unit)×(Unit)
def iW:az:=⟨[.val true .elem,.val false .int],[],false⟩
def YL:SV->Option az:=λ_=>some iW
def Lo (a0:Int) (a1:List (UInt8)):OT kp.Y:=
 let z0:Nat:=List.length a1
 let z1:Int:=(↑z0:Int)
 let z2:aa:= {w0:=0,w1:=0,w2:=0,w3:=0}
 let z3:List UInt8:=List.drop 0 (List.take 32 a1)
 let z4:List UInt8:=List.drop 32 a1
 let z5:aa:=(aY (Int.toNat a0)).fst
 (.br (ap a0)
 (.br (!z1==(64:Int))
  (.ok ⟨iW,((z2,((21:Int),())),())⟩)
  (gd [dD (0:Int) (32:Int) z0,jI ((z3,()),()),dD (32:Int) z1 z0,jI ((z4,()),())] (.br (nk z5)
   (.ok ⟨iW,((z2,((10:Int),())),())⟩)
   (.ok ⟨iW,((ayZ (HF z3) (HF z4) z5,((0:Int),())),())⟩))))
 (.ok ⟨iW,((z2,((20:Int),())),())⟩))
theorem aFx (x:QP) (Q:kp.Y->Prop):wpf te uQ av 1000 Tryz.f69 (kp.inp.inj x).tm (kp.inp.inj x).hp (fnK kp YL Q) (λ_ _=>False)=(Lo (x.1.1) (x.1.2.1)).wpR Q:=by kernel_rfl
theorem anf (pre:QP->Bool) (F:QP->OT kp.Y) (hF:∀ (x:QP) oy,pre x=true->(F x).run=some oy->(Lo (x.1.1) (x.1.2.1)).run=some oy):ac Tryz.prog 69 (kp.aI pre F):=
 aD ar uP VL (f:=69) (fn:=Tryz.f69) (c:=aj Tryz.f69) (by kernel_rfl) (by kernel_rfl) (by kernel_rfl) (S:=kp) (k:=0) (by kernel_rfl) (λR hR=>af) (n:=1000) (sel:=YL) (λv o h=>by cases h;rfl) (pre:=pre) (F:=F) (T:=λx=>Lo (x.1.1) (x.1.2.1)) (λx Q=>aFx x Q) hF
def HH (b:List UInt8):Bool:=(b.length:Int)==64
def ak3 (s:Int) (b:List UInt8):aa:=ayZ (HF (b.take 32)) (HF (b.drop 32)) (aY s.toNat).1
def YM (_:QP):Bool:=true
def at8 (x:QP):OT kp.Y:=.br (ap x.1.1) (.br (HH x.1.2.1) (.ok ⟨iW,((ak3 x.1.1 x.1.2.1,((0:Int),())),())⟩) (.ok ⟨iW,((⟨0,0,0,0⟩,((21:Int),())),())⟩)) (.ok ⟨iW,((⟨0,0,0,0⟩,((20:Int),())),())⟩)
theorem La {b:List UInt8}:HH b=true ↔ b.length=64:=by
 unfold HH
 rw [beq_iff_eq]
 omega
theorem ai0 {s:Int} (h:ap s=true):nk (aY s.toNat).1=false:=by
 rcases cv h with rfl|rfl|rfl|rfl<;>rfl
theorem ang {s:Int} {b:List UInt8} {W:aa} (hW:ayZ (HF (List.drop 0 (b.take 32))) (HF (b.drop 32)) (aY s.toNat).1=W):(Lo s b).run=(OT.br (ap s) (.br (HH b) (.ok ⟨iW,((W,((0:Int),())),())⟩) (.ok ⟨iW,((⟨0,0,0,0⟩,((21:Int),())),())⟩)) (.ok ⟨iW,((⟨0,0,0,0⟩,((20:Int),())),())⟩):OT kp.Y).run:=by
 unfold Lo
 simp only [hW]
 rcases (Bool.eq_false_or_eq_true (ap s)).symm with hs|hs
 ·exact (OT.aq hs).trans (OT.aq (b:=ap s) hs).symm
 ·refine (OT.ao hs).trans (Eq.trans ?_ (OT.ao (b:=ap s) hs).symm)
  rcases (Bool.eq_false_or_eq_true (HH b)).symm with hl|hl
  ·exact (OT.ao (b:= !HH b) (by rw [hl];rfl)).trans (OT.aq (b:=HH b) hl).symm
  ·have hb:b.length=64:=La.1 hl
   refine (OT.aq (b:= !HH b) (by rw [hl];rfl)).trans (Eq.trans ?_ (OT.ao (b:=HH b) hl).symm)
   refine (ah ?_).trans (OT.aq (ai0 hs))
   simp only [List.all_cons,List.all_nil,Bool.and_true,Bool.and_eq_true]
   exact ⟨fB (by omega),decide_eq_true (by show (List.drop 0 (b.take 32)).length=32;rw [List.drop_zero,List.length_take];omega),fB (by omega),decide_eq_true (by show (List.drop 32 b).length=32;rw [List.length_drop];omega)⟩
theorem aAd:ac Tryz.prog 69 (kp.aI YM at8):=anf _ _ λx oy hp ho=>by
 rw [<-ho]
 clear ho
 obtain ⟨⟨s,b,⟨⟩⟩,⟨⟩⟩:=x
 exact ang rfl
def EW:cn:=(kp.aI YM at8)
theorem ad1:ac Tryz.prog 69 EW:=aAd
theorem ad0:aG EW:=aA
def Nv:Env:=ay 69 EW uQ
theorem F0:aQ Tryz.prog Nv:=ag ad1 uP
theorem Hj:ax Nv:=ae ad0 xZ
theorem afE:aW Tryz.prog te Nv:=aJ follows ar F0 Hj
def fj:aw:=⟨[.val false .int,.val false (.list .u8)],[],true,0,false⟩
abbrev wy:Type:=((Int)×(List (UInt8))×Unit)×(Unit)
def dy:az:=⟨[.val true .elem,.val false .int],[],false⟩
def LX:SV->Option az:=λ_=>some dy
def tT (a0:Int) (a1:List (UInt8)):OT fj.Y:=
 let z0:aa:= {w0:=0,w1:=0,w2:=0,w3:=0}
 let z1:Bool:=jI ((a1,()),())
 let z2:aa:=HF a1
 (.br (ap a0)
 (.br (!(↑(List.length a1):Int)==(32:Int))
  (.ok ⟨dy,((z0,((21:Int),())),())⟩)
  (gd [z1] (.br (!Nat.blt (aa.nat z2) (aa.nat (aY (Int.toNat a0)).fst))
   (.ok ⟨dy,((z0,((21:Int),())),())⟩)
   (gd [z1] (.ok ⟨dy,((z2,((0:Int),())),())⟩)))))
 (.ok ⟨dy,((z0,((20:Int),())),())⟩))
theorem auJ (x:wy) (Q:fj.Y->Prop):wpf te Nv av 1000 Tryz.f61 (fj.inp.inj x).tm (fj.inp.inj x).hp (fnK fj LX Q) (λ_ _=>False)=(tT (x.1.1) (x.1.2.1)).wpR Q:=by kernel_rfl
theorem Zi (pre:wy->Bool) (F:wy->OT fj.Y) (hF:∀ (x:wy) oy,pre x=true->(F x).run=some oy->(tT (x.1.1) (x.1.2.1)).run=some oy):ac Tryz.prog 61 (fj.aI pre F):=
 aD ar F0 afE (f:=61) (fn:=Tryz.f61) (c:=aj Tryz.f61) (by kernel_rfl) (by kernel_rfl) (by kernel_rfl) (S:=fj) (k:=0) (by kernel_rfl) (λR hR=>af) (n:=1000) (sel:=LX) (λv o h=>by cases h;rfl) (pre:=pre) (F:=F) (T:=λx=>tT (x.1.1) (x.1.2.1)) (λx Q=>auJ x Q) hF
def fV (b:List UInt8):Bool:=(b.length:Int)==32
theorem o9 {b:List UInt8}:fV b=true ↔ b.length=32:=by
 unfold fV
 rw [beq_iff_eq]
 omega
def LY (_:wy):Bool:=true
def Zk (x:wy):OT fj.Y:=.br (ap x.1.1) (.br (fV x.1.2.1) (.br (Nat.blt (HF x.1.2.1).nat (pS x.1.1)) (.ok ⟨dy,((HF x.1.2.1,((0:Int),())),())⟩) (.ok ⟨dy,((⟨0,0,0,0⟩,((21:Int),())),())⟩))
 (.ok ⟨dy,((⟨0,0,0,0⟩,((21:Int),())),())⟩)) (.ok ⟨dy,((⟨0,0,0,0⟩,((20:Int),())),())⟩)
theorem Zj {s:Int} {b:List UInt8} {N:aa} (hN:HF b=N):(tT s b).run=(OT.br (ap s) (.br (fV b) (.br (Nat.blt N.nat (pS s)) (.ok ⟨dy,((N,((0:Int),())),())⟩) (.ok ⟨dy,((⟨0,0,0,0⟩,((21:Int),())),())⟩))
 (.ok ⟨dy,((⟨0,0,0,0⟩,((21:Int),())),())⟩)) (.ok ⟨dy,((⟨0,0,0,0⟩,((20:Int),())),())⟩):OT fj.Y).run:=by
 unfold tT
 simp only [hN]
 rcases (Bool.eq_false_or_eq_true (ap s)).symm with hs|hs
 ·exact (OT.aq hs).trans (OT.aq (b:=ap s) hs).symm
 ·refine (OT.ao hs).trans (Eq.trans ?_ (OT.ao (b:=ap s) hs).symm)
  rcases (Bool.eq_false_or_eq_true (fV b)).symm with hl|hl
  ·exact (OT.ao (b:= !fV b) (by rw [hl];rfl)).trans (OT.aq (b:=fV b) hl).symm
  ·have hp:jI ((b,()),())=true:=decide_eq_true (o9.1 hl)
   refine (OT.aq (b:= !fV b) (by rw [hl];rfl)).trans (Eq.trans ?_ (OT.ao (b:=fV b) hl).symm)
   rw [hp]
   refine (ah rfl).trans ?_
   rcases (Bool.eq_false_or_eq_true (Nat.blt N.nat (pS s))).symm with h|h
   ·exact (OT.ao (b:= !Nat.blt N.nat (pS s)) (by rw [h];rfl)).trans (OT.aq (b:=Nat.blt N.nat (pS s)) h).symm
   ·exact (OT.aq (b:= !Nat.blt N.nat (pS s)) (by rw [h];rfl)).trans ((ah rfl).trans (OT.ao (b:=Nat.blt N.nat (pS s)) h).symm)
theorem anX:ac Tryz.prog 61 (fj.aI LY Zk):=Zi _ _ λx oy hp ho=>by
 rw [<-ho]
 clear ho
 obtain ⟨⟨s,b,⟨⟩⟩,⟨⟩⟩:=x
 exact Zj rfl
def tS:cn:=(fj.aI LY Zk)
theorem UH:ac Tryz.prog 61 tS:=anX
theorem UG:aG tS:=aA
def NO:Env:=ay 61 tS Nv
theorem aaV:aQ Tryz.prog NO:=ag UH F0
theorem O4:ax NO:=ae UG Hj
abbrev auy:aw:=nx
def tQ (x:Zf):Bool:=ap x.1.1
def auz (x:Zf):OT nx.Y:=.ok ⟨E6,((gO (pS x.1.1) x.1.2.1 x.1.2.2.1,()),())⟩
theorem aAw:ac Tryz.prog 137 (auy.aI tQ auz):=jt (S:=nx) auB λx oy hp ho=>⟨rfl,(OT.ao (b:=ap x.1.1) hp).trans ho⟩
def E5:cn:=(auy.aI tQ auz)
theorem ael:ac Tryz.prog 137 E5:=aAw
theorem aek:aG E5:=aA
def uS:Env:=ay 137 E5 NO
theorem ld:aQ Tryz.prog uS:=ag ael aaV
theorem Hq:ax uS:=ae aek O4
theorem rK:aW Tryz.prog te uS:=aJ follows ar ld Hq
end Go.Proofs.YtohjofabochgfaaGreat
