/- A symbolic machine for Go code over plain data, and functions of the program as it shows them. No statement is proved in this file. -/
import Derived.KernelRfl
import Derived.Test.YtohjofabochgfaaGreatXc
set_option linter.unusedSimpArgs false
set_option linter.unusedVariables false
set_option linter.unusedSectionVars false

namespace Go.Proofs.YtohjofabochgfaaGreat
open Sx Go
set_option maxRecDepth 100000
def kq:aw:=⟨[.val true (.prod .elem (.prod .int (.prod .u64 (.prod .u64 .elem)))),.val true .elem,.val true .elem],[],true,0,false⟩
abbrev QK:Type:=(((aa×(Int×(UInt64×(UInt64×aa)))))×(aa)×(aa)×Unit)×(Unit)
def BD:Shape:=⟨61,[(3,.ptr 0 0 0),(4,.ptr 1 0 0),(6,.ptr 2 0 0),(7,.ptr 3 0 0),(13,.val true .elem),(14,.val false .int)],[(0,.cells [.val false .u64,.val false .u64,.val false .u64,.val false .u64,.val false .int,.val false .u64,.val false .u64,.val false .u64,.val false .u64,.val false .u64,.val false .u64]),(1,.row .u64),(2,.row .u64),(3,.row .u64)],0,true⟩
abbrev cI:Type:=((Unit)×(Unit)×(Unit)×(Unit)×(aa)×(Int)×Unit)×(((UInt64)×(UInt64)×(UInt64)×(UInt64)×(Int)×(UInt64)×(UInt64)×(UInt64)×(UInt64)×(UInt64)×(UInt64)×Unit)×(List (UInt64))×(List (UInt64))×(List (UInt64))×Unit)
def wa:Shape:=⟨61,[(3,.ptr 0 0 0),(6,.ptr 1 0 0),(7,.ptr 2 0 0)],[(0,.cells [.val false .u64,.val false .u64,.val false .u64,.val false .u64,.val false .int,.val false .u64,.val false .u64,.val false .u64,.val false .u64,.val false .u64,.val false .u64]),(1,.row .u64),(2,.row .u64)],0,true⟩
abbrev me:Type:=((Unit)×(Unit)×(Unit)×Unit)×(((UInt64)×(UInt64)×(UInt64)×(UInt64)×(Int)×(UInt64)×(UInt64)×(UInt64)×(UInt64)×(UInt64)×(UInt64)×Unit)×(List (UInt64))×(List (UInt64))×Unit)
def ajs:SE->Option Shape:=fw [(0,wa)] none
def Ug (a13:aa) (a14:Int) (c0_0:UInt64) (c0_1:UInt64) (c0_2:UInt64) (c0_3:UInt64) (c0_4:Int) (c0_5:UInt64) (c0_6:UInt64) (c0_7:UInt64) (c0_8:UInt64) (c0_9:UInt64) (c0_10:UInt64) (c1:List (UInt64)) (c2:List (UInt64)) (c3:List (UInt64)):OT (Sum cI aE):=
 let z0:Nat:=List.length c3
 let z1:List UInt64:=lay c3 (l6 (v6 (tab c3 6 (0:UInt64))+aa.nat {w0:=List.getD c1 0 0,w1:=List.getD c1 1 0,w2:=List.getD c1 2 0,w3:=List.getD c1 3 0}*UInt64.toNat (List.getD [a13.w0,a13.w1,a13.w2,a13.w3] (Int.toNat a14) (0:UInt64)))) 6 (0:UInt64)
 let z2:Nat:=List.length z1
 let z3:List UInt64:=lay z1 (l6 (v6 (tab z1 6 (0:UInt64))+aa.nat {w0:=c0_0,w1:=c0_1,w2:=c0_2,w3:=c0_3}*UInt64.toNat (List.getD z1 0 0*c0_6))) 6 (0:UInt64)
 let z4:Nat:=List.length z3
 (.br (decide (a14<(4:Int)))
 (gd [inB a14 4,decide (6<=z0),decide (4<=List.length c1),decide ((6/1:Nat)+0<=z0),decide (6<=z2),decide (0<z2),decide ((6/1:Nat)+0<=z2),decide (1<z4),decide (2<z4),decide (3<z4),decide (4<z4),decide (5<z4),decide ((6/1:Nat)+0<=z4),inR (a14+(1:Int))] (.ok (.inl (((),((),((),((),(a13,(a14+(1:Int),())))))),((c0_0,(c0_1,(c0_2,(c0_3,(c0_4,(c0_5,(c0_6,(c0_7,(c0_8,(c0_9,(c0_10,()))))))))))),(c1,(c2,(List.set (List.set (List.set (List.set (List.set (List.set z3 0 (List.getD z3 1 0)) 1 (List.getD z3 2 0)) 2 (List.getD z3 3 0)) 3 (List.getD z3 4 0)) 4 (List.getD z3 5 0)) 5 (0:UInt64),()))))))))
 (.ok (.inr ⟨(.exit 0,wa),(((),((),((),()))),((c0_0,(c0_1,(c0_2,(c0_3,(c0_4,(c0_5,(c0_6,(c0_7,(c0_8,(c0_9,(c0_10,()))))))))))),(c2,(c3,()))))⟩)))
def BE (s:cI):OT (Sum cI aE):=Ug (s.1.2.2.2.2.1) (s.1.2.2.2.2.2.1) (s.2.1.1) (s.2.1.2.1) (s.2.1.2.2.1) (s.2.1.2.2.2.1) (s.2.1.2.2.2.2.1) (s.2.1.2.2.2.2.2.1) (s.2.1.2.2.2.2.2.2.1) (s.2.1.2.2.2.2.2.2.2.1) (s.2.1.2.2.2.2.2.2.2.2.1) (s.2.1.2.2.2.2.2.2.2.2.2.1) (s.2.1.2.2.2.2.2.2.2.2.2.2.1) (s.2.2.1) (s.2.2.2.1) (s.2.2.2.2.1)
theorem aAh (s:cI) (Q:Sum cI aE->Prop):wps te RP av 1000 (aU (aj Tryz.f118) 0) (BD.inj s) (bX BD ajs (Q:Sum BD.T aE->Prop))=(BE s).wpR Q:=by kernel_rfl
def Ij (g0_0:cI->me) (s:cI):OT aE:=(.ok ⟨(.exit 0,wa),g0_0 s⟩)
def v9:az:=⟨[.val true .elem],[],false⟩
def YE:SV->Option az:=λ_=>some v9
def adX (ok0:cI->Bool) (g0_0:cI->me) (a0:(aa×(Int×(UInt64×(UInt64×aa))))) (a1:aa) (a2:aa):OT kq.Y:=
 let z0:(PUnit×PUnit×PUnit×PUnit×aa×Int×PUnit)×(UInt64×UInt64×UInt64×UInt64×Int×UInt64×UInt64×UInt64×UInt64×UInt64×UInt64×PUnit)×List UInt64×List UInt64×List UInt64×PUnit:=(((),(),(),(),a2,(0:Int),()),(a0.fst.w0,a0.fst.w1,a0.fst.w2,a0.fst.w3,a0.snd.fst,a0.snd.snd.fst,a0.snd.snd.snd.fst,a0.snd.snd.snd.snd.w0,a0.snd.snd.snd.snd.w1,a0.snd.snd.snd.snd.w2,a0.snd.snd.snd.snd.w3,()),[a1.w0,a1.w1,a1.w2,a1.w3],[(0:UInt64),(0:UInt64),(0:UInt64),(0:UInt64)],[(0:UInt64),(0:UInt64),(0:UInt64),(0:UInt64),(0:UInt64),(0:UInt64)],())
 let z1:=(g0_0 z0).snd
 let z2:=z1.snd
 let z3:=z2.snd.fst
 let z4:Nat:=List.length z3
 let z5:=z2.fst
 let z6:Nat:=List.length z5
 let z7:Bool:=decide ((4/1:Nat)+0<=z6)
 let z8:=z1.fst
 let z9:=z8.snd
 let z10:=z9.snd
 let z11:aa×Bool:=eg {w0:=List.getD z3 0 0,w1:=List.getD z3 1 0,w2:=List.getD z3 2 0,w3:=List.getD z3 3 0} {w0:=z8.fst,w1:=z9.fst,w2:=z10.fst,w3:=z10.snd.fst}
 let z12:=z11.fst
 let z13:List UInt64:=List.set (List.set (List.set (List.set z5 0 z12.w0) 1 z12.w1) 2 z12.w2) 3 z12.w3
 let z14:Bool:=decide (4<=List.length z13)
 let z15:aa:= {w0:=List.getD z13 0 0,w1:=List.getD z13 1 0,w2:=List.getD z13 2 0,w3:=List.getD z13 3 0}
 let z16:List UInt64:=lay z5 z3 4 (0:UInt64)
 (gd [ok0 z0,decide (6<=z4)&&true,decide (4<=z4),decide (4<z4)] (.br (!List.getD z3 4 0==(0:UInt64))
 (gd [z7,z14] (.ok ⟨v9,((z15,()),())⟩))
 (.br (!z11.snd)
  (gd [z7,z14] (.ok ⟨v9,((z15,()),())⟩))
  (gd [decide ((4/1:Nat)+0<=z6),decide (4<=List.length z16)] (.ok ⟨v9,(({w0:=List.getD z16 0 0,w1:=List.getD z16 1 0,w2:=List.getD z16 2 0,w3:=List.getD z16 3 0},()),())⟩)))))
theorem aFu (ok0:cI->Bool) (g0_0:cI->me) (x:QK) (Q:kq.Y->Prop):wpf te RP (aO 0 (cg BD 0 ok0 (Ij g0_0)) av) 1000 Tryz.f118 (kq.inp.inj x).tm (kq.inp.inj x).hp (fnK kq YE Q) (λ_ _=>False)=(adX ok0 g0_0 (x.1.1) (x.1.2.1) (x.1.2.2.1)).wpR Q:=by kernel_rfl
theorem am7 (ok0:cI->Bool) (g0_0:cI->me) (h0:∀ s:cI,ok0 s=true->∃ m e,ao (BE) m s=some e/\(Ij g0_0 s).run=some e) (pre:QK->Bool) (F:QK->OT kq.Y) (hF:∀ (x:QK) oy,pre x=true->(F x).run=some oy->(adX ok0 g0_0 (x.1.1) (x.1.2.1) (x.1.2.2.1)).run=some oy):ac Tryz.prog 118 (kq.aI pre F):=
 aD aq CZ RO (f:=118) (fn:=Tryz.f118) (c:=aj Tryz.f118) (by kernel_rfl) (by kernel_rfl) (by kernel_rfl) (S:=kq) (k:=0) (by kernel_rfl) (λR hR=>(aB (c:=(aj Tryz.f118)) (by kernel_rfl) (id:=0) (by kernel_rfl) (aQ aq CZ RO (sh:=BD) hR (xs:=ajs) (aC (by kernel_rfl) (by kernel_rfl) hR) aL af (n:=1000) (T:=BE) (λs Q=>aAh s Q) (ok:=ok0) (f:=Ij g0_0) h0) af)) (n:=1000) (sel:=YE) (λv o h=>by cases h;rfl) (pre:=pre) (F:=F) (T:=λx=>adX ok0 g0_0 (x.1.1) (x.1.2.1) (x.1.2.2.1)) (λx Q=>aFu ok0 g0_0 x Q) hF
def kn (n:OR):Bool:=decide (n=aX 2)||decide (n=aX 3)
theorem iW {n:OR} (h:kn n=true):n=aX 2\/n=aX 3:=by
 simpa [kn] using h
def ayY (n:OR):Nat:=if n.2.2.2.1==11037532056220336127 then 15353493766103302224812374511606760489073247795810767472367693728416386214313 else 14238205147845459960272226733876560297615832660064601289232577236146637664127
theorem atR {n:OR} (h:kn n=true):(n.1.nat*n.2.2.2.1.toNat+1)%18446744073709551616=0:=by
 rcases iW h with rfl|rfl<;>decide+kernel
theorem atS {n:OR} (h:kn n=true):115792089237316195423570985008687907853269984665640564039457584007913129639936*ayY n%n.1.nat=1%n.1.nat:=by
 rcases iW h with rfl|rfl<;>decide+kernel
theorem atP {n:OR} (h:kn n=true):2*n.1.nat<=115792089237316195423570985008687907853269984665640564039457584007913129639936:=by
 rcases iW h with rfl|rfl<;>decide+kernel
theorem aJy (n:Nat):tab (l6 n) 6 0=l6 n:=rfl
theorem az1 {n:Nat} (h:n/18446744073709551616/18446744073709551616/18446744073709551616/18446744073709551616/18446744073709551616/18446744073709551616=0):
 [UInt64.ofNat (n/18446744073709551616),UInt64.ofNat (n/18446744073709551616/18446744073709551616),UInt64.ofNat (n/18446744073709551616/18446744073709551616/18446744073709551616),
  UInt64.ofNat (n/18446744073709551616/18446744073709551616/18446744073709551616/18446744073709551616),UInt64.ofNat (n/18446744073709551616/18446744073709551616/18446744073709551616/18446744073709551616/18446744073709551616),0]=l6 (n/18446744073709551616):=by
 unfold l6
 rw [h]
 rfl
theorem aJD (a b:Nat):lay (l6 a) (l6 b) 6 0=l6 b:=xv rfl rfl
theorem awz (U:Nat) (neg:UInt64):(List.getD (l6 U) 0 0*neg).toNat=U*neg.toNat%18446744073709551616:=by
 show (UInt64.ofNat U*neg).toNat=_
 rw [UInt64.toNat_mul,UInt64.toNat_ofNat',Nat.mul_mod,Nat.mod_mod,<-Nat.mul_mod]
theorem am6 (b:aa) (k:Nat) (hk:k<4) (x0 x1 x2 x3 x5 x6 x7 x8 x9 x10:UInt64) (x4:Int) (c1 c2:List UInt64) (T:Nat) (h1:c1.length=4) (hT:T<2*(aa.mk x0 x1 x2 x3).nat)
 (hn:((aa.mk x0 x1 x2 x3).nat*x6.toNat+1)%18446744073709551616=0) (hp:2*(aa.mk x0 x1 x2 x3).nat<=115792089237316195423570985008687907853269984665640564039457584007913129639936) (ha:(elemOf c1).nat<(aa.mk x0 x1 x2 x3).nat):
 (Ug b (k:Int) x0 x1 x2 x3 x4 x5 x6 x7 x8 x9 x10 c1 c2 (l6 T)).run=some (.inl (((),(),(),(),b,((k+1:Nat):Int),()),((x0,x1,x2,x3,x4,x5,x6,x7,x8,x9,x10,()),c1,c2,l6 (I9 (aa.mk x0 x1 x2 x3).nat x6.toNat (elemOf c1).nat ((lst b).getD k 0).toNat T),()))):=by
 have hlt:=u9 (b:=((lst b).getD k 0).toNat) hn hT ha (UInt64.toNat_lt _)
 have heq:=va (a:=(elemOf c1).nat) (b:=((lst b).getD k 0).toNat) (t:=T) hn
 have hrd:I9 (aa.mk x0 x1 x2 x3).nat x6.toNat (elemOf c1).nat ((lst b).getD k 0).toNat T=(T+(elemOf c1).nat*((lst b).getD k 0).toNat+(aa.mk x0 x1 x2 x3).nat*((T+(elemOf c1).nat*((lst b).getD k 0).toNat)*x6.toNat%18446744073709551616))/18446744073709551616:=rfl
 generalize hU:T+(elemOf c1).nat*((lst b).getD k 0).toNat=U at heq hrd
 generalize hV:U+(aa.mk x0 x1 x2 x3).nat*(U*x6.toNat%18446744073709551616)=V at heq hrd
 generalize I9 (aa.mk x0 x1 x2 x3).nat x6.toNat (elemOf c1).nat ((lst b).getD k 0).toNat T=S at*
 have hVU:U<=V:=by rw [<-hV];exact Nat.le_add_right _ _
 have hz1:lay (l6 T) (l6 (v6 (tab (l6 T) 6 0)+aa.nat {w0:=List.getD c1 0 0,w1:=List.getD c1 1 0,w2:=List.getD c1 2 0,w3:=List.getD c1 3 0}*UInt64.toNat (List.getD [b.w0,b.w1,b.w2,b.w3] (Int.toNat (k:Int)) 0))) 6 0=l6 U:=by
  rw [aJy,aG3 (by omega),aJD,Int.toNat_natCast]
  exact congrArg l6 hU
 have hz3:lay (l6 U) (l6 (v6 (tab (l6 U) 6 0)+aa.nat {w0:=x0,w1:=x1,w2:=x2,w3:=x3}*UInt64.toNat (List.getD (l6 U) 0 0*x6))) 6 0=l6 V:=by
  rw [aJy,aG3 (by omega),aJD,awz,hV]
 have hsh:_=l6 (V/18446744073709551616):=az1 (n:=V) (by omega)
 unfold Ug
 simp only [hz1,hz3]
 refine (OT.ap (decide_eq_true (by omega))).trans ((ah ?_).trans ?_)
 ·simp only [atB,h1,List.all_cons,List.all_nil,Bool.and_true,Bool.and_eq_true]
  exact ⟨aN (by omega),rfl,rfl,rfl,rfl,rfl,rfl,rfl,rfl,rfl,rfl,rfl,rfl,aH (by omega)⟩
 ·rw [hrd]
  exact congrArg (λl=>some (Sum.inl (((),(),(),(),b,((k+1:Nat):Int),()),((x0,x1,x2,x3,x4,x5,x6,x7,x8,x9,x10,()),c1,c2,l,())))) hsh
def avr (s:cI):aa:=⟨s.2.1.1,s.2.1.2.1,s.2.1.2.2.1,s.2.1.2.2.2.1⟩
def aGm (s:cI):UInt64:=s.2.1.2.2.2.2.2.2.1
def YF (s:cI):Bool:=decide (s.1.2.2.2.2.2.1=0/\s.2.2.1.length=4/\s.2.2.2.2.1=l6 0/\((avr s).nat*(aGm s).toNat+1)%18446744073709551616=0/\2*(avr s).nat<=115792089237316195423570985008687907853269984665640564039457584007913129639936/\(elemOf s.2.2.1).nat<(avr s).nat)
def Uf (s:cI):me:=(((),(),(),()),(s.2.1,s.2.2.2.1,l6 (aHV (avr s).nat (aGm s).toNat (elemOf s.2.2.1).nat s.1.2.2.2.2.1),()))
theorem aAj:∀ s:cI,YF s=true->∃ m e,ao BE m s=some e/\(Ij Uf s).run=some e:=by
 rintro ⟨⟨⟨⟩,⟨⟩,⟨⟩,⟨⟩,b,i,⟨⟩⟩,⟨⟨x0,x1,x2,x3,x4,x5,x6,x7,x8,x9,x10,⟨⟩⟩,c1,c2,c3,⟨⟩⟩⟩ h
 have h':=of_decide_eq_true h
 dsimp only [avr,aGm] at h'
 obtain ⟨rfl,h1,rfl,hn,hp,ha⟩:=h'
 have:=(aP (T:=BE) (λk T=>((((),(),(),(),b,(k:Int),()),((x0,x1,x2,x3,x4,x5,x6,x7,x8,x9,x10,()),c1,c2,l6 T,())):cI)) (λk T=>I9 (aa.mk x0 x1 x2 x3).nat x6.toNat (elemOf c1).nat ((lst b).getD k 0).toNat T)
  (λT=>(⟨(.exit 0,wa),(((),(),(),()),((x0,x1,x2,x3,x4,x5,x6,x7,x8,x9,x10,()),c2,l6 T,()))⟩:aE)) 4 0 (λ_ T=>T<2*(aa.mk x0 x1 x2 x3).nat) (by omega) (λk T hk hT=>⟨?_,?_⟩) (λT hT=> ?_)).1
 ·obtain ⟨m,hm⟩:=this
  exact ⟨m,_,hm,rfl⟩
 ·exact am6 b k hk x0 x1 x2 x3 x5 x6 x7 x8 x9 x10 x4 c1 c2 T h1 hT hn hp ha
 ·exact u9 hn hT ha (UInt64.toNat_lt _)
 ·exact OT.ar (decide_eq_false (by dsimp only;omega))
def tE (x:QK):Bool:=kn x.1.1&&Nat.blt x.1.2.1.nat x.1.1.1.nat
def at1 (x:QK):OT kq.Y:=.ok ⟨v9,((ofN (x.1.2.1.nat*x.1.2.2.1.nat*ayY x.1.1%x.1.1.1.nat),()),())⟩
theorem aAi:ac Tryz.prog 118 (kq.aI tE at1):=am7 YF Uf aAj _ _ λx oy hp ho=>by
 rw [<-ho]
 clear ho
 obtain ⟨⟨⟨⟨m0,m1,m2,m3⟩,ad,sm,neg,sq⟩,a,b,⟨⟩⟩,⟨⟩⟩:=x
 have hp':(kn (⟨m0,m1,m2,m3⟩,ad,sm,neg,sq)&&Nat.blt a.nat (aa.mk m0 m1 m2 m3).nat)=true:=hp
 rw [Bool.and_eq_true] at hp'
 obtain ⟨hg,ha⟩:=hp'
 have ha:=dy ha
 have hn:((aa.mk m0 m1 m2 m3).nat*neg.toNat+1)%18446744073709551616=0:=atR hg
 have h2:2*(aa.mk m0 m1 m2 m3).nat<=115792089237316195423570985008687907853269984665640564039457584007913129639936:=atP hg
 have hr:115792089237316195423570985008687907853269984665640564039457584007913129639936*ayY (⟨m0,m1,m2,m3⟩,ad,sm,neg,sq)%(aa.mk m0 m1 m2 m3).nat=1%(aa.mk m0 m1 m2 m3).nat:=atS hg
 have hM:=azV (a:=a.nat) (b:=b) hn hr
 have hL:=aFi (b:=b) hn ha
 refine (ah ?_).trans ?_
 ·simp only [List.all_cons,List.all_nil,Bool.and_true,Bool.and_eq_true]
  exact ⟨decide_eq_true ⟨rfl,rfl,rfl,hn,h2,ha⟩,rfl,rfl,rfl⟩
 ·show _=(OT.ok ⟨v9,((ofN (a.nat*b.nat*ayY (⟨m0,m1,m2,m3⟩,ad,sm,neg,sq)%(aa.mk m0 m1 m2 m3).nat),()),())⟩:OT kq.Y).run
  rw [<-hM,aFj hL]
  have e0:Uf (((),(),(),(),b,0,()),((m0,m1,m2,m3,ad,sm,neg,sq.w0,sq.w1,sq.w2,sq.w3,()),[a.w0,a.w1,a.w2,a.w3],[0,0,0,0],[0,0,0,0,0,0],()))=(((),(),(),()),((m0,m1,m2,m3,ad,sm,neg,sq.w0,sq.w1,sq.w2,sq.w3,()),[0,0,0,0],l6 (aHV (aa.mk m0 m1 m2 m3).nat neg.toNat a.nat b),())):=rfl
  dsimp only
  rw [e0]
  clear e0 hM
  generalize aHV (aa.mk m0 m1 m2 m3).nat neg.toNat a.nat b=M at*
  have e4:List.getD (l6 M) 4 0=0:=by
   show UInt64.ofNat (M/18446744073709551616/18446744073709551616/18446744073709551616/18446744073709551616)=0
   rw [show M/18446744073709551616/18446744073709551616/18446744073709551616/18446744073709551616=0 by omega]
   rfl
  refine (OT.ar (by rw [e4];rfl)).trans ?_
  have eN:(ofN M).nat=M:=kl (by omega)
  by_cases hlt:M<(aa.mk m0 m1 m2 m3).nat
  ·rw [if_pos hlt]
   refine (OT.ar ?_).trans ((ah rfl).trans rfl)
   show (!Nat.blt (ofN M).nat (aa.mk m0 m1 m2 m3).nat)=false
   rw [eN,show Nat.blt M (aa.mk m0 m1 m2 m3).nat=true from Nat.ble_eq_true_of_le hlt]
   rfl
  ·rw [if_neg hlt]
   refine (OT.ap ?_).trans ((ah rfl).trans ?_)
   ·show (!Nat.blt (ofN M).nat (aa.mk m0 m1 m2 m3).nat)=true
    rw [eN]
    cases hb:Nat.blt M (aa.mk m0 m1 m2 m3).nat
    ·rfl
    ·exact absurd (dy hb) hlt
   ·have ew:(eg (ofN M) (aa.mk m0 m1 m2 m3)).1=ofN (M-(aa.mk m0 m1 m2 m3).nat):=by
     apply qL
     rw [mN (by omega),eN,kl (by omega)]
    rw [<-ew]
    rfl
def EW:cj:=(kq.aI tE at1)
theorem adW:ac Tryz.prog 118 EW:=aAi
theorem adV:aG EW:=aA
def Nq:Env:=ay 118 EW RP
theorem FY:aR Tryz.prog Nq:=ag adW CZ
theorem Hh:ax Nq:=ae adV NK
theorem aft:aW Tryz.prog te Nq:=aK follows aq FY Hh
def kr:aw:=⟨[.val true (.prod .elem (.prod .int (.prod .u64 (.prod .u64 .elem)))),.val true .elem,.val true .elem],[],true,0,false⟩
abbrev QP:Type:=(((aa×(Int×(UInt64×(UInt64×aa)))))×(aa)×(aa)×Unit)×(Unit)
def ra:az:=⟨[.val true .elem],[],false⟩
def YT:SV->Option az:=λ_=>some ra
def y5 (a0:(aa×(Int×(UInt64×(UInt64×aa))))) (a1:aa) (a2:aa):OT kr.Y:=
 let z0:Bool:= !a0.snd.snd.fst==(0:UInt64)
 let z1:Nat:=aa.nat a0.fst
 let z2:aa:=ofN (aa.nat a1%z1)
 let z3:aa:=ofN (aa.nat a2%z1)
 let z4:Nat:=ayY a0
 let z5:aa:=ofN (aa.nat z2*aa.nat z3*z4%z1)
 (gd [gv ((a0,a1,()),()),gv ((a0,a2,()),())] (.br (z0)
 (gd [z0] (.ok ⟨ra,(({w0:=z2.w0*z3.w0%a0.snd.snd.fst,w1:=0,w2:=0,w3:=0},()),())⟩))
 (gd [tE ((a0,z2,z3,()),()),tE ((a0,z5,a0.snd.snd.snd.snd,()),())] (.ok ⟨ra,((ofN (aa.nat z5*aa.nat a0.snd.snd.snd.snd*z4%z1),()),())⟩))))
theorem aFK (x:QP) (Q:kr.Y->Prop):wpf te Nq av 1000 Tryz.f77 (kr.inp.inj x).tm (kr.inp.inj x).hp (fnK kr YT Q) (λ_ _=>False)=(y5 (x.1.1) (x.1.2.1) (x.1.2.2.1)).wpR Q:=by kernel_rfl
theorem ano (pre:QP->Bool) (F:QP->OT kr.Y) (hF:∀ (x:QP) oy,pre x=true->(F x).run=some oy->(y5 (x.1.1) (x.1.2.1) (x.1.2.2.1)).run=some oy):ac Tryz.prog 77 (kr.aI pre F):=
 aD aq FY aft (f:=77) (fn:=Tryz.f77) (c:=aj Tryz.f77) (by kernel_rfl) (by kernel_rfl) (by kernel_rfl) (S:=kr) (k:=0) (by kernel_rfl) (λR hR=>af) (n:=1000) (sel:=YT) (λv o h=>by cases h;rfl) (pre:=pre) (F:=F) (T:=λx=>y5 (x.1.1) (x.1.2.1) (x.1.2.2.1)) (λx Q=>aFK x Q) hF
theorem atk {p A B r s:Nat} (h:r*s*r%p=1%p):A*B*r%p*s*r%p=A*B%p:=by
 have e:A*B*r*(s*r)=A*B*(r*s*r):=by
  rw [Nat.mul_assoc (A*B) r (s*r),Nat.mul_assoc r s r]
 rw [Nat.mul_assoc,Nat.mul_mod,Nat.mod_mod,<-Nat.mul_mod,e,Nat.mul_mod,h,<-Nat.mul_mod,Nat.mul_one]
theorem az5 {n:OR} (h:kn n=true):ayY n*n.2.2.2.2.nat*ayY n%n.1.nat=1%n.1.nat:=by
 rcases iW h with rfl|rfl<;>decide+kernel
theorem aH8:kn (aX 2)=true:=by decide+kernel
theorem aH7:kn (aX 3)=true:=by decide+kernel
theorem atQ {n:OR} (h:kn n=true):kk n=true:=by
 rcases iW h with rfl|rfl<;>decide+kernel
theorem GF {n:OR} {a b:aa} {m:UInt64} (hn0:kk n=true) (h1:n.1=⟨m,0,0,0⟩) (h2:n.2.2.1=m) (hs:fT m=true):(y5 n a b).run=some ⟨ra,((bO n.1.nat a b,()),())⟩:=by
 have hm:=lp hs
 have hb':m.toNat<=16521217:=by rcases dV hs with rfl|rfl<;>decide
 have hn:n.1.nat=m.toNat:=by rw [h1];show m.toNat+_*(0+_*(0+_*0))=_;omega
 have hz:(!(n.2.2.1==0))=true:=by
  rw [h2]
  rcases dV hs with rfl|rfl<;>rfl
 have ha:=Nat.mod_lt a.nat hm
 have hb:=Nat.mod_lt b.nat hm
 have hab:a.nat%m.toNat*(b.nat%m.toNat)<18446744073709551616:=by
  have:a.nat%m.toNat*(b.nat%m.toNat)<=16521217*16521217:=Nat.mul_le_mul (by omega) (by omega)
  omega
 have e:UInt64.ofNat (a.nat%m.toNat)*UInt64.ofNat (b.nat%m.toNat)%m=UInt64.ofNat (a.nat*b.nat%m.toNat):=by
  have hlt:=Nat.mod_lt (a.nat*b.nat) hm
  rw [<-UInt64.toNat_inj,UInt64.toNat_mod,UInt64.toNat_mul,UInt64.toNat_ofNat',UInt64.toNat_ofNat',UInt64.toNat_ofNat',Nat.mod_eq_of_lt (a:=a.nat%m.toNat) (by omega),Nat.mod_eq_of_lt (a:=b.nat%m.toNat) (by omega),
   Nat.mod_eq_of_lt (a:=a.nat%m.toNat*(b.nat%m.toNat)) (by omega),Nat.mod_eq_of_lt (a:=a.nat*b.nat%m.toNat) (by omega),<-Nat.mul_mod]
 have hlt:=Nat.mod_lt (a.nat*b.nat) hm
 unfold y5
 refine (ah ?_).trans ((OT.ap hz).trans ((ah ?_).trans ?_))
 ·simp only [List.all_cons,List.all_nil,Bool.and_true,Bool.and_eq_true]
  exact ⟨hn0,hn0⟩
 ·simp only [hz,List.all_cons,List.all_nil,Bool.and_true]
 ·unfold bO
  rw [hn,tc (n:=a.nat*b.nat%m.toNat) (by omega),<-e]
  show some (⟨ra,((⟨UInt64.ofNat (a.nat%m.toNat)*UInt64.ofNat (b.nat%m.toNat)%n.2.2.1,0,0,0⟩,()),())⟩:kr.Y)=_
  rw [h2]
theorem Lz {n:OR} {a b:aa} (h:kn n=true) (h2:n.2.2.1=0):(y5 n a b).run=some ⟨ra,((bO n.1.nat a b,()),())⟩:=by
 have hn0:=atQ h
 have hp:=Be hn0
 have hz:(!(n.2.2.1==0))=false:=by rw [h2];rfl
 have e1:(ofN (a.nat%n.1.nat)).nat=a.nat%n.1.nat:=cZ hp
 have e2:(ofN (b.nat%n.1.nat)).nat=b.nat%n.1.nat:=cZ hp
 have e3:(ofN (a.nat%n.1.nat*(b.nat%n.1.nat)*ayY n%n.1.nat)).nat=a.nat%n.1.nat*(b.nat%n.1.nat)*ayY n%n.1.nat:=cZ hp
 unfold y5
 refine (ah ?_).trans ((OT.ar hz).trans ((ah ?_).trans ?_))
 ·simp only [List.all_cons,List.all_nil,Bool.and_true,Bool.and_eq_true]
  exact ⟨hn0,hn0⟩
 ·simp only [List.all_cons,List.all_nil,Bool.and_true,Bool.and_eq_true,tE,h,true_and,e1,e2,e3]
  exact ⟨Nat.ble_eq_true_of_le (Nat.mod_lt _ hp.1),Nat.ble_eq_true_of_le (Nat.mod_lt _ hp.1)⟩
 ·simp only [e1,e2,e3,atk (az5 h),bO,<-Nat.mul_mod]
  rfl
def fW (x:QP):Bool:=kk x.1.1
def aue (x:QP):OT kr.Y:=.ok ⟨ra,((bO x.1.1.1.nat x.1.2.1 x.1.2.2.1,()),())⟩
theorem aAn:ac Tryz.prog 77 (kr.aI fW aue):=ano _ _ λx oy hp ho=>by
 rw [<-ho]
 clear ho
 obtain ⟨⟨n,a,b,⟨⟩⟩,⟨⟩⟩:=x
 have hp':kk n=true:=hp
 rcases yM hp' with rfl|rfl|rfl|rfl
 ·exact GF hp' (m:=16513537) rfl rfl rfl
 ·exact GF hp' (m:=16521217) rfl rfl rfl
 ·exact Lz aH8 rfl
 ·exact Lz aH7 rfl
def EY:cj:=(kr.aI fW aue)
theorem ad3:ac Tryz.prog 77 EY:=aAn
theorem ad2:aG EY:=aA
def Ny:Env:=ay 77 EY Nq
theorem F0:aR Tryz.prog Ny:=ag ad3 FY
theorem Hj:ax Ny:=ae ad2 Hh
theorem afv:aW Tryz.prog te Ny:=aK follows aq F0 Hj
def tJ:aw:=⟨[.val false .int,.val true .elem,.val true .elem],[],true,0,false⟩
abbrev ann:Type:=((Int)×(aa)×(aa)×Unit)×(Unit)
def Ly:az:=⟨[.val true .elem],[],false⟩
def ajB:SV->Option az:=λ_=>some Ly
def aud (a0:Int) (a1:aa) (a2:aa):OT tJ.Y:=
 let z0:aa×Int×UInt64×UInt64×aa:=aX (Int.toNat a0)
 (.br (al a0)
 (gd [fW ((z0,a1,a2,()),())] (.ok ⟨Ly,((bO (aa.nat z0.fst) a1 a2,()),())⟩))
 (.ok ⟨Ly,(({w0:=0,w1:=0,w2:=0,w3:=0},()),())⟩))
theorem aIi (x:ann) (Q:tJ.Y->Prop):wpf te Ny av 1000 Tryz.f42 (tJ.inp.inj x).tm (tJ.inp.inj x).hp (fnK tJ ajB Q) (λ_ _=>False)=(aud (x.1.1) (x.1.2.1) (x.1.2.2.1)).wpR Q:=by kernel_rfl
theorem auc (pre:ann->Bool) (F:ann->OT tJ.Y) (hF:∀ (x:ann) oy,pre x=true->(F x).run=some oy->(aud (x.1.1) (x.1.2.1) (x.1.2.2.1)).run=some oy):ac Tryz.prog 42 (tJ.aI pre F):=
 aD aq F0 afv (f:=42) (fn:=Tryz.f42) (c:=aj Tryz.f42) (by kernel_rfl) (by kernel_rfl) (by kernel_rfl) (S:=tJ) (k:=0) (by kernel_rfl) (λR hR=>af) (n:=1000) (sel:=ajB) (λv o h=>by cases h;rfl) (pre:=pre) (F:=F) (T:=λx=>aud (x.1.1) (x.1.2.1) (x.1.2.2.1)) (λx Q=>aIi x Q) hF
def ajC (_:ann):Bool:=true
def aB1 (x:ann):OT tJ.Y:=.br (al x.1.1) (.ok ⟨Ly,((bO (pS x.1.1) x.1.2.1 x.1.2.2.1,()),())⟩) (.ok ⟨Ly,((⟨0,0,0,0⟩,()),())⟩)
theorem aFJ:ac Tryz.prog 42 (tJ.aI ajC aB1):=auc _ _ λx oy hp ho=>by
 rw [<-ho]
 clear ho
 obtain ⟨⟨s,a,b,⟨⟩⟩,⟨⟩⟩:=x
 cases hs:al s
 ·exact (OT.ar hs).trans (OT.ar (b:=al s) hs).symm
 ·refine (OT.ap hs).trans ((ah ?_).trans (OT.ap (b:=al s) hs).symm)
  simp only [List.all_cons,List.all_nil,Bool.and_true]
  exact iQ hs
def Lx:cj:=(tJ.aI ajC aB1)
theorem anm:ac Tryz.prog 42 Lx:=aFJ
theorem anl:aG Lx:=aA
def aaE:Env:=ay 42 Lx Ny
theorem Nw:aR Tryz.prog aaE:=ag anm F0
theorem Nx:ax aaE:=ae anl Hj
theorem aoN:aW Tryz.prog te aaE:=aK follows aq Nw Nx
def mh:aw:=⟨[.val true .elem],[],true,0,false⟩
abbrev QU:Type:=((aa)×Unit)×(Unit)
def Us:az:=⟨[.val true .elem],[],false⟩
def YZ:SV->Option az:=λ_=>some Us
def ad7 (a0:aa):OT mh.Y:=
 (.ok ⟨Us,(({w0:=bf a0.w0 (1:Int)|||bR a0.w1 (63:Int),w1:=bf a0.w1 (1:Int)|||bR a0.w2 (63:Int),w2:=bf a0.w2 (1:Int)|||bR a0.w3 (63:Int),w3:=bf a0.w3 (1:Int)},()),())⟩)
theorem aFO (x:QU) (Q:mh.Y->Prop):wpf te aaE av 1000 Tryz.f138 (mh.inp.inj x).tm (mh.inp.inj x).hp (fnK mh YZ Q) (λ_ _=>False)=(ad7 (x.1.1)).wpR Q:=by kernel_rfl
theorem anA (pre:QU->Bool) (F:QU->OT mh.Y) (hF:∀ (x:QU) oy,pre x=true->(F x).run=some oy->(ad7 (x.1.1)).run=some oy):ac Tryz.prog 138 (mh.aI pre F):=
 aD aq Nw aoN (f:=138) (fn:=Tryz.f138) (c:=aj Tryz.f138) (by kernel_rfl) (by kernel_rfl) (by kernel_rfl) (S:=mh) (k:=0) (by kernel_rfl) (λR hR=>af) (n:=1000) (sel:=YZ) (λv o h=>by cases h;rfl) (pre:=pre) (F:=F) (T:=λx=>ad7 (x.1.1)) (λx Q=>aFO x Q) hF
theorem Ld (x y:UInt64):(bf x 1|||bR y 63).toNat=x.toNat/2+9223372036854775808*(y.toNat%2):=by
 have hx:=x.toNat_lt
 have e1:(bf x 1).toNat=x.toNat/2:=eU x 1 (by omega)
 have e2:(bR y 63).toNat=9223372036854775808*(y.toNat%2):=by
  have:=lq y 63 (by omega)
  have e:(bR y 63).toNat=y.toNat*2^63%2^64:=this
  rw [e]
  omega
 rw [UInt64.toNat_or,e1,e2,Nat.or_comm]
 have:=Nat.two_pow_add_eq_or_of_lt (i:=63) (b:=x.toNat/2) (by omega) (y.toNat%2)
 rw [Nat.add_comm]
 exact this.symm
theorem Le (x N:Nat):(x+18446744073709551616*N)/2=(x/2+9223372036854775808*(N%2))+18446744073709551616*(N/2):=by
 omega
theorem ady (y N:Nat):(y+18446744073709551616*N)%2=y%2:=by
 omega
def dj (a:aa):aa:=ofN (a.nat/2)
theorem ajh (a:aa):dj a=⟨bf a.w0 1|||bR a.w1 63,bf a.w1 1|||bR a.w2 63,bf a.w2 1|||bR a.w3 63,bf a.w3 1⟩:=by
 refine as4 (k:=0) ?_
 rw [Ld,Ld,Ld,Nat.mul_zero,Nat.add_zero]
 unfold Sx.aa.nat
 have e3:(bf a.w3 1).toNat=a.w3.toNat/2:=eU a.w3 1 (by omega)
 rw [Le,ady,Le,ady,Le,e3]
def Y0 (_:QU):Bool:=true
def ad8 (x:QU):OT mh.Y:=.ok ⟨Us,((dj x.1.1,()),())⟩
theorem aAo:ac Tryz.prog 138 (mh.aI Y0 ad8):=anA _ _ λx oy hp ho=>by
 rw [<-ho]
 clear ho
 obtain ⟨⟨a,⟨⟩⟩,⟨⟩⟩:=x
 simp only [ad8,ajh]
 rfl
def EZ:cj:=(mh.aI Y0 ad8)
theorem ad6:ac Tryz.prog 138 EZ:=aAo
theorem ad5:aG EZ:=aA
def F2:Env:=ay 138 EZ aaE
theorem xg:aR Tryz.prog F2:=ag ad6 Nw
theorem Hk:ax F2:=ae ad5 Nx
theorem ND:aW Tryz.prog te F2:=aK follows aq xg Hk
def fa:aw:=⟨[.val true .elem,.val false .int],[],true,0,false⟩
abbrev wj:Type:=((aa)×(Int)×Unit)×(Unit)
def pi:Shape:=⟨12,[(2,.ptr 0 0 0),(4,.ptr 1 0 0),(5,.val false .int),(6,.val false .int)],[(0,.row .u64),(1,.row .u64)],0,true⟩
abbrev b9:Type:=((Unit)×(Unit)×(Int)×(Int)×Unit)×((List (UInt64))×(List (UInt64))×Unit)
def nv:Shape:=⟨12,[(2,.ptr 0 0 0),(4,.ptr 1 0 0)],[(0,.row .u64),(1,.row .u64)],0,true⟩
abbrev iY:Type:=((Unit)×(Unit)×Unit)×((List (UInt64))×(List (UInt64))×Unit)
def QS:SE->Option Shape:=fw [(0,nv)] none
def anz (a5:Int) (a6:Int) (c0:List (UInt64)) (c1:List (UInt64)):OT (Sum b9 aE):=
 let z0:Nat:=List.length c0
 let z1:aa:=dj {w0:=List.getD c0 0 0,w1:=List.getD c0 1 0,w2:=List.getD c0 2 0,w3:=List.getD c0 3 0}
 (.br (decide (a6<a5))
 (gd [decide (4<=z0),decide ((4/1:Nat)+0<=z0),inR (a6+(1:Int))] (.ok (.inl (((),((),(a5,(a6+(1:Int),())))),(List.set (List.set (List.set (List.set c0 0 z1.w0) 1 z1.w1) 2 z1.w2) 3 z1.w3,(c1,()))))))
 (.ok (.inr ⟨(.exit 0,nv),(((),((),())),(c0,(c1,())))⟩)))
def pk (s:b9):OT (Sum b9 aE):=anz (s.1.2.2.1) (s.1.2.2.2.1) (s.2.1) (s.2.2.1)
theorem anv (s:b9) (Q:Sum b9 aE->Prop):wps te F2 av 1000 (aU (aj Tryz.f136) 0) (pi.inj s) (bX pi QS (Q:Sum pi.T aE->Prop))=(pk s).wpR Q:=by kernel_rfl
def wi (g0_0:b9->iY) (s:b9):OT aE:=(.ok ⟨(.exit 0,nv),g0_0 s⟩)
def pj:az:=⟨[.val true .elem],[],false⟩
def LG:SV->Option az:=λ_=>some pj
def LI (ok0:b9->Bool) (g0_0:b9->iY) (a0:aa) (a1:Int):OT fa.Y:=
 let z0:(PUnit×PUnit×Int×Int×PUnit)×List UInt64×List UInt64×PUnit:=(((),(),a1,(0:Int),()),[a0.w0,a0.w1,a0.w2,a0.w3],[(0:UInt64),(0:UInt64),(0:UInt64),(0:UInt64)],())
 let z1:=(g0_0 z0).snd
 let z2:=z1.fst
 let z3:=z1.snd.fst
 let z4:List UInt64:=lay z3 z2 4 (0:UInt64)
 (gd [ok0 z0,decide (4<=List.length z2),decide ((4/1:Nat)+0<=List.length z3),decide (4<=List.length z4)] (.ok ⟨pj,(({w0:=List.getD z4 0 0,w1:=List.getD z4 1 0,w2:=List.getD z4 2 0,w3:=List.getD z4 3 0},()),())⟩))
theorem auj (ok0:b9->Bool) (g0_0:b9->iY) (x:wj) (Q:fa.Y->Prop):wpf te F2 (aO 0 (cg pi 0 ok0 (wi g0_0)) av) 1000 Tryz.f136 (fa.inp.inj x).tm (fa.inp.inj x).hp (fnK fa LG Q) (λ_ _=>False)=(LI ok0 g0_0 (x.1.1) (x.1.2.1)).wpR Q:=by kernel_rfl
theorem YX (ok0:b9->Bool) (g0_0:b9->iY) (h0:∀ s:b9,ok0 s=true->∃ m e,ao (pk) m s=some e/\(wi g0_0 s).run=some e) (pre:wj->Bool) (F:wj->OT fa.Y) (hF:∀ (x:wj) oy,pre x=true->(F x).run=some oy->(LI ok0 g0_0 (x.1.1) (x.1.2.1)).run=some oy):ac Tryz.prog 136 (fa.aI pre F):=
 aD aq xg ND (f:=136) (fn:=Tryz.f136) (c:=aj Tryz.f136) (by kernel_rfl) (by kernel_rfl) (by kernel_rfl) (S:=fa) (k:=0) (by kernel_rfl) (λR hR=>(aB (c:=(aj Tryz.f136)) (by kernel_rfl) (id:=0) (by kernel_rfl) (aQ aq xg ND (sh:=pi) hR (xs:=QS) (aC (by kernel_rfl) (by kernel_rfl) hR) aL af (n:=1000) (T:=pk) (λs Q=>anv s Q) (ok:=ok0) (f:=wi g0_0) h0) af)) (n:=1000) (sel:=LG) (λv o h=>by cases h;rfl) (pre:=pre) (F:=F) (T:=λx=>LI ok0 g0_0 (x.1.1) (x.1.2.1)) (λx Q=>auj ok0 g0_0 x Q) hF
def dO (a:aa) (n:Nat):aa:=ofN (a.nat/2^n)
theorem yY (a:aa):∀ n,upto (λ_ e=>dj e) a n=dO a n
 |0=>by
  show a=ofN (a.nat/2^0)
  rw [Nat.pow_zero,Nat.div_one,vO]
 |n+1=>by
  show dj (upto (λ_ e=>dj e) a n)=_
  rw [yY a n]
  unfold dj dO
  have:=jq a
  have h2:a.nat/2^n<=a.nat:=Nat.div_le_self _ _
  rw [kl (by omega),Nat.div_div_eq_div_mul,<-Nat.pow_succ]
def LH (s:b9):Bool:=decide (s.1.2.2.2.1=0/\0<=s.1.2.2.1/\s.1.2.2.1<=1000000/\s.2.1.length=4)
def QT (s:b9):iY:=(((),(),()),(lst (dO (elemOf s.2.1) s.1.2.2.1.toNat),s.2.2.1,()))
theorem anx:∀ s:b9,LH s=true->∃ m e,ao pk m s=some e/\(wi QT s).run=some e:=by
 rintro ⟨⟨⟨⟩,⟨⟩,k,i,⟨⟩⟩,⟨l,o,⟨⟩⟩⟩ h
 have h':=of_decide_eq_true h
 dsimp only at h'
 obtain ⟨rfl,h0,h1,hl⟩:=h'
 obtain ⟨a,rfl⟩:∃ a,l=lst a:=⟨elemOf l,(aS hl).symm⟩
 have:=(aP (T:=pk) (λi a=>((((),(),k,(i:Int),()),(lst a,o,())):b9)) (λ_ e=>dj e)
  (λa=>(⟨(.exit 0,nv),(((),(),()),(lst a,o,()))⟩:aE)) k.toNat a (λ_ _=>True) trivial (λi a hi _=>⟨?_,trivial⟩) (λa _=> ?_)).1
 ·rw [yY] at this
  obtain ⟨m,hm⟩:=this
  exact ⟨m,_,hm,rfl⟩
 ·refine (OT.ap (decide_eq_true (by dsimp only;omega))).trans ((ah ?_).trans rfl)
  simp only [List.all_cons,List.all_nil,Bool.and_true,Bool.and_eq_true]
  exact ⟨rfl,rfl,aH (by omega)⟩
 ·exact OT.ar (decide_eq_false (by dsimp only;omega))
def rb (x:wj):Bool:=decide (0<=x.1.2.1/\x.1.2.1<=1000000)
def YY (x:wj):OT fa.Y:=.ok ⟨pj,((dO x.1.1 x.1.2.1.toNat,()),())⟩
theorem anw:ac Tryz.prog 136 (fa.aI rb YY):=YX LH QT anx _ _ λx oy hp ho=>by
 rw [<-ho]
 clear ho
 obtain ⟨⟨a,k,⟨⟩⟩,⟨⟩⟩:=x
 have hp':0<=k/\k<=1000000:=of_decide_eq_true hp
 refine (ah ?_).trans ?_
 ·simp only [List.all_cons,List.all_nil,Bool.and_true,Bool.and_eq_true]
  exact ⟨decide_eq_true ⟨rfl,hp'.1,hp'.2,rfl⟩,rfl,rfl,rfl⟩
 ·show some (⟨pj,((elemOf (lay [0,0,0,0] (lst (dO a k.toNat)) 4 0),()),())⟩:fa.Y)=some ⟨pj,((dO a k.toNat,()),())⟩
  rw [aGL _ _ rfl rfl]
  rfl
def tO:cj:=(fa.aI rb YY)
theorem Ur:ac Tryz.prog 136 tO:=anw
theorem Uq:aG tO:=aA
def pU:Env:=ay 136 tO F2
theorem nJ:aR Tryz.prog pU:=ag Ur xg
theorem xT:ax pU:=ae Uq Hk
theorem CY:aW Tryz.prog te pU:=aK follows aq nJ xT
end Go.Proofs.YtohjofabochgfaaGreat

namespace Go.Proofs.YtohjofabochgfaaGreat
open Sx Go
def bQ (k:aa):Bool:=(k.w0==0&&(k.w1==0&&(k.w2==0&&(k.w3==0&&true))))
def aIX (k:aa):Bool:=(k.w0&&&1==1)
theorem lc (k:aa):bQ k=Nat.beq k.nat 0:=by
 unfold bQ Sx.aa.nat
 have e:∀ x:UInt64,(x==0)=decide (x.toNat=0):=λx=>by
  by_cases h:x=0
  ·subst h;rfl
  ·have h':¬x.toNat=0:=λh'=>h (UInt64.toNat_inj.1 h')
   rw [decide_eq_false h']
   simpa using h
 rw [e,e,e,e]
 generalize k.w0.toNat=a
 generalize k.w1.toNat=b
 generalize k.w2.toNat=c
 generalize k.w3.toNat=d
 by_cases h:a=0/\b=0/\c=0/\d=0
 ·obtain ⟨rfl,rfl,rfl,rfl⟩:=h
  rfl
 ·have h1:¬(a+18446744073709551616*(b+18446744073709551616*(c+18446744073709551616*d))=0):=λh1=>h (by omega)
  have h2:Nat.beq (a+18446744073709551616*(b+18446744073709551616*(c+18446744073709551616*d))) 0=false:=by
   cases hb:Nat.beq (a+18446744073709551616*(b+18446744073709551616*(c+18446744073709551616*d))) 0
   ·rfl
   ·exact absurd (Nat.eq_of_beq_eq_true hb) h1
  rw [h2]
  by_cases ha:a=0
  ·by_cases hb:b=0
   ·by_cases hc:c=0
    ·have hd:¬d=0:=λhd=>h ⟨ha,hb,hc,hd⟩
     simp [hd]
    ·simp [hc]
   ·simp [hb]
  ·simp [ha]
theorem azI (k:aa):aIX k=Nat.beq (k.nat%2) 1:=by
 have e:(k.w0&&&1).toNat=k.w0.toNat%2:=by
  rw [UInt64.toNat_and]
  exact Nat.and_two_pow_sub_one_eq_mod k.w0.toNat 1
 have e2:k.nat%2=k.w0.toNat%2:=by
  unfold Sx.aa.nat
  rw [ady]
 rw [e2,<-e]
 unfold aIX
 by_cases h:k.w0&&&1=1
 ·rw [h];rfl
 ·have h':¬(k.w0&&&1).toNat=1:=λh'=>h (UInt64.toNat_inj.1 h')
  have h2:Nat.beq (k.w0&&&1).toNat 1=false:=by
   cases hb:Nat.beq (k.w0&&&1).toNat 1
   ·rfl
   ·exact absurd (Nat.eq_of_beq_eq_true hb) h'
  rw [h2]
  simpa using h
theorem Yu (k:aa):(dj k).nat=k.nat/2:=by
 have:=jq k
 exact kl (by omega)
def azu (p:Nat):Nat->aa->aa->aa->aa
 |0,o,_,_=>o
 |n+1,o,x,k=>cond (bQ k) o (azu p n (cond (aIX k) (bO p o x) o) (bO p x x) (dj k))
def aBK (p:Nat):Nat->Nat->Nat->Nat->Nat
 |0,o,_,_=>o
 |n+1,o,x,k=>cond (Nat.beq k 0) o (aBK p n (cond (Nat.beq (k%2) 1) (o*x%p) o) (x*x%p) (k/2))
theorem asJ {p:Nat} (hp:0<p/\p<57896044618658097711785492504343953926634992332820282019728792003956564819968):∀ (n:Nat) (o x k:aa),azu p n o x k=ofN (aBK p n o.nat x.nat k.nat)
 |0,o,x,k=>(vO o).symm
 |n+1,o,x,k=>by
  have e:∀ a b:aa,(bO p a b).nat=a.nat*b.nat%p:=λa b=>cZ hp
  simp only [azu,aBK,lc,azI]
  cases Nat.beq k.nat 0
  ·simp only [cond_false]
   rw [asJ hp n,e,Yu]
   cases Nat.beq (k.nat%2) 1
   ·rfl
   ·simp only [cond_true,e]
  ·simp only [cond_true]
   exact (vO o).symm
def gN (p:Nat) (a k:aa):aa:=cond (Nat.beq p 0) ⟨0,0,0,0⟩ (ofN (aBK p 256 1 (a.nat%p) k.nat))
theorem UB {p:Nat} (hp:0<p) (a k:aa):gN p a k=ofN (aBK p 256 1 (a.nat%p) k.nat):=by
 unfold gN
 cases p with
 |zero=>exact absurd hp (Nat.lt_irrefl _)
 |succ p=>rfl
end Go.Proofs.YtohjofabochgfaaGreat

namespace Go.Proofs.YtohjofabochgfaaGreat
open Sx Go
set_option maxRecDepth 100000
def nw:aw:=⟨[.val false .int,.val true .elem,.val true .elem],[],true,0,false⟩
abbrev Y1:Type:=((Int)×(aa)×(aa)×Unit)×(Unit)
def LK:Shape:=⟨40,[(4,.ptr 0 0 0),(5,.ptr 1 0 0),(6,.ptr 2 0 0),(7,.ptr 3 0 0),(9,.ptr 4 0 0)],[(0,.row .u64),(1,.row .u64),(2,.row .u64),(3,.cells [.val false .u64,.val false .u64,.val false .u64,.val false .u64,.val false .int,.val false .u64,.val false .u64,.val false .u64,.val false .u64,.val false .u64,.val false .u64]),(4,.row .u64)],0,true⟩
abbrev dJ:Type:=((Unit)×(Unit)×(Unit)×(Unit)×(Unit)×Unit)×((List (UInt64))×(List (UInt64))×(List (UInt64))×((UInt64)×(UInt64)×(UInt64)×(UInt64)×(Int)×(UInt64)×(UInt64)×(UInt64)×(UInt64)×(UInt64)×(UInt64)×Unit)×(List (UInt64))×Unit)
def BL:Shape:=⟨40,[(6,.ptr 0 0 0),(9,.ptr 1 0 0)],[(0,.row .u64),(1,.row .u64)],0,true⟩
abbrev pl:Type:=((Unit)×(Unit)×Unit)×((List (UInt64))×(List (UInt64))×Unit)
def aum:SE->Option Shape:=fw [(0,BL)] none
def aFR (c0:List (UInt64)) (c1:List (UInt64)) (c2:List (UInt64)) (c3_0:UInt64) (c3_1:UInt64) (c3_2:UInt64) (c3_3:UInt64) (c3_4:Int) (c3_5:UInt64) (c3_6:UInt64) (c3_7:UInt64) (c3_8:UInt64) (c3_9:UInt64) (c3_10:UInt64) (c4:List (UInt64)):OT (Sum dJ aE):=
 let z0:Nat:=List.length c1
 let z1:Bool:=decide (4<=z0)
 let z2:UInt64:=List.getD c1 0 0
 let z3:UInt64:=List.getD c1 1 0
 let z4:UInt64:=List.getD c1 2 0
 let z5:UInt64:=List.getD c1 3 0
 let z6:Nat:=List.length c4
 let z7:Nat:=List.length c0
 let z8:Bool:=decide (4<=z7)
 let z9:aa:= {w0:=c3_0,w1:=c3_1,w2:=c3_2,w3:=c3_3}
 let z10:aa×Int×UInt64×UInt64×aa:=(z9,c3_4,c3_5,c3_6,{w0:=c3_7,w1:=c3_8,w2:=c3_9,w3:=c3_10})
 let z11:aa:= {w0:=List.getD c4 0 0,w1:=List.getD c4 1 0,w2:=List.getD c4 2 0,w3:=List.getD c4 3 0}
 let z12:aa:= {w0:=List.getD c0 0 0,w1:=List.getD c0 1 0,w2:=List.getD c0 2 0,w3:=List.getD c0 3 0}
 let z13:aa×PUnit:=(z12,())
 let z14:Bool:=fW ((z10,z12,z13),())
 let z15:Bool:=decide ((4/1:Nat)+0<=z7)
 let z16:Bool:=decide ((4/1:Nat)+0<=z0)
 let z17:Nat:=aa.nat z9
 let z18:aa:=bO z17 z12 z12
 let z19:List UInt64:=List.set (List.set (List.set (List.set c0 0 z18.w0) 1 z18.w1) 2 z18.w2) 3 z18.w3
 let z20:aa:=dj {w0:=z2,w1:=z3,w2:=z4,w3:=z5}
 let z21:List UInt64:=List.set (List.set (List.set (List.set c1 0 z20.w0) 1 z20.w1) 2 z20.w2) 3 z20.w3
 let z22:aa:=bO z17 z11 z12
 (gd [z1] (.br (!(z2==(0:UInt64)&&(z3==(0:UInt64)&&(z4==(0:UInt64)&&(z5==(0:UInt64)&&true)))))
 (gd [decide (0<z0)] (.br (z2&&&(1:UInt64)==(1:UInt64))
  (gd [decide (4<=z6),z8,fW ((z10,z11,z13),()),decide ((4/1:Nat)+0<=z6),z8,z8,z14,z15,z1,z16] (.ok (.inl (((),((),((),((),((),()))))),(z19,(z21,(c2,((c3_0,(c3_1,(c3_2,(c3_3,(c3_4,(c3_5,(c3_6,(c3_7,(c3_8,(c3_9,(c3_10,()))))))))))),(List.set (List.set (List.set (List.set c4 0 z22.w0) 1 z22.w1) 2 z22.w2) 3 z22.w3,())))))))))
  (gd [z8,z8,z14,z15,z1,z16] (.ok (.inl (((),((),((),((),((),()))))),(z19,(z21,(c2,((c3_0,(c3_1,(c3_2,(c3_3,(c3_4,(c3_5,(c3_6,(c3_7,(c3_8,(c3_9,(c3_10,()))))))))))),(c4,())))))))))))
 (.ok (.inr ⟨(.exit 0,BL),(((),((),())),(c2,(c4,())))⟩))))
def LL (s:dJ):OT (Sum dJ aE):=aFR (s.2.1) (s.2.2.1) (s.2.2.2.1) (s.2.2.2.2.1.1) (s.2.2.2.2.1.2.1) (s.2.2.2.2.1.2.2.1) (s.2.2.2.2.1.2.2.2.1) (s.2.2.2.2.1.2.2.2.2.1) (s.2.2.2.2.1.2.2.2.2.2.1) (s.2.2.2.2.1.2.2.2.2.2.2.1) (s.2.2.2.2.1.2.2.2.2.2.2.2.1) (s.2.2.2.2.1.2.2.2.2.2.2.2.2.1) (s.2.2.2.2.1.2.2.2.2.2.2.2.2.2.1) (s.2.2.2.2.1.2.2.2.2.2.2.2.2.2.2.1) (s.2.2.2.2.2.1)
theorem aFP (s:dJ) (Q:Sum dJ aE->Prop):wps te pU av 1000 (aU (aj Tryz.f137) 0) (LK.inj s) (bX LK aum (Q:Sum LK.T aE->Prop))=(LL s).wpR Q:=by kernel_rfl
def Uu (g0_0:dJ->pl) (s:dJ):OT aE:=(.ok ⟨(.exit 0,BL),g0_0 s⟩)
def E3:az:=⟨[.val true .elem],[],false⟩
def ajL:SV->Option az:=λ_=>some E3
def aur (ok0:dJ->Bool) (g0_0:dJ->pl) (a0:Int) (a1:aa) (a2:aa):OT nw.Y:=
 let z0:aa×Int×UInt64×UInt64×aa:=aX (Int.toNat a0)
 let z1:=z0.fst
 let z2:aa:=ofN (aa.nat a1%aa.nat z1)
 let z3:=z0.snd
 let z4:=z3.snd
 let z5:=z4.snd
 let z6:=z5.snd
 let z7:(PUnit×PUnit×PUnit×PUnit×PUnit×PUnit)×List UInt64×List UInt64×List UInt64×(UInt64×UInt64×UInt64×UInt64×Int×UInt64×UInt64×UInt64×UInt64×UInt64×UInt64×PUnit)×List UInt64×PUnit:=(((),(),(),(),(),()),[z2.w0,z2.w1,z2.w2,z2.w3],[a2.w0,a2.w1,a2.w2,a2.w3],[(0:UInt64),(0:UInt64),(0:UInt64),(0:UInt64)],(z1.w0,z1.w1,z1.w2,z1.w3,z3.fst,z4.fst,z5.fst,z6.w0,z6.w1,z6.w2,z6.w3,()),[(1:UInt64),(0:UInt64),(0:UInt64),(0:UInt64)],())
 let z8:=(g0_0 z7).snd
 let z9:=z8.snd.fst
 let z10:=z8.fst
 let z11:List UInt64:=lay z10 z9 4 (0:UInt64)
 (.br (al a0)
 (gd [gv ((z0,a1,()),()),ok0 z7,decide (4<=List.length z9),decide ((4/1:Nat)+0<=List.length z10),decide (4<=List.length z11)] (.ok ⟨E3,(({w0:=List.getD z11 0 0,w1:=List.getD z11 1 0,w2:=List.getD z11 2 0,w3:=List.getD z11 3 0},()),())⟩))
 (.ok ⟨E3,(({w0:=0,w1:=0,w2:=0,w3:=0},()),())⟩))
theorem aIl (ok0:dJ->Bool) (g0_0:dJ->pl) (x:Y1) (Q:nw.Y->Prop):wpf te pU (aO 0 (cg LK 0 ok0 (Uu g0_0)) av) 1000 Tryz.f137 (nw.inp.inj x).tm (nw.inp.inj x).hp (fnK nw ajL Q) (λ_ _=>False)=(aur ok0 g0_0 (x.1.1) (x.1.2.1) (x.1.2.2.1)).wpR Q:=by kernel_rfl
theorem auo (ok0:dJ->Bool) (g0_0:dJ->pl) (h0:∀ s:dJ,ok0 s=true->∃ m e,ao (LL) m s=some e/\(Uu g0_0 s).run=some e) (pre:Y1->Bool) (F:Y1->OT nw.Y) (hF:∀ (x:Y1) oy,pre x=true->(F x).run=some oy->(aur ok0 g0_0 (x.1.1) (x.1.2.1) (x.1.2.2.1)).run=some oy):ac Tryz.prog 137 (nw.aI pre F):=
 aD aq nJ CY (f:=137) (fn:=Tryz.f137) (c:=aj Tryz.f137) (by kernel_rfl) (by kernel_rfl) (by kernel_rfl) (S:=nw) (k:=0) (by kernel_rfl) (λR hR=>(aB (c:=(aj Tryz.f137)) (by kernel_rfl) (id:=0) (by kernel_rfl) (aQ aq nJ CY (sh:=LK) hR (xs:=aum) (aC (by kernel_rfl) (by kernel_rfl) hR) aL af (n:=1000) (T:=LL) (λs Q=>aFP s Q) (ok:=ok0) (f:=Uu g0_0) h0) af)) (n:=1000) (sel:=ajL) (λv o h=>by cases h;rfl) (pre:=pre) (F:=F) (T:=λx=>aur ok0 g0_0 (x.1.1) (x.1.2.1) (x.1.2.2.1)) (λx Q=>aIl ok0 g0_0 x Q) hF
theorem aup {x0 x1 x2 x3 x5 x6 x7 x8 x9 x10:UInt64} {x4:Int} {c2:List UInt64} (hn:kk (⟨x0,x1,x2,x3⟩,x4,x5,x6,⟨x7,x8,x9,x10⟩)=true):∀ (n:Nat) (o x k:aa),k.nat<2^n->
 ∃ m,ao LL m (((),(),(),(),(),()),(lst x,lst k,c2,(x0,x1,x2,x3,x4,x5,x6,x7,x8,x9,x10,()),lst o,()))=some ⟨(.exit 0,BL),(((),(),()),(c2,lst (azu (aa.mk x0 x1 x2 x3).nat n o x k),()))⟩:=by
 intro n
 induction n with
 |zero=>
  intro o x k hk
  have hz:(!bQ k)=false:=by
   rw [lc,show k.nat=0 by omega]
   rfl
  exact ⟨1,aM ((ah rfl).trans (OT.ar hz))⟩
 |succ n ih=>
  intro o x k hk
  cases hz:bQ k
  ·have hk2:(dj k).nat<2^n:=by
    rw [Yu]
    rw [Nat.pow_succ] at hk
    omega
   have hz':(!bQ k)=true:=by rw [hz];rfl
   cases ho:aIX k
   ·obtain ⟨m,hm⟩:=ih o (bO (aa.mk x0 x1 x2 x3).nat x x) (dj k) hk2
    simp only [azu,hz,ho,cond_false]
    refine ⟨m+1,aF ?_ hm⟩
    refine (ah rfl).trans ((OT.ap hz').trans ((ah rfl).trans ((OT.ar ho).trans ((ah ?_).trans rfl))))
    simp only [List.all_cons,List.all_nil,Bool.and_true,Bool.and_eq_true]
    exact ⟨rfl,rfl,hn,rfl,rfl,rfl⟩
   ·obtain ⟨m,hm⟩:=ih (bO (aa.mk x0 x1 x2 x3).nat o x) (bO (aa.mk x0 x1 x2 x3).nat x x) (dj k) hk2
    simp only [azu,hz,ho,cond_false,cond_true]
    refine ⟨m+1,aF ?_ hm⟩
    refine (ah rfl).trans ((OT.ap hz').trans ((ah rfl).trans ((OT.ap ho).trans ((ah ?_).trans rfl))))
    simp only [List.all_cons,List.all_nil,Bool.and_true,Bool.and_eq_true]
    exact ⟨rfl,rfl,hn,rfl,rfl,rfl,hn,rfl,rfl,rfl⟩
  ·simp only [azu,hz,cond_true]
   have hz':(!bQ k)=false:=by rw [hz];rfl
   exact ⟨1,aM ((ah rfl).trans (OT.ar hz'))⟩
def aJo (s:dJ):OR:=(⟨s.2.2.2.2.1.1,s.2.2.2.2.1.2.1,s.2.2.2.2.1.2.2.1,s.2.2.2.2.1.2.2.2.1⟩,s.2.2.2.2.1.2.2.2.2.1,s.2.2.2.2.1.2.2.2.2.2.1,s.2.2.2.2.1.2.2.2.2.2.2.1,⟨s.2.2.2.2.1.2.2.2.2.2.2.2.1,s.2.2.2.2.1.2.2.2.2.2.2.2.2.1,s.2.2.2.2.1.2.2.2.2.2.2.2.2.2.1,s.2.2.2.2.1.2.2.2.2.2.2.2.2.2.2.1⟩)
def Ut (s:dJ):Bool:=kk (aJo s)&&decide (s.2.1.length=4/\s.2.2.1.length=4/\s.2.2.2.2.2.1.length=4)
def auq (s:dJ):pl:=(((),(),()),(s.2.2.2.1,lst (azu (aJo s).1.nat 256 (elemOf s.2.2.2.2.2.1) (elemOf s.2.1) (elemOf s.2.2.1)),()))
theorem aFQ:∀ s:dJ,Ut s=true->∃ m e,ao LL m s=some e/\(Uu auq s).run=some e:=by
 rintro ⟨⟨⟨⟩,⟨⟩,⟨⟩,⟨⟩,⟨⟩,⟨⟩⟩,⟨c0,c1,c2,⟨x0,x1,x2,x3,x4,x5,x6,x7,x8,x9,x10,⟨⟩⟩,c4,⟨⟩⟩⟩ h
 simp only [Ut,Bool.and_eq_true,decide_eq_true_eq,aJo] at h
 obtain ⟨hn,h0,h1,h4⟩:=h
 obtain ⟨x,rfl⟩:∃ a,c0=lst a:=⟨elemOf c0,(aS h0).symm⟩
 obtain ⟨k,rfl⟩:∃ a,c1=lst a:=⟨elemOf c1,(aS h1).symm⟩
 obtain ⟨o,rfl⟩:∃ a,c4=lst a:=⟨elemOf c4,(aS h4).symm⟩
 obtain ⟨m,hm⟩:=aup (c2:=c2) hn 256 o x k (jq k)
 exact ⟨m,_,hm,rfl⟩
def ajM (_:Y1):Bool:=true
def aB4 (x:Y1):OT nw.Y:=.br (al x.1.1) (.ok ⟨E3,((gN (pS x.1.1) x.1.2.1 x.1.2.2.1,()),())⟩) (.ok ⟨E3,((⟨0,0,0,0⟩,()),())⟩)
theorem aAq {p:Nat} (hp:0<p/\p<57896044618658097711785492504343953926634992332820282019728792003956564819968) (a k:aa):elemOf (lay [0,0,0,0] (lst (azu p 256 ⟨1,0,0,0⟩ (ofN (a.nat%p)) k)) 4 0)=gN p a k:=by
 rw [aGL _ _ rfl rfl,anS,asJ hp,cZ hp,UB hp.1]
 rfl
theorem aun:ac Tryz.prog 137 (nw.aI ajM aB4):=auo Ut auq aFQ _ _ λx oy hp ho=>by
 rw [<-ho]
 clear ho
 obtain ⟨⟨s,a,k,⟨⟩⟩,⟨⟩⟩:=x
 cases hs:al s
 ·exact (OT.ar hs).trans (OT.ar (b:=al s) hs).symm
 ·have hn:=iQ hs
  have hfin:=aAq (ni hs) a k
  have hn2:kk (aX s.toNat)=true:=hn
  refine (OT.ap hs).trans (Eq.trans ?_ (OT.ap (b:=al s) hs).symm)
  simp only [<-hfin]
  refine (ah ?_).trans rfl
  simp only [List.all_cons,List.all_nil,Bool.and_true,Bool.and_eq_true]
  refine ⟨hn,?_,rfl,rfl,rfl⟩
  show (kk _&&decide _)=true
  rw [Bool.and_eq_true]
  exact ⟨hn,decide_eq_true ⟨rfl,rfl,rfl⟩⟩
def LJ:cj:=(nw.aI ajM aB4)
theorem anC:ac Tryz.prog 137 LJ:=aun
theorem anB:aG LJ:=aA
def aaG:Env:=ay 137 LJ pU
theorem NE:aR Tryz.prog aaG:=ag anC nJ
theorem NF:ax aaG:=ae anB xT
theorem aoP:aW Tryz.prog te aaG:=aK follows aq NE NF
def tN:aw:=⟨[.val false .int,.val true .elem],[],true,0,false⟩
abbrev anu:Type:=((Int)×(aa)×Unit)×(Unit)
def tM:az:=⟨[.val true .elem,.val false .int],[],false⟩
def ajJ:SV->Option az:=λ_=>some tM
def aui (a0:Int) (a1:aa):OT tN.Y:=
 let z0:Bool:=al a0
 let z1:aa×Int×UInt64×UInt64×aa:=aX (Int.toNat a0)
 let z2:=z1.fst
 let z3:aa:=ofN (aa.nat a1%aa.nat z2)
 let z4:aa:= {w0:=0,w1:=0,w2:=0,w3:=0}
 (.br (z0)
 (gd [gv ((z1,a1,()),())] (.br (z3.w0==(0:UInt64)&&(z3.w1==(0:UInt64)&&(z3.w2==(0:UInt64)&&(z3.w3==(0:UInt64)&&true))))
  (.ok ⟨tM,((z4,((10:Int),())),())⟩)
  (.br (z0)
   (.ok ⟨tM,((gN (pS a0) a1 (eg z2 {w0:=2,w1:=0,w2:=0,w3:=0}).fst,((0:Int),())),())⟩)
   (.ok ⟨tM,((z4,((0:Int),())),())⟩))))
 (.ok ⟨tM,((z4,((20:Int),())),())⟩))
theorem aIk (x:anu) (Q:tN.Y->Prop):wpf te aaG av 1000 Tryz.f121 (tN.inp.inj x).tm (tN.inp.inj x).hp (fnK tN ajJ Q) (λ_ _=>False)=(aui (x.1.1) (x.1.2.1)).wpR Q:=by kernel_rfl
theorem auh (pre:anu->Bool) (F:anu->OT tN.Y) (hF:∀ (x:anu) oy,pre x=true->(F x).run=some oy->(aui (x.1.1) (x.1.2.1)).run=some oy):ac Tryz.prog 121 (tN.aI pre F):=
 aD aq NE aoP (f:=121) (fn:=Tryz.f121) (c:=aj Tryz.f121) (by kernel_rfl) (by kernel_rfl) (by kernel_rfl) (S:=tN) (k:=0) (by kernel_rfl) (λR hR=>af) (n:=1000) (sel:=ajJ) (λv o h=>by cases h;rfl) (pre:=pre) (F:=F) (T:=λx=>aui (x.1.1) (x.1.2.1)) (λx Q=>aIk x Q) hF
def aHZ (p:Nat) (a:aa):aa:=ofN (aBK p 256 1 (a.nat%p) (p-2))
theorem aBM {s:Int} (h:al s=true):2<=pS s:=by
 rcases ck h with rfl|rfl|rfl|rfl<;>decide+kernel
theorem aFq {s:Int} (h:al s=true) (a:aa):gN (pS s) a (eg (aX s.toNat).1 ⟨2,0,0,0⟩).1=aHZ (pS s) a:=by
 rw [UB (ni h).1]
 unfold aHZ
 have h2:2<=(aX s.toNat).1.nat:=aBM h
 rw [mN (show (aa.mk 2 0 0 0).nat<=_ from h2)]
 rfl
theorem awu {p:Nat} (hp:0<p/\p<57896044618658097711785492504343953926634992332820282019728792003956564819968) (n:Nat):bQ (ofN (n%p))=Nat.beq (n%p) 0:=by
 rw [lc,cZ hp]
def ajK (_:anu):Bool:=true
def aB3 (x:anu):OT tN.Y:=.br (al x.1.1) (.br (Nat.beq (x.1.2.1.nat%pS x.1.1) 0) (.ok ⟨tM,((⟨0,0,0,0⟩,((10:Int),())),())⟩) (.ok ⟨tM,((aHZ (pS x.1.1) x.1.2.1,((0:Int),())),())⟩))
 (.ok ⟨tM,((⟨0,0,0,0⟩,((20:Int),())),())⟩)
theorem aFN:ac Tryz.prog 121 (tN.aI ajK aB3):=auh _ _ λx oy hp ho=>by
 rw [<-ho]
 clear ho
 obtain ⟨⟨s,a,⟨⟩⟩,⟨⟩⟩:=x
 cases hs:al s
 ·exact (OT.ar hs).trans (OT.ar (b:=al s) hs).symm
 ·have hz:bQ (ofN (a.nat%pS s))=Nat.beq (a.nat%pS s) 0:=awu (ni hs) _
  refine (OT.ap hs).trans (Eq.trans ((ah ?_).trans ?_) (OT.ap (b:=al s) hs).symm)
  ·simp only [List.all_cons,List.all_nil,Bool.and_true]
   exact iQ hs
  ·cases hb:Nat.beq (a.nat%pS s) 0
   ·rw [hb] at hz
    refine (OT.ar hz).trans ((OT.ap hs).trans (Eq.trans ?_ (OT.ar rfl).symm))
    simp only [aFq hs]
   ·rw [hb] at hz
    exact (OT.ap hz).trans (OT.ap rfl).symm
def LD:cj:=(tN.aI ajK aB3)
theorem ant:ac Tryz.prog 121 LD:=aFN
theorem ans:aG LD:=aA
def aaF:Env:=ay 121 LD aaG
theorem NB:aR Tryz.prog aaF:=ag ant NE
theorem NC:ax aaF:=ae ans NF
theorem aoO:aW Tryz.prog te aaF:=aK follows aq NB NC
def jg:aw:=⟨[.val false .int],[],true,0,false⟩
abbrev Fc:Type:=((Int)×Unit)×(Unit)
def jf:az:=⟨[.val true .elem,.val false .bool],[],false⟩
def Rb:SV->Option az:=λ_=>some jf
def UT (a0:Int):OT jg.Y:=
 let z0:aa:= {w0:=5,w1:=0,w2:=0,w3:=0}
 let z1:aa:= {w0:=0,w1:=0,w2:=0,w3:=0}
 (.br (a0==(0:Int))
 (.ok ⟨jf,(({w0:=23,w1:=0,w2:=0,w3:=0},(true,())),())⟩)
 (.br (a0==(1:Int))
  (.ok ⟨jf,(({w0:=21,w1:=0,w2:=0,w3:=0},(true,())),())⟩)
  (.br (a0==(2:Int))
   (.br (a0==(2:Int))
    (.ok ⟨jf,((z0,(true,())),())⟩)
    (.ok ⟨jf,((z1,(false,())),())⟩))
   (.br (a0==(3:Int))
    (.ok ⟨jf,((z0,(true,())),())⟩)
    (.ok ⟨jf,((z1,(false,())),())⟩)))))
theorem aAL (x:Fc) (Q:jg.Y->Prop):wpf te aaF av 1000 Tryz.f85 (jg.inp.inj x).tm (jg.inp.inj x).hp (fnK jg Rb Q) (λ_ _=>False)=(UT (x.1.1)).wpR Q:=by kernel_rfl
theorem aey (pre:Fc->Bool) (F:Fc->OT jg.Y) (hF:∀ (x:Fc) oy,pre x=true->(F x).run=some oy->(UT (x.1.1)).run=some oy):ac Tryz.prog 85 (jg.aI pre F):=
 aD aq NB aoO (f:=85) (fn:=Tryz.f85) (c:=aj Tryz.f85) (by kernel_rfl) (by kernel_rfl) (by kernel_rfl) (S:=jg) (k:=0) (by kernel_rfl) (λR hR=>af) (n:=1000) (sel:=Rb) (λv o h=>by cases h;rfl) (pre:=pre) (F:=F) (T:=λx=>UT (x.1.1)) (λx Q=>aAL x Q) hF
def bOf:Nat->aa
 |0=>⟨23,0,0,0⟩
 |1=>⟨21,0,0,0⟩
 |_=>⟨5,0,0,0⟩
abbrev bS (s:Int):aa:=bOf s.toNat
def Rc (_:Fc):Bool:=true
def akd (x:Fc):OT jg.Y:=.br (al x.1.1) (.ok ⟨jf,((bS x.1.1,(true,())),())⟩) (.ok ⟨jf,((⟨0,0,0,0⟩,(false,())),())⟩)
theorem avm:ac Tryz.prog 85 (jg.aI Rc akd):=aey _ _ λx oy _ ho=>by
 rw [<-ho]
 clear ho
 obtain ⟨⟨s,⟨⟩⟩,⟨⟩⟩:=x
 cases hs:al s
 ·obtain ⟨h0,h1,h2,h3⟩:=u5 hs
  exact (OT.ar h0).trans ((OT.ar h1).trans ((OT.ar h2).trans ((OT.ar h3).trans (OT.ar (b:=al s) hs).symm)))
 ·rcases ck hs with h|h|h|h
  all_goals
   have h:s=_:=h
   subst h
   rfl
def zf:cj:=(jg.aI Rc akd)
theorem ZA:ac Tryz.prog 85 zf:=avm
theorem Zz:aG zf:=aA
def C8:Env:=ay 85 zf aaF
theorem zH:aR Tryz.prog C8:=ag ZA NB
theorem C7:ax C8:=ae Zz NC
theorem aaP:aW Tryz.prog te C8:=aK follows aq zH C7
def ud:aw:=⟨[],[],true,0,false⟩
abbrev an9:Type:=(Unit)×(Unit)
def aes:az:=⟨[.val true (.prod .elem (.prod .elem .bool))],[],false⟩
def aka:SV->Option az:=λ_=>some aes
def avf:OT ud.Y:=
 let z0:aa:= {w0:=0,w1:=0,w2:=0,w3:=0}
 (.ok ⟨aes,(((z0,z0,true),()),())⟩)
theorem aIx (x:an9) (Q:ud.Y->Prop):wpf te C8 av 1000 Tryz.f79 (ud.inp.inj x).tm (ud.inp.inj x).hp (fnK ud aka Q) (λ_ _=>False)=(avf).wpR Q:=by kernel_rfl
theorem ave (pre:an9->Bool) (F:an9->OT ud.Y) (hF:∀ (x:an9) oy,pre x=true->(F x).run=some oy->(avf).run=some oy):ac Tryz.prog 79 (ud.aI pre F):=
 aD aq zH aaP (f:=79) (fn:=Tryz.f79) (c:=aj Tryz.f79) (by kernel_rfl) (by kernel_rfl) (by kernel_rfl) (S:=ud) (k:=0) (by kernel_rfl) (λR hR=>af) (n:=1000) (sel:=aka) (λv o h=>by cases h;rfl) (pre:=pre) (F:=F) (T:=λx=>avf) (λx Q=>aIx x Q) hF
def cB:aa×(aa×Bool):=(⟨0,0,0,0⟩,⟨0,0,0,0⟩,true)
def akb (_:an9):Bool:=true
def aCd (_:an9):OT ud.Y:=.ok ⟨aes,((cB,()),())⟩
theorem aGi:ac Tryz.prog 79 (ud.aI akb aCd):=ave _ _ λx oy _ ho=>ho
def Ma:cj:=(ud.aI akb aCd)
theorem an8:ac Tryz.prog 79 Ma:=aGi
theorem an7:aG Ma:=aA
def aaO:Env:=ay 79 Ma C8
theorem NQ:aR Tryz.prog aaO:=ag an8 zH
theorem NR:ax aaO:=ae an7 C7
theorem aoT:aW Tryz.prog te aaO:=aK follows aq NQ NR
def mm:aw:=⟨[.val false .int,.val true .elem,.val true .elem],[],true,0,false⟩
abbrev Ra:Type:=((Int)×(aa)×(aa)×Unit)×(Unit)
def jP:az:=⟨[.val true .elem],[],false⟩
def Zy:SV->Option az:=λ_=>some jP
def aex (a0:Int) (a1:aa) (a2:aa):OT mm.Y:=
 let z0:Bool:=al a0
 let z1:Nat:=pS a0
 let z2:aa:= {w0:=0,w1:=0,w2:=0,w3:=0}
 let z3:aa:=Fy z1 z2 a2
 (.br (z0)
 (.br (z0)
  (.br (z0)
   (.ok ⟨jP,((Fy z1 (bO z1 (bO z1 a1 a1) a1) a2,()),())⟩)
   (.ok ⟨jP,((z2,()),())⟩))
  (.br (z0)
   (.ok ⟨jP,((z3,()),())⟩)
   (.ok ⟨jP,((z2,()),())⟩)))
 (.br (z0)
  (.br (z0)
   (.ok ⟨jP,((Fy z1 (bO z1 z2 a1) a2,()),())⟩)
   (.ok ⟨jP,((z2,()),())⟩))
  (.br (z0)
   (.ok ⟨jP,((z3,()),())⟩)
   (.ok ⟨jP,((z2,()),())⟩))))
theorem aGj (x:Ra) (Q:mm.Y->Prop):wpf te aaO av 1000 Tryz.f87 (mm.inp.inj x).tm (mm.inp.inj x).hp (fnK mm Zy Q) (λ_ _=>False)=(aex (x.1.1) (x.1.2.1) (x.1.2.2.1)).wpR Q:=by kernel_rfl
theorem aoc (pre:Ra->Bool) (F:Ra->OT mm.Y) (hF:∀ (x:Ra) oy,pre x=true->(F x).run=some oy->(aex (x.1.1) (x.1.2.1) (x.1.2.2.1)).run=some oy):ac Tryz.prog 87 (mm.aI pre F):=
 aD aq NQ aoT (f:=87) (fn:=Tryz.f87) (c:=aj Tryz.f87) (by kernel_rfl) (by kernel_rfl) (by kernel_rfl) (S:=mm) (k:=0) (by kernel_rfl) (λR hR=>af) (n:=1000) (sel:=Zy) (λv o h=>by cases h;rfl) (pre:=pre) (F:=F) (T:=λx=>aex (x.1.1) (x.1.2.1) (x.1.2.2.1)) (λx Q=>aGj x Q) hF
def xl (p:Nat) (x b:aa):aa:=Fy p (bO p (bO p x x) x) b
def ui (x:Ra):Bool:=al x.1.1
def avl (x:Ra):OT mm.Y:=.ok ⟨jP,((xl (pS x.1.1) x.1.2.1 x.1.2.2.1,()),())⟩
theorem aAK:ac Tryz.prog 87 (mm.aI ui avl):=aoc _ _ λx oy hp ho=>by
 rw [<-ho]
 clear ho
 obtain ⟨⟨s,a,b,⟨⟩⟩,⟨⟩⟩:=x
 have hs:al s=true:=hp
 exact (OT.ap hs).trans ((OT.ap hs).trans ((OT.ap hs).trans rfl))
def Fb:cj:=(mm.aI ui avl)
theorem aew:ac Tryz.prog 87 Fb:=aAK
theorem aev:aG Fb:=aA
def NT:Env:=ay 87 Fb aaO
theorem F6:aR Tryz.prog NT:=ag aew NQ
theorem Ho:ax NT:=ae aev NR
theorem afy:aW Tryz.prog te NT:=aK follows aq F6 Ho
def HE:aw:=⟨[.val false .int,.val true (.prod .elem (.prod .elem .bool))],[],true,0,false⟩
abbrev aGT:Type:=((Int)×((aa×(aa×Bool)))×Unit)×(Unit)
def xB:az:=⟨[.val false .bool],[],false⟩
def au4:SV->Option az:=λ_=>some xB
def aGc (a0:Int) (a1:(aa×(aa×Bool))):OT HE.Y:=
 let z0:Bool:=al a0
 let z1:Nat:=aa.nat (aX (Int.toNat a0)).fst
 let z2:aa:=bS a0
 let z3:Bool:=ui ((a0,a1.fst,z2,()),())
 let z4:Nat:=pS a0
 let z5:aa:=bO z4 a1.snd.fst a1.snd.fst
 let z6:aa:=xl z4 a1.fst z2
 let z7:=z6.w0
 let z8:=z6.w1
 let z9:=z6.w2
 let z10:=z6.w3
 (.br (z0)
 (.br (a1.snd.snd)
  (.ok ⟨xB,((a1.fst.w0==(0:UInt64)&&(a1.fst.w1==(0:UInt64)&&(a1.fst.w2==(0:UInt64)&&(a1.fst.w3==(0:UInt64)&&true)))&&(a1.snd.fst.w0==(0:UInt64)&&(a1.snd.fst.w1==(0:UInt64)&&(a1.snd.fst.w2==(0:UInt64)&&(a1.snd.fst.w3==(0:UInt64)&&true)))&&(a1.snd.snd==true&&true)),()),())⟩)
  (.br (z0)
   (.br (Nat.blt (aa.nat a1.fst) z1)
    (.br (Nat.blt (aa.nat a1.snd.fst) z1)
     (.br (z0)
      (gd [z3] (.ok ⟨xB,((z5.w0==z7&&(z5.w1==z8&&(z5.w2==z9&&(z5.w3==z10&&true))),()),())⟩))
      (gd [z3] (.ok ⟨xB,(((0:UInt64)==z7&&((0:UInt64)==z8&&((0:UInt64)==z9&&((0:UInt64)==z10&&true))),()),())⟩)))
     (.ok ⟨xB,((false,()),())⟩))
    (.ok ⟨xB,((false,()),())⟩))
   (.ok ⟨xB,((false,()),())⟩)))
 (.ok ⟨xB,((false,()),())⟩))
theorem aJn (x:aGT) (Q:HE.Y->Prop):wpf te NT av 1000 Tryz.f47 (HE.inp.inj x).tm (HE.inp.inj x).hp (fnK HE au4 Q) (λ_ _=>False)=(aGc (x.1.1) (x.1.2.1)).wpR Q:=by kernel_rfl
theorem aAD (pre:aGT->Bool) (F:aGT->OT HE.Y) (hF:∀ (x:aGT) oy,pre x=true->(F x).run=some oy->(aGc (x.1.1) (x.1.2.1)).run=some oy):ac Tryz.prog 47 (HE.aI pre F):=
 aD aq F6 afy (f:=47) (fn:=Tryz.f47) (c:=aj Tryz.f47) (by kernel_rfl) (by kernel_rfl) (by kernel_rfl) (S:=HE) (k:=0) (by kernel_rfl) (λR hR=>af) (n:=1000) (sel:=au4) (λv o h=>by cases h;rfl) (pre:=pre) (F:=F) (T:=λx=>aGc (x.1.1) (x.1.2.1)) (λx Q=>aJn x Q) hF
def eqE (a b:aa):Bool:=(a.w0==b.w0&&(a.w1==b.w1&&(a.w2==b.w2&&(a.w3==b.w3&&true))))
theorem y8 {a b:aa}:eqE a b=true ↔ a=b:=by
 obtain ⟨a0,a1,a2,a3⟩:=a
 obtain ⟨b0,b1,b2,b3⟩:=b
 simp [eqE]
theorem ajW (a:aa):eqE a a=true:=y8.2 rfl
theorem auK (a b:aa):eqE a b=Nat.beq a.nat b.nat:=by
 cases h:eqE a b
 ·cases hb:Nat.beq a.nat b.nat
  ·rfl
  ·rw [y8.2 (qL (Nat.eq_of_beq_eq_true hb))] at h
   cases h
 ·rw [y8.1 h]
  exact (Nat.beq_refl _).symm
abbrev Pt:Type:=aa×(aa×Bool)
def onB (c:Int) (P:Pt):Bool:=cond (al c) (cond P.2.2 (bQ P.1&&(bQ P.2.1&&(P.2.2==true&&true)))
 (cond (Nat.blt P.1.nat (pS c)) (cond (Nat.blt P.2.1.nat (pS c)) (eqE (bO (pS c) P.2.1 P.2.1) (xl (pS c) P.1 (bS c))) false) false)) false
def au5 (_:aGT):Bool:=true
def aIu (x:aGT):OT HE.Y:=.ok ⟨xB,((onB x.1.1 x.1.2.1,()),())⟩
theorem aIt:ac Tryz.prog 47 (HE.aI au5 aIu):=aAD _ _ λx oy _ ho=>by
 rw [<-ho]
 clear ho
 obtain ⟨⟨c,⟨X,Y,i⟩,⟨⟩⟩,⟨⟩⟩:=x
 show _=(OT.ok ⟨xB,((onB c (X,Y,i),()),())⟩:OT HE.Y).run
 unfold onB
 cases hs:al c
 ·exact OT.ar hs
 ·refine (OT.ap hs).trans ?_
  cases i
  ·refine (OT.ar rfl).trans ((OT.ap hs).trans ?_)
   cases hx:Nat.blt X.nat (pS c)
   ·exact OT.ar hx
   ·refine (OT.ap hx).trans ?_
    cases hy:Nat.blt Y.nat (pS c)
    ·exact OT.ar hy
    ·refine (OT.ap hy).trans ((OT.ap hs).trans ((ah ?_).trans rfl))
     simp only [List.all_cons,List.all_nil,Bool.and_true]
     exact hs
  ·exact OT.ap rfl
theorem Tz {c:Int} {P:Pt} (h:onB c P=true):al c=true:=by
 unfold onB at h
 cases hs:al c
 ·rw [hs] at h;cases h
 ·rfl
def UJ:cj:=(HE.aI au5 aIu)
theorem au6:ac Tryz.prog 47 UJ:=aIt
theorem au3:aG UJ:=aA
def awp:Env:=ay 47 UJ NT
theorem VF:aR Tryz.prog awp:=ag au6 F6
theorem RQ:ax awp:=ae au3 Ho
theorem awo:aW Tryz.prog te awp:=aK follows aq VF RQ
def je:aw:=⟨[.val true (.prod .elem (.prod .elem .elem))],[],true,0,false⟩
abbrev Fa:Type:=(((aa×(aa×aa)))×Unit)×(Unit)
def L9:az:=⟨[.val false .bool],[],false⟩
def Q5:SV->Option az:=λ_=>some L9
def UN (a0:(aa×(aa×aa))):OT je.Y:=
 (.ok ⟨L9,((a0.snd.snd.w0==(0:UInt64)&&(a0.snd.snd.w1==(0:UInt64)&&(a0.snd.snd.w2==(0:UInt64)&&(a0.snd.snd.w3==(0:UInt64)&&true))),()),())⟩)
theorem aAJ (x:Fa) (Q:je.Y->Prop):wpf te awp av 1000 Tryz.f120 (je.inp.inj x).tm (je.inp.inj x).hp (fnK je Q5 Q) (λ_ _=>False)=(UN (x.1.1)).wpR Q:=by kernel_rfl
theorem aer (pre:Fa->Bool) (F:Fa->OT je.Y) (hF:∀ (x:Fa) oy,pre x=true->(F x).run=some oy->(UN (x.1.1)).run=some oy):ac Tryz.prog 120 (je.aI pre F):=
 aD aq VF awo (f:=120) (fn:=Tryz.f120) (c:=aj Tryz.f120) (by kernel_rfl) (by kernel_rfl) (by kernel_rfl) (S:=je) (k:=0) (by kernel_rfl) (λR hR=>af) (n:=1000) (sel:=Q5) (λv o h=>by cases h;rfl) (pre:=pre) (F:=F) (T:=λx=>UN (x.1.1)) (λx Q=>aAJ x Q) hF
abbrev RA:Type:=aa×(aa×aa)
def Q6 (_:Fa):Bool:=true
def aj9 (x:Fa):OT je.Y:=.ok ⟨L9,((bQ x.1.1.2.2,()),())⟩
theorem avd:ac Tryz.prog 120 (je.aI Q6 aj9):=aer _ _ λx oy hp ho=>by
 rw [<-ho]
 rfl
def zd:cj:=(je.aI Q6 aj9)
theorem Zs:ac Tryz.prog 120 zd:=avd
theorem Zr:aG zd:=aA
def C5:Env:=ay 120 zd awp
theorem zG:aR Tryz.prog C5:=ag Zs VF
theorem C4:ax C5:=ae Zr RQ
theorem aaN:aW Tryz.prog te C5:=aK follows aq zG C4
def jb:aw:=⟨[.val true (.prod .elem (.prod .elem .bool))],[],true,0,false⟩
abbrev E7:Type:=(((aa×(aa×Bool)))×Unit)×(Unit)
def BP:az:=⟨[.val true (.prod .elem (.prod .elem .elem))],[],false⟩
def QZ:SV->Option az:=λ_=>some BP
def UF (a0:(aa×(aa×Bool))):OT jb.Y:=
 let z0:aa:= {w0:=0,w1:=0,w2:=0,w3:=0}
 (.br (a0.snd.snd)
 (.ok ⟨BP,(((z0,z0,z0),()),())⟩)
 (.ok ⟨BP,(((a0.fst,a0.snd.fst,{w0:=1,w1:=0,w2:=0,w3:=0}),()),())⟩))
theorem aAB (x:E7) (Q:jb.Y->Prop):wpf te C5 av 1000 Tryz.f82 (jb.inp.inj x).tm (jb.inp.inj x).hp (fnK jb QZ Q) (λ_ _=>False)=(UF (x.1.1)).wpR Q:=by kernel_rfl
theorem aem (pre:E7->Bool) (F:E7->OT jb.Y) (hF:∀ (x:E7) oy,pre x=true->(F x).run=some oy->(UF (x.1.1)).run=some oy):ac Tryz.prog 82 (jb.aI pre F):=
 aD aq zG aaN (f:=82) (fn:=Tryz.f82) (c:=aj Tryz.f82) (by kernel_rfl) (by kernel_rfl) (by kernel_rfl) (S:=jb) (k:=0) (by kernel_rfl) (λR hR=>af) (n:=1000) (sel:=QZ) (λv o h=>by cases h;rfl) (pre:=pre) (F:=F) (T:=λx=>UF (x.1.1)) (λx Q=>aAB x Q) hF
def lg (P:Pt):RA:=cond P.2.2 (⟨0,0,0,0⟩,⟨0,0,0,0⟩,⟨0,0,0,0⟩) (P.1,P.2.1,⟨1,0,0,0⟩)
def Q0 (_:E7):Bool:=true
def aj2 (x:E7):OT jb.Y:=.ok ⟨BP,((lg x.1.1,()),())⟩
theorem auY:ac Tryz.prog 82 (jb.aI Q0 aj2):=aem _ _ λx oy hp ho=>by
 rw [<-ho]
 clear ho
 obtain ⟨⟨⟨X,Y,i⟩,⟨⟩⟩,⟨⟩⟩:=x
 cases i<;>rfl
def zb:cj:=(jb.aI Q0 aj2)
theorem Zi:ac Tryz.prog 82 zb:=auY
theorem Zh:aG zb:=aA
def C1:Env:=ay 82 zb C5
theorem zE:aR Tryz.prog C1:=ag Zi zG
theorem C0:ax C1:=ae Zh C4
theorem aaJ:aW Tryz.prog te C1:=aK follows aq zE C0
def ub:aw:=⟨[.val false .int,.val true .elem,.val true .elem],[],true,0,false⟩
abbrev an5:Type:=((Int)×(aa)×(aa)×Unit)×(Unit)
def UM:az:=⟨[.val true .elem],[],false⟩
def aj7:SV->Option az:=λ_=>some UM
def ava (a0:Int) (a1:aa) (a2:aa):OT ub.Y:=
 (.br (al a0)
 (.ok ⟨UM,((bO (pS a0) a1 a2,()),())⟩)
 (.ok ⟨UM,(({w0:=0,w1:=0,w2:=0,w3:=0},()),())⟩))
theorem aIw (x:an5) (Q:ub.Y->Prop):wpf te C1 av 1000 Tryz.f122 (ub.inp.inj x).tm (ub.inp.inj x).hp (fnK ub aj7 Q) (λ_ _=>False)=(ava (x.1.1) (x.1.2.1) (x.1.2.2.1)).wpR Q:=by kernel_rfl
theorem au9 (pre:an5->Bool) (F:an5->OT ub.Y) (hF:∀ (x:an5) oy,pre x=true->(F x).run=some oy->(ava (x.1.1) (x.1.2.1) (x.1.2.2.1)).run=some oy):ac Tryz.prog 122 (ub.aI pre F):=
 aD aq zE aaJ (f:=122) (fn:=Tryz.f122) (c:=aj Tryz.f122) (by kernel_rfl) (by kernel_rfl) (by kernel_rfl) (S:=ub) (k:=0) (by kernel_rfl) (λR hR=>af) (n:=1000) (sel:=aj7) (λv o h=>by cases h;rfl) (pre:=pre) (F:=F) (T:=λx=>ava (x.1.1) (x.1.2.1) (x.1.2.2.1)) (λx Q=>aIw x Q) hF
def bJ (x:an5):Bool:=al x.1.1
def aCc (x:an5):OT ub.Y:=.ok ⟨UM,((bO (pS x.1.1) x.1.2.1 x.1.2.2.1,()),())⟩
theorem aGg:ac Tryz.prog 122 (ub.aI bJ aCc):=au9 _ _ λx oy hp ho=>by
 rw [<-ho]
 clear ho
 obtain ⟨⟨s,a,b,⟨⟩⟩,⟨⟩⟩:=x
 have hs:al s=true:=hp
 exact (OT.ap hs).trans rfl
def L8:cj:=(ub.aI bJ aCc)
theorem an4:ac Tryz.prog 122 L8:=aGg
theorem an3:aG L8:=aA
def aaM:Env:=ay 122 L8 C1
theorem NO:aR Tryz.prog aaM:=ag an4 zE
theorem NP:ax aaM:=ae an3 C0
theorem aoS:aW Tryz.prog te aaM:=aK follows aq NO NP
def tX:aw:=⟨[.val false .int,.val true .elem,.val true .elem],[],true,0,false⟩
abbrev anY:Type:=((Int)×(aa)×(aa)×Unit)×(Unit)
def UH:az:=⟨[.val true .elem],[],false⟩
def aj4:SV->Option az:=λ_=>some UH
def au1 (a0:Int) (a1:aa) (a2:aa):OT tX.Y:=
 (.br (al a0)
 (.ok ⟨UH,((IX (pS a0) a1 a2,()),())⟩)
 (.ok ⟨UH,(({w0:=0,w1:=0,w2:=0,w3:=0},()),())⟩))
theorem aIs (x:anY) (Q:tX.Y->Prop):wpf te aaM av 1000 Tryz.f123 (tX.inp.inj x).tm (tX.inp.inj x).hp (fnK tX aj4 Q) (λ_ _=>False)=(au1 (x.1.1) (x.1.2.1) (x.1.2.2.1)).wpR Q:=by kernel_rfl
theorem au0 (pre:anY->Bool) (F:anY->OT tX.Y) (hF:∀ (x:anY) oy,pre x=true->(F x).run=some oy->(au1 (x.1.1) (x.1.2.1) (x.1.2.2.1)).run=some oy):ac Tryz.prog 123 (tX.aI pre F):=
 aD aq NO aoS (f:=123) (fn:=Tryz.f123) (c:=aj Tryz.f123) (by kernel_rfl) (by kernel_rfl) (by kernel_rfl) (S:=tX) (k:=0) (by kernel_rfl) (λR hR=>af) (n:=1000) (sel:=aj4) (λv o h=>by cases h;rfl) (pre:=pre) (F:=F) (T:=λx=>au1 (x.1.1) (x.1.2.1) (x.1.2.2.1)) (λx Q=>aIs x Q) hF
def jd (x:anY):Bool:=al x.1.1
def aCb (x:anY):OT tX.Y:=.ok ⟨UH,((IX (pS x.1.1) x.1.2.1 x.1.2.2.1,()),())⟩
theorem aGb:ac Tryz.prog 123 (tX.aI jd aCb):=au0 _ _ λx oy hp ho=>by
 rw [<-ho]
 clear ho
 obtain ⟨⟨s,a,b,⟨⟩⟩,⟨⟩⟩:=x
 have hs:al s=true:=hp
 exact (OT.ap hs).trans rfl
def L4:cj:=(tX.aI jd aCb)
theorem anX:ac Tryz.prog 123 L4:=aGb
theorem anW:aG L4:=aA
def aaL:Env:=ay 123 L4 aaM
theorem NL:aR Tryz.prog aaL:=ag anX NO
theorem NM:ax aaL:=ae anW NP
theorem aoR:aW Tryz.prog te aaL:=aK follows aq NL NM
def jc:aw:=⟨[.val false .int,.val true .elem,.val false .u64],[],true,0,false⟩
abbrev E8:Type:=((Int)×(aa)×(UInt64)×Unit)×(Unit)
def L3:az:=⟨[.val true .elem],[],false⟩
def Q1:SV->Option az:=λ_=>some L3
def UG (a0:Int) (a1:aa) (a2:UInt64):OT jc.Y:=
 let z0:aa:= {w0:=a2,w1:=0,w2:=0,w3:=0}
 (gd [bJ ((a0,a1,z0,()),())] (.ok ⟨L3,((bO (pS a0) a1 z0,()),())⟩))
theorem aAC (x:E8) (Q:jc.Y->Prop):wpf te aaL av 1000 Tryz.f124 (jc.inp.inj x).tm (jc.inp.inj x).hp (fnK jc Q1 Q) (λ_ _=>False)=(UG (x.1.1) (x.1.2.1) (x.1.2.2.1)).wpR Q:=by kernel_rfl
theorem aen (pre:E8->Bool) (F:E8->OT jc.Y) (hF:∀ (x:E8) oy,pre x=true->(F x).run=some oy->(UG (x.1.1) (x.1.2.1) (x.1.2.2.1)).run=some oy):ac Tryz.prog 124 (jc.aI pre F):=
 aD aq NL aoR (f:=124) (fn:=Tryz.f124) (c:=aj Tryz.f124) (by kernel_rfl) (by kernel_rfl) (by kernel_rfl) (S:=jc) (k:=0) (by kernel_rfl) (λR hR=>af) (n:=1000) (sel:=Q1) (λv o h=>by cases h;rfl) (pre:=pre) (F:=F) (T:=λx=>UG (x.1.1) (x.1.2.1) (x.1.2.2.1)) (λx Q=>aAC x Q) hF
def nY (p:Nat) (a:aa) (n:UInt64):aa:=bO p a ⟨n,0,0,0⟩
def ib (x:E8):Bool:=al x.1.1
def aj3 (x:E8):OT jc.Y:=.ok ⟨L3,((nY (pS x.1.1) x.1.2.1 x.1.2.2.1,()),())⟩
theorem auZ:ac Tryz.prog 124 (jc.aI ib aj3):=aen _ _ λx oy hp ho=>by
 rw [<-ho]
 clear ho
 obtain ⟨⟨s,a,b,⟨⟩⟩,⟨⟩⟩:=x
 have hs:al s=true:=hp
 refine (ah ?_).trans rfl
 simp only [List.all_cons,List.all_nil,Bool.and_true]
 exact hs
def zc:cj:=(jc.aI ib aj3)
theorem Zk:ac Tryz.prog 124 zc:=auZ
theorem Zj:aG zc:=aA
def C3:Env:=ay 124 zc aaL
theorem zF:aR Tryz.prog C3:=ag Zk NL
theorem C2:ax C3:=ae Zj NM
theorem aaK:aW Tryz.prog te C3:=aK follows aq zF C2
def fe:aw:=⟨[.val false .int,.val true (.prod .elem (.prod .elem .elem))],[],true,0,false⟩
abbrev wu:Type:=((Int)×((aa×(aa×aa)))×Unit)×(Unit)
def jJ:az:=⟨[.val true (.prod .elem (.prod .elem .bool))],[],false⟩
def L5:SV->Option az:=λ_=>some jJ
def L6 (a0:Int) (a1:(aa×(aa×aa))):OT fe.Y:=
 let z0:aa:= {w0:=0,w1:=0,w2:=0,w3:=0}
 let z1:Nat:=pS a0
 let z2:aa×PUnit:=(z0,())
 let z3:Bool:=bJ ((a0,z0,z2),())
 let z4:aa:=bO z1 z0 z0
 let z5:Bool:=bJ ((a0,a1.fst,z4,()),())
 let z6:Bool:=bJ ((a0,z4,z2),())
 let z7:aa:=bO z1 z4 z0
 let z8:Bool:=bJ ((a0,a1.snd.fst,z7,()),())
 let z9:aa×aa×Bool:=(bO z1 a1.fst z4,bO z1 a1.snd.fst z7,false)
 let z10:aa:=aHZ z1 a1.snd.snd
 let z11:aa×PUnit:=(z10,())
 let z12:aa:=bO z1 z10 z10
 let z13:aa:=bO z1 z12 z10
 (.br (bQ a1.snd.snd)
 (.ok ⟨jJ,(((z0,z0,true),()),())⟩)
 (.br (al a0)
  (.br (Nat.beq (aa.nat a1.snd.snd%z1) 0)
   (gd [z3,z5,z6,z8] (.ok ⟨jJ,((z9,()),())⟩))
   (gd [bJ ((a0,z10,z11),()),bJ ((a0,a1.fst,z12,()),()),bJ ((a0,z12,z11),()),bJ ((a0,a1.snd.fst,z13,()),())] (.ok ⟨jJ,(((bO z1 a1.fst z12,bO z1 a1.snd.fst z13,false),()),())⟩)))
  (gd [z3,z5,z6,z8] (.ok ⟨jJ,((z9,()),())⟩))))
theorem au7 (x:wu) (Q:fe.Y->Prop):wpf te C3 av 1000 Tryz.f80 (fe.inp.inj x).tm (fe.inp.inj x).hp (fnK fe L5 Q) (λ_ _=>False)=(L6 (x.1.1) (x.1.2.1)).wpR Q:=by kernel_rfl
theorem Zn (pre:wu->Bool) (F:wu->OT fe.Y) (hF:∀ (x:wu) oy,pre x=true->(F x).run=some oy->(L6 (x.1.1) (x.1.2.1)).run=some oy):ac Tryz.prog 80 (fe.aI pre F):=
 aD aq zF aaK (f:=80) (fn:=Tryz.f80) (c:=aj Tryz.f80) (by kernel_rfl) (by kernel_rfl) (by kernel_rfl) (S:=fe) (k:=0) (by kernel_rfl) (λR hR=>af) (n:=1000) (sel:=L5) (λv o h=>by cases h;rfl) (pre:=pre) (F:=F) (T:=λx=>L6 (x.1.1) (x.1.2.1)) (λx Q=>au7 x Q) hF
def aJF (p:Nat) (a:aa):aa:=cond (Nat.beq (a.nat%p) 0) ⟨0,0,0,0⟩ (aHZ p a)
def aE6 (p:Nat) (x y i:aa):Pt:=(bO p x (bO p i i),bO p y (bO p (bO p i i) i),false)
def nQ (p:Nat) (w:RA):Pt:=cond (bQ w.2.2) cB (aE6 p w.1 w.2.1 (aJF p w.2.2))
def mj (x:wu):Bool:=al x.1.1
def Zo (x:wu):OT fe.Y:=.ok ⟨jJ,((nQ (pS x.1.1) x.1.2.1,()),())⟩
theorem an1:ac Tryz.prog 80 (fe.aI mj Zo):=Zn _ _ λx oy hp ho=>by
 rw [<-ho]
 clear ho
 obtain ⟨⟨c,⟨X,Y,Z⟩,⟨⟩⟩,⟨⟩⟩:=x
 have hs:al c=true:=hp
 show _=(OT.ok ⟨jJ,((nQ (pS c) (X,Y,Z),()),())⟩:OT fe.Y).run
 unfold nQ
 dsimp only
 cases hz:bQ Z
 ·refine (OT.ar hz).trans ((OT.ap hs).trans ?_)
  unfold aJF
  cases hb:Nat.beq (Z.nat%pS c) 0
  ·refine (OT.ar rfl).trans ((ah ?_).trans rfl)
   simp only [List.all_cons,List.all_nil,Bool.and_true,Bool.and_eq_true]
   exact ⟨hs,hs,hs,hs⟩
  ·refine (OT.ap rfl).trans ((ah ?_).trans rfl)
   simp only [List.all_cons,List.all_nil,Bool.and_true,Bool.and_eq_true]
   exact ⟨hs,hs,hs,hs⟩
 ·exact OT.ap hz
def ua:cj:=(fe.aI mj Zo)
theorem UL:ac Tryz.prog 80 ua:=an1
theorem UK:aG ua:=aA
def uW:Env:=ay 80 ua C3
theorem uV:aR Tryz.prog uW:=ag UL zF
theorem xV:ax uW:=ae UK C2
theorem VG:aW Tryz.prog te uW:=aK follows aq uV xV
def ff:aw:=⟨[.val false .int,.val true (.prod .elem (.prod .elem .elem))],[],true,0,false⟩
abbrev wy:Type:=((Int)×((aa×(aa×aa)))×Unit)×(Unit)
def pu:az:=⟨[.val true (.prod .elem (.prod .elem .elem))],[],false⟩
def Mc:SV->Option az:=λ_=>some pu
def Md (a0:Int) (a1:(aa×(aa×aa))):OT ff.Y:=
 let z0:Nat:=pS a0
 let z1:aa:=bO z0 a1.snd.fst a1.snd.fst
 let z2:aa×PUnit:=(z1,())
 let z3:aa:=bO z0 a1.fst z1
 let z4:aa:=bO z0 a1.fst a1.fst
 let z5:aa:=nY z0 z4 (3:UInt64)
 let z6:aa:=nY z0 z3 (4:UInt64)
 let z7:UInt64×PUnit:=((2:UInt64),())
 let z8:aa:=bO z0 z5 z5
 let z9:aa:=nY z0 z6 (2:UInt64)
 let z10:aa:=IX z0 z8 z9
 let z11:aa:=IX z0 z6 z10
 let z12:aa:=bO z0 z1 z1
 let z13:aa:=bO z0 z5 z11
 let z14:aa:=nY z0 z12 (8:UInt64)
 let z15:aa:=bO z0 a1.snd.fst a1.snd.snd
 (.br (bQ a1.snd.snd)
 (.ok ⟨pu,((a1,()),())⟩)
 (gd [bJ ((a0,a1.snd.fst,a1.snd.fst,()),()),bJ ((a0,a1.fst,z2),()),ib ((a0,z3,(4:UInt64),()),()),bJ ((a0,a1.fst,a1.fst,()),()),ib ((a0,z4,(3:UInt64),()),()),bJ ((a0,z5,z5,()),()),ib ((a0,z6,z7),()),jd ((a0,z8,z9,()),()),jd ((a0,z6,z10,()),()),bJ ((a0,z5,z11,()),()),bJ ((a0,z1,z2),()),ib ((a0,z12,(8:UInt64),()),()),jd ((a0,z13,z14,()),()),bJ ((a0,a1.snd.fst,a1.snd.snd,()),()),ib ((a0,z15,z7),())] (.ok ⟨pu,(((z10,IX z0 z13 z14,nY z0 z15 (2:UInt64)),()),())⟩)))
theorem avj (x:wy) (Q:ff.Y->Prop):wpf te uW av 1000 Tryz.f83 (ff.inp.inj x).tm (ff.inp.inj x).hp (fnK ff Mc Q) (λ_ _=>False)=(Md (x.1.1) (x.1.2.1)).wpR Q:=by kernel_rfl
theorem Zt (pre:wy->Bool) (F:wy->OT ff.Y) (hF:∀ (x:wy) oy,pre x=true->(F x).run=some oy->(Md (x.1.1) (x.1.2.1)).run=some oy):ac Tryz.prog 83 (ff.aI pre F):=
 aD aq uV VG (f:=83) (fn:=Tryz.f83) (c:=aj Tryz.f83) (by kernel_rfl) (by kernel_rfl) (by kernel_rfl) (S:=ff) (k:=0) (by kernel_rfl) (λR hR=>af) (n:=1000) (sel:=Mc) (λv o h=>by cases h;rfl) (pre:=pre) (F:=F) (T:=λx=>Md (x.1.1) (x.1.2.1)) (λx Q=>avj x Q) hF
def aJQ (p:Nat) (x y z:aa):RA:=
 let yy:=bO p y y
 let s:=nY p (bO p x yy) 4
 let m:=nY p (bO p x x) 3
 let x':=IX p (bO p m m) (nY p s 2)
 (x',IX p (bO p m (IX p s x')) (nY p (bO p yy yy) 8),nY p (bO p y z) 2)
def awt (p:Nat) (w:RA):RA:=cond (bQ w.2.2) w (aJQ p w.1 w.2.1 w.2.2)
def rg (x:wy):Bool:=al x.1.1
def Zu (x:wy):OT ff.Y:=.ok ⟨pu,((awt (pS x.1.1) x.1.2.1,()),())⟩
theorem aob:ac Tryz.prog 83 (ff.aI rg Zu):=Zt _ _ λx oy hp ho=>by
 rw [<-ho]
 clear ho
 obtain ⟨⟨c,⟨X,Y,Z⟩,⟨⟩⟩,⟨⟩⟩:=x
 have hs:al c=true:=hp
 show _=(OT.ok ⟨pu,((awt (pS c) (X,Y,Z),()),())⟩:OT ff.Y).run
 unfold awt
 dsimp only
 cases hz:bQ Z
 ·refine (OT.ar hz).trans ((ah ?_).trans rfl)
  simp only [List.all_cons,List.all_nil,Bool.and_true,Bool.and_eq_true]
  exact ⟨hs,hs,hs,hs,hs,hs,hs,hs,hs,hs,hs,hs,hs,hs,hs⟩
 ·exact OT.ap hz
def uf:cj:=(ff.aI rg Zu)
theorem UQ:ac Tryz.prog 83 uf:=aob
theorem UP:aG uf:=aA
def uY:Env:=ay 83 uf uW
theorem uX:aR Tryz.prog uY:=ag UQ uV
theorem xW:ax uY:=ae UP xV
theorem VH:aW Tryz.prog te uY:=aK follows aq uX xW
def kv:aw:=⟨[.val false .int,.val true (.prod .elem (.prod .elem .elem)),.val true (.prod .elem (.prod .elem .elem))],[],true,0,false⟩
abbrev Rd:Type:=((Int)×((aa×(aa×aa)))×((aa×(aa×aa)))×Unit)×(Unit)
def nz:az:=⟨[.val true (.prod .elem (.prod .elem .elem))],[],false⟩
def ZB:SV->Option az:=λ_=>some nz
def aeB (a0:Int) (a1:(aa×(aa×aa))) (a2:(aa×(aa×aa))):OT kv.Y:=
 let z0:aa×PUnit:=(a1.snd.snd,())
 let z1:aa×PUnit:=(a2.snd.snd,())
 let z2:Nat:=pS a0
 let z3:aa:=bO z2 a2.snd.snd a2.snd.snd
 let z4:aa:=bO z2 a1.snd.snd a1.snd.snd
 let z5:aa:=bO z2 z3 a2.snd.snd
 let z6:aa:=bO z2 z4 a1.snd.snd
 let z7:aa:=bO z2 a2.fst z4
 let z8:aa:=bO z2 a1.fst z3
 let z9:aa:=bO z2 a2.snd.fst z6
 let z10:aa:=bO z2 a1.snd.fst z5
 let z11:aa:=IX z2 z7 z8
 let z12:aa:=IX z2 z9 z10
 let z13:aa:= {w0:=0,w1:=0,w2:=0,w3:=0}
 let z14:aa×PUnit:=(z11,())
 let z15:aa:=bO z2 z11 z11
 let z16:aa:=bO z2 z12 z12
 let z17:aa:=bO z2 z15 z11
 let z18:aa×PUnit:=(z17,())
 let z19:aa:=bO z2 z8 z15
 let z20:aa:=IX z2 z16 z17
 let z21:aa:=nY z2 z19 (2:UInt64)
 let z22:aa:=IX z2 z20 z21
 let z23:aa:=IX z2 z19 z22
 let z24:aa:=bO z2 z12 z23
 let z25:aa:=bO z2 z10 z17
 let z26:aa:=bO z2 a1.snd.snd a2.snd.snd
 (.br (bQ a1.snd.snd)
 (.ok ⟨nz,((a2,()),())⟩)
 (.br (bQ a2.snd.snd)
  (.ok ⟨nz,((a1,()),())⟩)
  (gd [bJ ((a0,a1.snd.snd,z0),()),bJ ((a0,a2.snd.snd,z1),()),bJ ((a0,a1.fst,z3,()),()),bJ ((a0,a2.fst,z4,()),()),bJ ((a0,z3,z1),()),bJ ((a0,a1.snd.fst,z5,()),()),bJ ((a0,z4,z0),()),bJ ((a0,a2.snd.fst,z6,()),()),jd ((a0,z7,z8,()),()),jd ((a0,z9,z10,()),())] (.br (z11.w0==(0:UInt64)&&(z11.w1==(0:UInt64)&&(z11.w2==(0:UInt64)&&(z11.w3==(0:UInt64)&&true))))
   (.br (z12.w0==(0:UInt64)&&(z12.w1==(0:UInt64)&&(z12.w2==(0:UInt64)&&(z12.w3==(0:UInt64)&&true))))
    (gd [rg ((a0,a1,()),())] (.ok ⟨nz,((awt z2 a1,()),())⟩))
    (.ok ⟨nz,(((z13,z13,z13),()),())⟩))
   (gd [bJ ((a0,z11,z14),()),bJ ((a0,z15,z14),()),bJ ((a0,z8,z15,()),()),bJ ((a0,z12,z12,()),()),jd ((a0,z16,z18),()),ib ((a0,z19,(2:UInt64),()),()),jd ((a0,z20,z21,()),()),jd ((a0,z19,z22,()),()),bJ ((a0,z12,z23,()),()),bJ ((a0,z10,z18),()),jd ((a0,z24,z25,()),()),bJ ((a0,a1.snd.snd,z1),()),bJ ((a0,z11,z26,()),())] (.ok ⟨nz,(((z22,IX z2 z24 z25,bO z2 z11 z26),()),())⟩))))))
theorem aGl (x:Rd) (Q:kv.Y->Prop):wpf te uY av 1000 Tryz.f81 (kv.inp.inj x).tm (kv.inp.inj x).hp (fnK kv ZB Q) (λ_ _=>False)=(aeB (x.1.1) (x.1.2.1) (x.1.2.2.1)).wpR Q:=by kernel_rfl
theorem aoh (pre:Rd->Bool) (F:Rd->OT kv.Y) (hF:∀ (x:Rd) oy,pre x=true->(F x).run=some oy->(aeB (x.1.1) (x.1.2.1) (x.1.2.2.1)).run=some oy):ac Tryz.prog 81 (kv.aI pre F):=
 aD aq uX VH (f:=81) (fn:=Tryz.f81) (c:=aj Tryz.f81) (by kernel_rfl) (by kernel_rfl) (by kernel_rfl) (S:=kv) (k:=0) (by kernel_rfl) (λR hR=>af) (n:=1000) (sel:=ZB) (λv o h=>by cases h;rfl) (pre:=pre) (F:=F) (T:=λx=>aeB (x.1.1) (x.1.2.1) (x.1.2.2.1)) (λx Q=>aGl x Q) hF
def aJS (p:Nat) (u s h r Z1 Z2:aa):RA:=
 let hh:=bO p h h
 let hhh:=bO p hh h
 let c:=bO p u hh
 let x:=IX p (IX p (bO p r r) hhh) (nY p c 2)
 (x,IX p (bO p r (IX p c x)) (bO p s hhh),bO p h (bO p Z1 Z2))
def aJH (p:Nat) (w:RA) (u s h r Z2:aa):RA:=cond (bQ h) (cond (bQ r) (awt p w) (⟨0,0,0,0⟩,⟨0,0,0,0⟩,⟨0,0,0,0⟩)) (aJS p u s h r w.2.2 Z2)
def aJI (p:Nat) (w v:RA):RA:=
 let pz:=bO p w.2.2 w.2.2
 let qz:=bO p v.2.2 v.2.2
 let u:=bO p w.1 qz
 let s:=bO p w.2.1 (bO p qz v.2.2)
 aJH p w u s (IX p (bO p v.1 pz) u) (IX p (bO p v.2.1 (bO p pz w.2.2)) s) v.2.2
def aBl (p:Nat) (w v:RA):RA:=cond (bQ w.2.2) v (cond (bQ v.2.2) w (aJI p w v))
def BT (x:Rd):Bool:=al x.1.1
def avq (x:Rd):OT kv.Y:=.ok ⟨nz,((aBl (pS x.1.1) x.1.2.1 x.1.2.2.1,()),())⟩
theorem aAN:ac Tryz.prog 81 (kv.aI BT avq):=aoh _ _ λx oy hp ho=>by
 rw [<-ho]
 clear ho
 obtain ⟨⟨c,⟨X,Y,Z⟩,⟨X2,Y2,Z2⟩,⟨⟩⟩,⟨⟩⟩:=x
 have hs:al c=true:=hp
 show _=(OT.ok ⟨nz,((aBl (pS c) (X,Y,Z) (X2,Y2,Z2),()),())⟩:OT kv.Y).run
 unfold aBl
 dsimp only
 cases hz:bQ Z
 ·refine (OT.ar hz).trans ?_
  cases hz2:bQ Z2
  ·refine (OT.ar rfl).trans ((ah ?_).trans ?_)
   ·simp only [List.all_cons,List.all_nil,Bool.and_true,Bool.and_eq_true]
    exact ⟨hs,hs,hs,hs,hs,hs,hs,hs,hs,hs⟩
   ·unfold aJI aJH
    dsimp only [cond_false]
    cases hh:bQ (IX (pS c) (bO (pS c) X2 (bO (pS c) Z Z)) (bO (pS c) X (bO (pS c) Z2 Z2)))
    ·refine (OT.ar hh).trans ((ah ?_).trans rfl)
     simp only [List.all_cons,List.all_nil,Bool.and_true,Bool.and_eq_true]
     exact ⟨hs,hs,hs,hs,hs,hs,hs,hs,hs,hs,hs,hs,hs⟩
    ·refine (OT.ap hh).trans ?_
     dsimp only [cond_true]
     cases hr:bQ (IX (pS c) (bO (pS c) Y2 (bO (pS c) (bO (pS c) Z Z) Z)) (bO (pS c) Y (bO (pS c) (bO (pS c) Z2 Z2) Z2)))
     ·exact OT.ar hr
     ·refine (OT.ap hr).trans ((ah ?_).trans rfl)
      simp only [List.all_cons,List.all_nil,Bool.and_true]
      exact hs
  ·exact OT.ap rfl
 ·exact OT.ap hz
def Ff:cj:=(kv.aI BT avq)
theorem aeA:ac Tryz.prog 81 Ff:=aAN
theorem aez:aG Ff:=aA
def NV:Env:=ay 81 Ff uY
theorem F7:aR Tryz.prog NV:=ag aeA uX
theorem Hq:ax NV:=ae aez xW
theorem afz:aW Tryz.prog te NV:=aK follows aq F7 Hq
def rS:aw:=⟨[.val false .int,.val true (.prod .elem (.prod .elem .bool)),.val true (.prod .elem (.prod .elem .bool))],[],true,0,false⟩
abbrev aog:Type:=((Int)×((aa×(aa×Bool)))×((aa×(aa×Bool)))×Unit)×(Unit)
def Fe:az:=⟨[.val true (.prod .elem (.prod .elem .bool))],[],false⟩
def akf:SV->Option az:=λ_=>some Fe
def avp (a0:Int) (a1:(aa×(aa×Bool))) (a2:(aa×(aa×Bool))):OT rS.Y:=
 let z0:aa:= {w0:=0,w1:=0,w2:=0,w3:=0}
 let z1:aa×aa×Bool:=(z0,z0,true)
 let z2:aa×aa×aa:=lg a1
 let z3:aa×aa×aa:=lg a2
 let z4:Nat:=pS a0
 let z5:aa×aa×aa:=aBl z4 z2 z3
 (.br (!onB a0 a1)
 (.ok ⟨Fe,((z1,()),())⟩)
 (.br (!onB a0 a2)
  (.ok ⟨Fe,((z1,()),())⟩)
  (gd [BT ((a0,z2,z3,()),()),mj ((a0,z5,()),())] (.ok ⟨Fe,((nQ z4 z5,()),())⟩))))
theorem aIz (x:aog) (Q:rS.Y->Prop):wpf te NV av 1000 Tryz.f44 (rS.inp.inj x).tm (rS.inp.inj x).hp (fnK rS akf Q) (λ_ _=>False)=(avp (x.1.1) (x.1.2.1) (x.1.2.2.1)).wpR Q:=by kernel_rfl
theorem avo (pre:aog->Bool) (F:aog->OT rS.Y) (hF:∀ (x:aog) oy,pre x=true->(F x).run=some oy->(avp (x.1.1) (x.1.2.1) (x.1.2.2.1)).run=some oy):ac Tryz.prog 44 (rS.aI pre F):=
 aD aq F7 afz (f:=44) (fn:=Tryz.f44) (c:=aj Tryz.f44) (by kernel_rfl) (by kernel_rfl) (by kernel_rfl) (S:=rS) (k:=0) (by kernel_rfl) (λR hR=>af) (n:=1000) (sel:=akf) (λv o h=>by cases h;rfl) (pre:=pre) (F:=F) (T:=λx=>avp (x.1.1) (x.1.2.1) (x.1.2.2.1)) (λx Q=>aIz x Q) hF
def kS (c:Int) (P Q:Pt):Pt:=cond (onB c P) (cond (onB c Q) (nQ (pS c) (aBl (pS c) (lg P) (lg Q))) cB) cB
def akg (_:aog):Bool:=true
def aCe (x:aog):OT rS.Y:=.ok ⟨Fe,((kS x.1.1 x.1.2.1 x.1.2.2.1,()),())⟩
theorem aGk:ac Tryz.prog 44 (rS.aI akg aCe):=avo _ _ λx oy _ ho=>by
 rw [<-ho]
 clear ho
 obtain ⟨⟨c,P,Q,⟨⟩⟩,⟨⟩⟩:=x
 show _=(OT.ok ⟨Fe,((kS c P Q,()),())⟩:OT rS.Y).run
 rcases (Bool.eq_false_or_eq_true (onB c P)).symm with h1|h1
 ·have e:kS c P Q=cB:=by unfold kS;rw [h1];rfl
  rw [e]
  exact OT.ap (b:= !onB c P) (by rw [h1];rfl)
 ·have hs:=Tz h1
  refine (OT.ar (b:= !onB c P) (by rw [h1];rfl)).trans ?_
  rcases (Bool.eq_false_or_eq_true (onB c Q)).symm with h2|h2
  ·have e:kS c P Q=cB:=by unfold kS;rw [h1,h2];rfl
   rw [e]
   exact OT.ap (b:= !onB c Q) (by rw [h2];rfl)
  ·have e:kS c P Q=nQ (pS c) (aBl (pS c) (lg P) (lg Q)):=by unfold kS;rw [h1,h2];rfl
   rw [e]
   refine (OT.ar (b:= !onB c Q) (by rw [h2];rfl)).trans ((ah ?_).trans rfl)
   simp only [List.all_cons,List.all_nil,Bool.and_true,Bool.and_eq_true]
   exact ⟨hs,hs⟩
def Mg:cj:=(rS.aI akg aCe)
theorem aof:ac Tryz.prog 44 Mg:=aGk
theorem aoe:aG Mg:=aA
def RS:Env:=ay 44 Mg NV
theorem Da:aR Tryz.prog RS:=ag aof F7
theorem NU:ax RS:=ae aoe Hq
theorem RR:aW Tryz.prog te RS:=aK follows aq Da NU
def ku:aw:=⟨[.val false .int,.val true .elem,.val true (.prod .elem (.prod .elem .bool))],[],true,0,false⟩
abbrev Q4:Type:=((Int)×(aa)×((aa×(aa×Bool)))×Unit)×(Unit)
def BQ:Shape:=⟨39,[(4,.ptr 0 0 0),(5,.ptr 1 0 0),(6,.ptr 2 0 0),(7,.val false .int),(8,.ptr 3 0 0),(9,.val false .int)],[(0,.row .u64),(1,.cells [.val false .u64,.val false .u64,.val false .u64,.val false .u64,.val false .u64,.val false .u64,.val false .u64,.val false .u64,.val false .bool]),(2,.cells [.val false .u64,.val false .u64,.val false .u64,.val false .u64,.val false .u64,.val false .u64,.val false .u64,.val false .u64,.val false .bool]),(3,.cells [.val false .u64,.val false .u64,.val false .u64,.val false .u64,.val false .u64,.val false .u64,.val false .u64,.val false .u64,.val false .u64,.val false .u64,.val false .u64,.val false .u64])],0,true⟩
abbrev cV:Type:=((Unit)×(Unit)×(Unit)×(Int)×(Unit)×(Int)×Unit)×((List (UInt64))×((UInt64)×(UInt64)×(UInt64)×(UInt64)×(UInt64)×(UInt64)×(UInt64)×(UInt64)×(Bool)×Unit)×((UInt64)×(UInt64)×(UInt64)×(UInt64)×(UInt64)×(UInt64)×(UInt64)×(UInt64)×(Bool)×Unit)×((UInt64)×(UInt64)×(UInt64)×(UInt64)×(UInt64)×(UInt64)×(UInt64)×(UInt64)×(UInt64)×(UInt64)×(UInt64)×(UInt64)×Unit)×Unit)
def ww:Shape:=⟨39,[(6,.ptr 0 0 0),(7,.val false .int),(8,.ptr 1 0 0)],[(0,.cells [.val false .u64,.val false .u64,.val false .u64,.val false .u64,.val false .u64,.val false .u64,.val false .u64,.val false .u64,.val false .bool]),(1,.cells [.val false .u64,.val false .u64,.val false .u64,.val false .u64,.val false .u64,.val false .u64,.val false .u64,.val false .u64,.val false .u64,.val false .u64,.val false .u64,.val false .u64])],0,true⟩
abbrev ml:Type:=((Unit)×(Int)×(Unit)×Unit)×(((UInt64)×(UInt64)×(UInt64)×(UInt64)×(UInt64)×(UInt64)×(UInt64)×(UInt64)×(Bool)×Unit)×((UInt64)×(UInt64)×(UInt64)×(UInt64)×(UInt64)×(UInt64)×(UInt64)×(UInt64)×(UInt64)×(UInt64)×(UInt64)×(UInt64)×Unit)×Unit)
def aj5:SE->Option Shape:=fw [(0,ww)] none
def aAH (a7:Int) (a9:Int) (c0:List (UInt64)) (c1_0:UInt64) (c1_1:UInt64) (c1_2:UInt64) (c1_3:UInt64) (c1_4:UInt64) (c1_5:UInt64) (c1_6:UInt64) (c1_7:UInt64) (c1_8:Bool) (c2_0:UInt64) (c2_1:UInt64) (c2_2:UInt64) (c2_3:UInt64) (c2_4:UInt64) (c2_5:UInt64) (c2_6:UInt64) (c2_7:UInt64) (c2_8:Bool) (c3_0:UInt64) (c3_1:UInt64) (c3_2:UInt64) (c3_3:UInt64) (c3_4:UInt64) (c3_5:UInt64) (c3_6:UInt64) (c3_7:UInt64) (c3_8:UInt64) (c3_9:UInt64) (c3_10:UInt64) (c3_11:UInt64):OT (Sum cV aE):=
 let z0:aa×aa×aa:=({w0:=c3_0,w1:=c3_1,w2:=c3_2,w3:=c3_3},{w0:=c3_4,w1:=c3_5,w2:=c3_6,w3:=c3_7},{w0:=c3_8,w1:=c3_9,w2:=c3_10,w3:=c3_11})
 let z1:Nat:=pS a7
 let z2:aa×aa×aa:=awt z1 z0
 let z3:aa×aa×aa:=lg ({w0:=c1_0,w1:=c1_1,w2:=c1_2,w3:=c1_3},{w0:=c1_4,w1:=c1_5,w2:=c1_6,w3:=c1_7},c1_8)
 let z4:Bool:=inR (a9-(1:Int))
 let z5:aa×aa×aa:=aBl z1 z2 z3
 let z6:=z5.fst
 let z7:=z5.snd
 let z8:=z7.fst
 let z9:=z7.snd
 let z10:=z2.fst
 let z11:=z2.snd
 let z12:=z11.fst
 let z13:=z11.snd
 (.br (decide ((0:Int)<=a9))
 (gd [rg ((a7,z0,()),()),decide (4<=List.length c0)] (.br (xC {w0:=List.getD c0 0 0,w1:=List.getD c0 1 0,w2:=List.getD c0 2 0,w3:=List.getD c0 3 0} a9)
  (gd [BT ((a7,z2,z3,()),()),z4] (.ok (.inl (((),((),((),(a7,((),(a9-(1:Int),())))))),(c0,((c1_0,(c1_1,(c1_2,(c1_3,(c1_4,(c1_5,(c1_6,(c1_7,(c1_8,()))))))))),((c2_0,(c2_1,(c2_2,(c2_3,(c2_4,(c2_5,(c2_6,(c2_7,(c2_8,()))))))))),((z6.w0,(z6.w1,(z6.w2,(z6.w3,(z8.w0,(z8.w1,(z8.w2,(z8.w3,(z9.w0,(z9.w1,(z9.w2,(z9.w3,())))))))))))),()))))))))
  (gd [z4] (.ok (.inl (((),((),((),(a7,((),(a9-(1:Int),())))))),(c0,((c1_0,(c1_1,(c1_2,(c1_3,(c1_4,(c1_5,(c1_6,(c1_7,(c1_8,()))))))))),((c2_0,(c2_1,(c2_2,(c2_3,(c2_4,(c2_5,(c2_6,(c2_7,(c2_8,()))))))))),((z10.w0,(z10.w1,(z10.w2,(z10.w3,(z12.w0,(z12.w1,(z12.w2,(z12.w3,(z13.w0,(z13.w1,(z13.w2,(z13.w3,())))))))))))),()))))))))))
 (.ok (.inr ⟨(.exit 0,ww),(((),(a7,((),()))),((c2_0,(c2_1,(c2_2,(c2_3,(c2_4,(c2_5,(c2_6,(c2_7,(c2_8,()))))))))),((c3_0,(c3_1,(c3_2,(c3_3,(c3_4,(c3_5,(c3_6,(c3_7,(c3_8,(c3_9,(c3_10,(c3_11,())))))))))))),())))⟩)))
def BR (s:cV):OT (Sum cV aE):=aAH (s.1.2.2.2.1) (s.1.2.2.2.2.2.1) (s.2.1) (s.2.2.1.1) (s.2.2.1.2.1) (s.2.2.1.2.2.1) (s.2.2.1.2.2.2.1) (s.2.2.1.2.2.2.2.1) (s.2.2.1.2.2.2.2.2.1) (s.2.2.1.2.2.2.2.2.2.1) (s.2.2.1.2.2.2.2.2.2.2.1) (s.2.2.1.2.2.2.2.2.2.2.2.1) (s.2.2.2.1.1) (s.2.2.2.1.2.1) (s.2.2.2.1.2.2.1) (s.2.2.2.1.2.2.2.1) (s.2.2.2.1.2.2.2.2.1) (s.2.2.2.1.2.2.2.2.2.1) (s.2.2.2.1.2.2.2.2.2.2.1) (s.2.2.2.1.2.2.2.2.2.2.2.1) (s.2.2.2.1.2.2.2.2.2.2.2.2.1) (s.2.2.2.2.1.1) (s.2.2.2.2.1.2.1) (s.2.2.2.2.1.2.2.1) (s.2.2.2.2.1.2.2.2.1) (s.2.2.2.2.1.2.2.2.2.1) (s.2.2.2.2.1.2.2.2.2.2.1) (s.2.2.2.2.1.2.2.2.2.2.2.1) (s.2.2.2.2.1.2.2.2.2.2.2.2.1) (s.2.2.2.2.1.2.2.2.2.2.2.2.2.1) (s.2.2.2.2.1.2.2.2.2.2.2.2.2.2.1) (s.2.2.2.2.1.2.2.2.2.2.2.2.2.2.2.1) (s.2.2.2.2.1.2.2.2.2.2.2.2.2.2.2.2.1)
theorem aAE (s:cV) (Q:Sum cV aE->Prop):wps te RS av 1000 (aU (aj Tryz.f45) 0) (BQ.inj s) (bX BQ aj5 (Q:Sum BQ.T aE->Prop))=(BR s).wpR Q:=by kernel_rfl
def Io (g0_0:cV->ml) (s:cV):OT aE:=(.ok ⟨(.exit 0,ww),g0_0 s⟩)
def wv:az:=⟨[.val true (.prod .elem (.prod .elem .bool))],[],false⟩
def Zp:SV->Option az:=λ_=>some wv
def aeq (ok0:cV->Bool) (g0_0:cV->ml) (a0:Int) (a1:aa) (a2:(aa×(aa×Bool))):OT ku.Y:=
 let z0:aa:= {w0:=0,w1:=0,w2:=0,w3:=0}
 let z1:Int:=aHY a0 (1:Int)
 let z2:PUnit×PUnit×PUnit×Int×PUnit×Int×PUnit:=((),(),(),a0,(),(255:Int),())
 let z3:aa:=Fy (pS z1) a1 z0
 let z4:(UInt64×UInt64×UInt64×UInt64×UInt64×UInt64×UInt64×UInt64×Bool×PUnit)×(UInt64×UInt64×UInt64×UInt64×UInt64×UInt64×UInt64×UInt64×Bool×PUnit)×(UInt64×UInt64×UInt64×UInt64×UInt64×UInt64×UInt64×UInt64×UInt64×UInt64×UInt64×UInt64×PUnit)×PUnit:=((a2.fst.w0,a2.fst.w1,a2.fst.w2,a2.fst.w3,a2.snd.fst.w0,a2.snd.fst.w1,a2.snd.fst.w2,a2.snd.fst.w3,a2.snd.snd,()),((0:UInt64),(0:UInt64),(0:UInt64),(0:UInt64),(0:UInt64),(0:UInt64),(0:UInt64),(0:UInt64),false,()),((0:UInt64),(0:UInt64),(0:UInt64),(0:UInt64),(0:UInt64),(0:UInt64),(0:UInt64),(0:UInt64),(0:UInt64),(0:UInt64),(0:UInt64),(0:UInt64),()),())
 let z5:(PUnit×PUnit×PUnit×Int×PUnit×Int×PUnit)×List UInt64×(UInt64×UInt64×UInt64×UInt64×UInt64×UInt64×UInt64×UInt64×Bool×PUnit)×(UInt64×UInt64×UInt64×UInt64×UInt64×UInt64×UInt64×UInt64×Bool×PUnit)×(UInt64×UInt64×UInt64×UInt64×UInt64×UInt64×UInt64×UInt64×UInt64×UInt64×UInt64×UInt64×PUnit)×PUnit:=(z2,[z3.w0,z3.w1,z3.w2,z3.w3],z4)
 let z6:(PUnit×Int×PUnit×PUnit)×(UInt64×UInt64×UInt64×UInt64×UInt64×UInt64×UInt64×UInt64×Bool×PUnit)×(UInt64×UInt64×UInt64×UInt64×UInt64×UInt64×UInt64×UInt64×UInt64×UInt64×UInt64×UInt64×PUnit)×PUnit:=g0_0 z5
 let z7:=z6.fst.snd.fst
 let z8:=z6.snd.snd.fst
 let z9:=z8.snd
 let z10:=z9.snd
 let z11:=z10.snd
 let z12:=z11.snd
 let z13:=z12.snd
 let z14:=z13.snd
 let z15:=z14.snd
 let z16:=z15.snd
 let z17:=z16.snd
 let z18:=z17.snd
 let z19:aa×aa×aa:=({w0:=z8.fst,w1:=z9.fst,w2:=z10.fst,w3:=z11.fst},{w0:=z12.fst,w1:=z13.fst,w2:=z14.fst,w3:=z15.fst},{w0:=z16.fst,w1:=z17.fst,w2:=z18.fst,w3:=z18.snd.fst})
 let z20:(PUnit×PUnit×PUnit×Int×PUnit×Int×PUnit)×List UInt64×(UInt64×UInt64×UInt64×UInt64×UInt64×UInt64×UInt64×UInt64×Bool×PUnit)×(UInt64×UInt64×UInt64×UInt64×UInt64×UInt64×UInt64×UInt64×Bool×PUnit)×(UInt64×UInt64×UInt64×UInt64×UInt64×UInt64×UInt64×UInt64×UInt64×UInt64×UInt64×UInt64×PUnit)×PUnit:=(z2,[(0:UInt64),(0:UInt64),(0:UInt64),(0:UInt64)],z4)
 let z21:(PUnit×Int×PUnit×PUnit)×(UInt64×UInt64×UInt64×UInt64×UInt64×UInt64×UInt64×UInt64×Bool×PUnit)×(UInt64×UInt64×UInt64×UInt64×UInt64×UInt64×UInt64×UInt64×UInt64×UInt64×UInt64×UInt64×PUnit)×PUnit:=g0_0 z20
 let z22:=z21.fst.snd.fst
 let z23:=z21.snd.snd.fst
 let z24:=z23.snd
 let z25:=z24.snd
 let z26:=z25.snd
 let z27:=z26.snd
 let z28:=z27.snd
 let z29:=z28.snd
 let z30:=z29.snd
 let z31:=z30.snd
 let z32:=z31.snd
 let z33:=z32.snd
 let z34:aa×aa×aa:=({w0:=z23.fst,w1:=z24.fst,w2:=z25.fst,w3:=z26.fst},{w0:=z27.fst,w1:=z28.fst,w2:=z29.fst,w3:=z30.fst},{w0:=z31.fst,w1:=z32.fst,w2:=z33.fst,w3:=z33.snd.fst})
 (.br (!onB a0 a2)
 (.ok ⟨wv,(((z0,z0,true),()),())⟩)
 (.br (al z1)
  (gd [ok0 z5,mj ((z7,z19,()),())] (.ok ⟨wv,((nQ (pS z7) z19,()),())⟩))
  (gd [ok0 z20,mj ((z22,z34,()),())] (.ok ⟨wv,((nQ (pS z22) z34,()),())⟩))))
theorem aGf (ok0:cV->Bool) (g0_0:cV->ml) (x:Q4) (Q:ku.Y->Prop):wpf te RS (aO 0 (cg BQ 0 ok0 (Io g0_0)) av) 1000 Tryz.f45 (ku.inp.inj x).tm (ku.inp.inj x).hp (fnK ku Zp Q) (λ_ _=>False)=(aeq ok0 g0_0 (x.1.1) (x.1.2.1) (x.1.2.2.1)).wpR Q:=by kernel_rfl
theorem an2 (ok0:cV->Bool) (g0_0:cV->ml) (h0:∀ s:cV,ok0 s=true->∃ m e,ao (BR) m s=some e/\(Io g0_0 s).run=some e) (pre:Q4->Bool) (F:Q4->OT ku.Y) (hF:∀ (x:Q4) oy,pre x=true->(F x).run=some oy->(aeq ok0 g0_0 (x.1.1) (x.1.2.1) (x.1.2.2.1)).run=some oy):ac Tryz.prog 45 (ku.aI pre F):=
 aD aq Da RR (f:=45) (fn:=Tryz.f45) (c:=aj Tryz.f45) (by kernel_rfl) (by kernel_rfl) (by kernel_rfl) (S:=ku) (k:=0) (by kernel_rfl) (λR hR=>(aB (c:=(aj Tryz.f45)) (by kernel_rfl) (id:=0) (by kernel_rfl) (aQ aq Da RR (sh:=BQ) hR (xs:=aj5) (aC (by kernel_rfl) (by kernel_rfl) hR) aL af (n:=1000) (T:=BR) (λs Q=>aAE s Q) (ok:=ok0) (f:=Io g0_0) h0) af)) (n:=1000) (sel:=Zp) (λv o h=>by cases h;rfl) (pre:=pre) (F:=F) (T:=λx=>aeq ok0 g0_0 (x.1.1) (x.1.2.1) (x.1.2.2.1)) (λx Q=>aGf ok0 g0_0 x Q) hF
abbrev C9:Type:=UInt64×UInt64×UInt64×UInt64×UInt64×UInt64×UInt64×UInt64×Bool×Unit
def bP (P:Pt):C9:=(P.1.w0,P.1.w1,P.1.w2,P.1.w3,P.2.1.w0,P.2.1.w1,P.2.1.w2,P.2.1.w3,P.2.2,())
abbrev C12:Type:=UInt64×UInt64×UInt64×UInt64×UInt64×UInt64×UInt64×UInt64×UInt64×UInt64×UInt64×UInt64×Unit
def Mb (t:C9):Pt:=(⟨t.1,t.2.1,t.2.2.1,t.2.2.2.1⟩,⟨t.2.2.2.2.1,t.2.2.2.2.2.1,t.2.2.2.2.2.2.1,t.2.2.2.2.2.2.2.1⟩,t.2.2.2.2.2.2.2.2.1)
def aIy (t:C12):RA:=(⟨t.1,t.2.1,t.2.2.1,t.2.2.2.1⟩,⟨t.2.2.2.2.1,t.2.2.2.2.2.1,t.2.2.2.2.2.2.1,t.2.2.2.2.2.2.2.1⟩,⟨t.2.2.2.2.2.2.2.2.1,t.2.2.2.2.2.2.2.2.2.1,t.2.2.2.2.2.2.2.2.2.2.1,t.2.2.2.2.2.2.2.2.2.2.2.1⟩)
def aFM (w:RA):C12:=(w.1.w0,w.1.w1,w.1.w2,w.1.w3,w.2.1.w0,w.2.1.w1,w.2.1.w2,w.2.1.w3,w.2.2.w0,w.2.2.w1,w.2.2.w2,w.2.2.w3,())
def yR (p:Nat) (k:aa) (P:RA) (n:Nat) (w:RA):RA:=cond (xC k (255-(n:Int))) (aBl p (awt p w) P) (awt p w)
def L7 (s:cV):Bool:=al s.1.2.2.2.1&&decide (s.1.2.2.2.2.2.1=255/\s.2.1.length=4)
def aj6 (s:cV):ml:=(((),s.1.2.2.2.1,(),()),(s.2.2.2.1,aFM (upto (yR (pS s.1.2.2.2.1) (elemOf s.2.1) (lg (Mb s.2.2.1))) (aIy s.2.2.2.2.1) 256),()))
theorem aAG:∀ s:cV,L7 s=true->∃ m e,ao BR m s=some e/\(Io aj6 s).run=some e:=by
 rintro ⟨⟨⟨⟩,⟨⟩,⟨⟩,c,⟨⟩,i,⟨⟩⟩,⟨l,⟨p0,p1,p2,p3,p4,p5,p6,p7,p8,⟨⟩⟩,⟨q0,q1,q2,q3,q4,q5,q6,q7,q8,⟨⟩⟩,⟨w0,w1,w2,w3,w4,w5,w6,w7,w8,w9,w10,w11,⟨⟩⟩,⟨⟩⟩⟩ h
 simp only [L7,Bool.and_eq_true,decide_eq_true_eq] at h
 obtain ⟨hs,rfl,hl⟩:=h
 obtain ⟨k,rfl⟩:∃ a,l=lst a:=⟨elemOf l,(aS hl).symm⟩
 have:=(aP (T:=BR) (λn w=>((((),(),(),c,(),255-(n:Int),()),(lst k,(p0,p1,p2,p3,p4,p5,p6,p7,p8,()),(q0,q1,q2,q3,q4,q5,q6,q7,q8,()),aFM w,())):cV)) (yR (pS c) k (lg (Mb (p0,p1,p2,p3,p4,p5,p6,p7,p8,()))))
  (λw=>(⟨(.exit 0,ww),(((),c,(),()),((q0,q1,q2,q3,q4,q5,q6,q7,q8,()),aFM w,()))⟩:aE)) 256 (aIy (w0,w1,w2,w3,w4,w5,w6,w7,w8,w9,w10,w11,())) (λ_ _=>True) trivial (λn w hn _=>⟨?_,trivial⟩) (λw _=> ?_)).1
 ·obtain ⟨m,hm⟩:=this
  exact ⟨m,_,hm,rfl⟩
 ·have e2:(255:Int)-(n:Int)-1=255-((n+1:Nat):Int):=by omega
  refine (OT.ap (decide_eq_true (by dsimp only;omega))).trans ((ah ?_).trans ?_)
  ·simp only [List.all_cons,List.all_nil,Bool.and_true,Bool.and_eq_true]
   exact ⟨hs,rfl⟩
  ·rcases (Bool.eq_false_or_eq_true (xC k (255-(n:Int)))).symm with hb|hb
   ·have e:yR (pS c) k (lg (Mb (p0,p1,p2,p3,p4,p5,p6,p7,p8,()))) n w=awt (pS c) w:=by unfold yR;rw [hb];rfl
    rw [e,<-e2]
    refine (OT.ar hb).trans ((ah ?_).trans rfl)
    simp only [List.all_cons,List.all_nil,Bool.and_true]
    exact aH (by omega)
   ·have e:yR (pS c) k (lg (Mb (p0,p1,p2,p3,p4,p5,p6,p7,p8,()))) n w=aBl (pS c) (awt (pS c) w) (lg (Mb (p0,p1,p2,p3,p4,p5,p6,p7,p8,()))):=by unfold yR;rw [hb];rfl
    rw [e,<-e2]
    refine (OT.ap hb).trans ((ah ?_).trans rfl)
    simp only [List.all_cons,List.all_nil,Bool.and_true,Bool.and_eq_true]
    exact ⟨hs,aH (by omega)⟩
 ·exact OT.ar (decide_eq_false (by dsimp only;omega))
def aI2:RA:=(⟨0,0,0,0⟩,⟨0,0,0,0⟩,⟨0,0,0,0⟩)
def aJB (p:Nat) (k:aa) (P:RA):RA:=upto (yR p k P) aI2 256
def abv (c:Int) (k:aa):aa:=Fy (pS (aHY c 1)) k ⟨0,0,0,0⟩
def X7 (c:Int) (k:aa) (P:Pt):Pt:=cond (onB c P) (nQ (pS c) (aJB (pS c) (abv c k) (lg P))) cB
theorem O8 {c:Int} (h:al c=true):al (aHY c 1)=true:=by
 rcases ck h with rfl|rfl|rfl|rfl<;>decide+kernel
def Zq (_:Q4):Bool:=true
def au8 (x:Q4):OT ku.Y:=.ok ⟨wv,((X7 x.1.1 x.1.2.1 x.1.2.2.1,()),())⟩
theorem aAF:ac Tryz.prog 45 (ku.aI Zq au8):=an2 L7 aj6 aAG _ _ λx oy _ ho=>by
 rw [<-ho]
 clear ho
 obtain ⟨⟨c,k,P,⟨⟩⟩,⟨⟩⟩:=x
 show _=(OT.ok ⟨wv,((X7 c k P,()),())⟩:OT ku.Y).run
 rcases (Bool.eq_false_or_eq_true (onB c P)).symm with h1|h1
 ·have e:X7 c k P=cB:=by unfold X7;rw [h1];rfl
  rw [e]
  exact OT.ap (b:= !onB c P) (by rw [h1];rfl)
 ·have hs:=Tz h1
  have e:X7 c k P=nQ (pS c) (aJB (pS c) (abv c k) (lg P)):=by unfold X7;rw [h1];rfl
  rw [e]
  refine (OT.ar (b:= !onB c P) (by rw [h1];rfl)).trans ((OT.ap (O8 hs)).trans ((ah ?_).trans ?_))
  ·simp only [List.all_cons,List.all_nil,Bool.and_true,Bool.and_eq_true]
   refine ⟨?_,hs⟩
   refine (Bool.and_eq_true _ _).mpr ⟨hs,?_⟩
   exact decide_eq_true (p:=(255:Int)=255/\(lst (abv c k)).length=4) ⟨rfl,rfl⟩
  ·rfl
def E9:cj:=(ku.aI Zq au8)
theorem aep:ac Tryz.prog 45 E9:=aAF
theorem aeo:aG E9:=aA
def NN:Env:=ay 45 E9 RS
theorem F4:aR Tryz.prog NN:=ag aep Da
theorem Hn:ax NN:=ae aeo NU
theorem afx:aW Tryz.prog te NN:=aK follows aq F4 Hn
def iv:aw:=⟨[.val false .int],[],true,0,false⟩
abbrev Gi:Type:=((Int)×Unit)×(Unit)
def kG:az:=⟨[.val true .elem,.val false .int],[],false⟩
def W3:SV->Option az:=λ_=>some kG
def acj (a0:Int):OT iv.Y:=
 (.br (a0==(0:Int))
 (.ok ⟨kG,(({w0:=16513537,w1:=0,w2:=0,w3:=0},((0:Int),())),())⟩)
 (.br (a0==(1:Int))
  (.ok ⟨kG,(({w0:=16521217,w1:=0,w2:=0,w3:=0},((0:Int),())),())⟩)
  (.br (a0==(2:Int))
   (.ok ⟨kG,(({w0:=11037532056220336129,w1:=2469829653914515739,w2:=0,w3:=4611686018427387904},((0:Int),())),())⟩)
   (.br (a0==(3:Int))
    (.ok ⟨kG,(({w0:=10108024940646105089,w1:=2469829653919213789,w2:=0,w3:=4611686018427387904},((0:Int),())),())⟩)
    (.ok ⟨kG,(({w0:=0,w1:=0,w2:=0,w3:=0},((20:Int),())),())⟩)))))
theorem aEE (x:Gi) (Q:iv.Y->Prop):wpf te NN av 1000 Tryz.f92 (iv.inp.inj x).tm (iv.inp.inj x).hp (fnK iv W3 Q) (λ_ _=>False)=(acj (x.1.1)).wpR Q:=by kernel_rfl
theorem alw (pre:Gi->Bool) (F:Gi->OT iv.Y) (hF:∀ (x:Gi) oy,pre x=true->(F x).run=some oy->(acj (x.1.1)).run=some oy):ac Tryz.prog 92 (iv.aI pre F):=
 aD aq F4 afx (f:=92) (fn:=Tryz.f92) (c:=aj Tryz.f92) (by kernel_rfl) (by kernel_rfl) (by kernel_rfl) (S:=iv) (k:=0) (by kernel_rfl) (λR hR=>af) (n:=1000) (sel:=W3) (λv o h=>by cases h;rfl) (pre:=pre) (F:=F) (T:=λx=>acj (x.1.1)) (λx Q=>aEE x Q) hF
def W4 (_:Gi):Bool:=true
def ase (x:Gi):OT iv.Y:=.br (al x.1.1) (.ok ⟨kG,(((aX x.1.1.toNat).1,((0:Int),())),())⟩) (.ok ⟨kG,((⟨0,0,0,0⟩,((20:Int),())),())⟩)
theorem aip:ac Tryz.prog 92 (iv.aI W4 ase):=alw _ _ λx oy _ ho=>by
 rw [<-ho]
 clear ho
 obtain ⟨⟨s,⟨⟩⟩,⟨⟩⟩:=x
 cases hs:al s
 ·obtain ⟨h0,h1,h2,h3⟩:=u5 hs
  exact (OT.ar h0).trans ((OT.ar h1).trans ((OT.ar h2).trans ((OT.ar h3).trans (OT.ar (b:=al s) hs).symm)))
 ·rcases ck hs with h|h|h|h
  all_goals
   have h:s=_:=h
   subst h
   rfl
def D0:cj:=(iv.aI W4 ase)
theorem aci:ac Tryz.prog 92 D0:=aip
theorem ach:aG D0:=aA
def M3:Env:=ay 92 D0 NN
theorem FJ:aR Tryz.prog M3:=ag aci F4
theorem GZ:ax M3:=ae ach Hn
theorem afm:aW Tryz.prog te M3:=aK follows aq FJ GZ
def iB:aw:=⟨[.val false .int],[],true,0,false⟩
abbrev Gp:Type:=((Int)×Unit)×(Unit)
def qE:az:=⟨[.val false .int,.val false .int],[],false⟩
def Xj:SV->Option az:=λ_=>some qE
def acH (a0:Int):OT iB.Y:=
 (.br (decide (a0<(0:Int)))
 (.ok ⟨qE,(((0:Int),((20:Int),())),())⟩)
 (.br (decide ((3:Int)<a0))
  (.ok ⟨qE,(((0:Int),((20:Int),())),())⟩)
  (gd [inB a0 4,decide (Int.toNat a0+0<4)] (.ok ⟨qE,((List.getD [(9:Int),(11:Int),(32:Int),(32:Int)] (Int.toNat a0+0) (0:Int),((0:Int),())),())⟩))))
theorem aEI (x:Gp) (Q:iB.Y->Prop):wpf te M3 av 1000 Tryz.f131 (iB.inp.inj x).tm (iB.inp.inj x).hp (fnK iB Xj Q) (λ_ _=>False)=(acH (x.1.1)).wpR Q:=by kernel_rfl
theorem alL (pre:Gp->Bool) (F:Gp->OT iB.Y) (hF:∀ (x:Gp) oy,pre x=true->(F x).run=some oy->(acH (x.1.1)).run=some oy):ac Tryz.prog 131 (iB.aI pre F):=
 aD aq FJ afm (f:=131) (fn:=Tryz.f131) (c:=aj Tryz.f131) (by kernel_rfl) (by kernel_rfl) (by kernel_rfl) (S:=iB) (k:=0) (by kernel_rfl) (λR hR=>af) (n:=1000) (sel:=Xj) (λv o h=>by cases h;rfl) (pre:=pre) (F:=F) (T:=λx=>acH (x.1.1)) (λx Q=>aEI x Q) hF
def Xk (_:Gp):Bool:=true
def asq (x:Gp):OT iB.Y:=.br (al x.1.1) (.ok ⟨qE,(((aX x.1.1.toNat).2.1,((0:Int),())),())⟩) (.ok ⟨qE,(((0:Int),((20:Int),())),())⟩)
theorem aix:ac Tryz.prog 131 (iB.aI Xk asq):=alL _ _ λx oy _ ho=>by
 rw [<-ho]
 clear ho
 obtain ⟨⟨s,⟨⟩⟩,⟨⟩⟩:=x
 rcases (Bool.eq_false_or_eq_true (al s)).symm with hs|hs
 ·refine Eq.trans ?_ (OT.ar (b:=al s) hs).symm
  by_cases h0:s<0
  ·exact OT.ap (decide_eq_true h0)
  ·refine (OT.ar (decide_eq_false h0)).trans (OT.ap (decide_eq_true ?_))
   show (3:Int)<s
   simp only [al,Bool.and_eq_false_iff,decide_eq_false_iff_not] at hs
   omega
 ·rcases ck hs with h|h|h|h
  all_goals
   have h:s=_:=h
   subst h
   rfl
def Ea:cj:=(iB.aI Xk asq)
theorem acG:ac Tryz.prog 131 Ea:=aix
theorem acF:aG Ea:=aA
def M8:Env:=ay 131 Ea M3
theorem FO:aR Tryz.prog M8:=ag acG FJ
theorem G4:ax M8:=ae acF GZ
theorem afo:aW Tryz.prog te M8:=aK follows aq FO G4
def kh:aw:=⟨[.val false .int],[],true,0,false⟩
abbrev PG:Type:=((Int)×Unit)×(Unit)
def AV:az:=⟨[.val false .u64],[],false⟩
def W6:SV->Option az:=λ_=>some AV
def acn (a0:Int):OT kh.Y:=
 (.br (a0==(0:Int))
 (.ok ⟨AV,(((16513537:UInt64),()),())⟩)
 (.ok ⟨AV,(((16521217:UInt64),()),())⟩))
theorem aEF (x:PG) (Q:kh.Y->Prop):wpf te M8 av 1000 Tryz.f102 (kh.inp.inj x).tm (kh.inp.inj x).hp (fnK kh W6 Q) (λ_ _=>False)=(acn (x.1.1)).wpR Q:=by kernel_rfl
theorem alB (pre:PG->Bool) (F:PG->OT kh.Y) (hF:∀ (x:PG) oy,pre x=true->(F x).run=some oy->(acn (x.1.1)).run=some oy):ac Tryz.prog 102 (kh.aI pre F):=
 aD aq FO afo (f:=102) (fn:=Tryz.f102) (c:=aj Tryz.f102) (by kernel_rfl) (by kernel_rfl) (by kernel_rfl) (S:=kh) (k:=0) (by kernel_rfl) (λR hR=>af) (n:=1000) (sel:=W6) (λv o h=>by cases h;rfl) (pre:=pre) (F:=F) (T:=λx=>acn (x.1.1)) (λx Q=>aEF x Q) hF
def VN (s:Int):UInt64:=cond (s==0) 16513537 16521217
def W7 (_:PG):Bool:=true
def asg (x:PG):OT kh.Y:=.ok ⟨AV,((VN x.1.1,()),())⟩
theorem azb:ac Tryz.prog 102 (kh.aI W7 asg):=alB _ _ λx oy _ ho=>by
 rw [<-ho]
 clear ho
 obtain ⟨⟨s,⟨⟩⟩,⟨⟩⟩:=x
 show _=(OT.ok ⟨AV,((VN s,()),())⟩:OT kh.Y).run
 unfold VN
 rcases (Bool.eq_false_or_eq_true (s==0)).symm with h|h
 ·rw [h];exact OT.ar h
 ·rw [h];exact OT.ap h
def D2:cj:=(kh.aI W7 asg)
theorem acm:ac Tryz.prog 102 D2:=azb
theorem ack:aG D2:=aA
def FK:Env:=ay 102 D2 M8
theorem wU:aR Tryz.prog FK:=ag acm FO
theorem G0:ax FK:=ae ack G4
theorem M4:aW Tryz.prog te FK:=aK follows aq wU G0
def eC:aw:=⟨[.val true .elem,.val true .elem],[],true,0,false⟩
abbrev vq:Type:=((aa)×(aa)×Unit)×(Unit)
def oB:Shape:=⟨24,[(2,.ptr 0 0 0),(3,.ptr 1 0 0),(5,.val false .int)],[(0,.row .u64),(1,.row .u64)],0,true⟩
abbrev bg:Type:=((Unit)×(Unit)×(Int)×Unit)×((List (UInt64))×(List (UInt64))×Unit)
def j2:Shape:=⟨24,[(4,.val false .bool)],[],0,true⟩
abbrev iz:Type:=((Bool)×Unit)×(Unit)
def mW:Shape:=⟨24,[],[],0,true⟩
abbrev iA:Type:=(Unit)×(Unit)
def PP:SE->Option Shape:=fw [(0,mW)] (some j2)
def alK (a5:Int) (c0:List (UInt64)) (c1:List (UInt64)):OT (Sum bg aE):=
 let z0:Bool:=inB a5 4
 let z1:Bool:=decide (Int.toNat a5+0<List.length c0)
 let z2:Bool:=decide (Int.toNat a5+0<List.length c1)
 let z3:UInt64:=List.getD c0 (Int.toNat a5+0) (0:UInt64)
 let z4:UInt64:=List.getD c1 (Int.toNat a5+0) (0:UInt64)
 (.br (decide ((0:Int)<=a5))
 (gd [z0,z1,z0,z2] (.br (!z3==z4)
  (gd [z0,z1,z0,z2] (.ok (.inr ⟨(.ret,j2),((decide (z3<z4),()),())⟩)))
  (gd [inR (a5-(1:Int))] (.ok (.inl (((),((),(a5-(1:Int),()))),(c0,(c1,()))))))))
 (.ok (.inr ⟨(.exit 0,mW),((),())⟩)))
def gk (s:bg):OT (Sum bg aE):=alK (s.1.2.2.1) (s.2.1) (s.2.2.1)
theorem alH (s:bg) (Q:Sum bg aE->Prop):wps te FK av 1000 (aU (aj Tryz.f99) 0) (oB.inj s) (bX oB PP (Q:Sum oB.T aE->Prop))=(gk s).wpR Q:=by kernel_rfl
def oC (g0_r:bg->iz) (c0_r:bg->Bool) (g0_0:bg->iA) (s:bg):OT aE:=(.br (c0_r s) (.ok ⟨(.ret,j2),g0_r s⟩) (.ok ⟨(.exit 0,mW),g0_0 s⟩))
def kW:az:=⟨[.val false .bool],[],false⟩
def JN:SV->Option az:=λ_=>some kW
def JQ (ok0:bg->Bool) (g0_r:bg->iz) (c0_r:bg->Bool) (g0_0:bg->iA) (a0:aa) (a1:aa):OT eC.Y:=
 let z0:(PUnit×PUnit×Int×PUnit)×List UInt64×List UInt64×PUnit:=(((),(),(3:Int),()),[a0.w0,a0.w1,a0.w2,a0.w3],[a1.w0,a1.w1,a1.w2,a1.w3],())
 (gd [ok0 z0] (.br (c0_r z0)
 (.ok ⟨kW,(((g0_r z0).fst.fst,()),())⟩)
 (.ok ⟨kW,((false,()),())⟩)))
theorem aso (ok0:bg->Bool) (g0_r:bg->iz) (c0_r:bg->Bool) (g0_0:bg->iA) (x:vq) (Q:eC.Y->Prop):wpf te FK (aO 0 (cg oB 0 ok0 (oC g0_r c0_r g0_0)) av) 1000 Tryz.f99 (eC.inp.inj x).tm (eC.inp.inj x).hp (fnK eC JN Q) (λ_ _=>False)=(JQ ok0 g0_r c0_r g0_0 (x.1.1) (x.1.2.1)).wpR Q:=by kernel_rfl
theorem Xf (ok0:bg->Bool) (g0_r:bg->iz) (c0_r:bg->Bool) (g0_0:bg->iA) (h0:∀ s:bg,ok0 s=true->∃ m e,ao (gk) m s=some e/\(oC g0_r c0_r g0_0 s).run=some e) (pre:vq->Bool) (F:vq->OT eC.Y) (hF:∀ (x:vq) oy,pre x=true->(F x).run=some oy->(JQ ok0 g0_r c0_r g0_0 (x.1.1) (x.1.2.1)).run=some oy):ac Tryz.prog 99 (eC.aI pre F):=
 aD aq wU M4 (f:=99) (fn:=Tryz.f99) (c:=aj Tryz.f99) (by kernel_rfl) (by kernel_rfl) (by kernel_rfl) (S:=eC) (k:=0) (by kernel_rfl) (λR hR=>(aB (c:=(aj Tryz.f99)) (by kernel_rfl) (id:=0) (by kernel_rfl) (aQ aq wU M4 (sh:=oB) hR (xs:=PP) (aC (by kernel_rfl) (by kernel_rfl) hR) aL af (n:=1000) (T:=gk) (λs Q=>alH s Q) (ok:=ok0) (f:=oC g0_r c0_r g0_0) h0) af)) (n:=1000) (sel:=JN) (λv o h=>by cases h;rfl) (pre:=pre) (F:=F) (T:=λx=>JQ ok0 g0_r c0_r g0_0 (x.1.1) (x.1.2.1)) (λx Q=>aso ok0 g0_r c0_r g0_0 x Q) hF
theorem rR {x y N M:Nat} (hx:x<18446744073709551616) (hy:y<18446744073709551616) (h:¬N=M):(x+18446744073709551616*N<y+18446744073709551616*M ↔ N<M)/\¬x+18446744073709551616*N=y+18446744073709551616*M:=by
 omega
theorem QB {x y N:Nat}:(x+18446744073709551616*N<y+18446744073709551616*N ↔ x<y)/\(¬x=y->¬x+18446744073709551616*N=y+18446744073709551616*N):=by
 omega
theorem uu {n m:Nat} {x y:UInt64} (h:n<m ↔ x.toNat<y.toNat):decide (x<y)=Nat.blt n m:=by
 have h1:Nat.blt n m=true ↔ n<m:=⟨dy,λh=>Nat.ble_eq_true_of_le h⟩
 rw [Bool.eq_iff_iff,decide_eq_true_iff,h1,h,UInt64.lt_iff_toNat_lt]
theorem EB {x y:UInt64} (h:¬x=y):¬x.toNat=y.toNat:=λe=>h (UInt64.toNat_inj.1 e)
def dM (a b:aa) (i:Int):bg:=(((),(),i,()),(lst a,lst b,()))
theorem wB (a b:aa) (k:Nat) (hk:k<4) (h:(lst a).getD k 0=(lst b).getD k 0):(gk (dM a b (k:Int))).run=some (.inl (dM a b ((k:Int)-1))):=by
 refine (OT.ap (decide_eq_true (by dsimp only [dM];omega))).trans ((ah ?_).trans ((OT.ar ?_).trans ((ah ?_).trans rfl)))
 ·simp only [dM,Int.toNat_natCast,Nat.add_zero,cG,List.all_cons,List.all_nil,Bool.and_true,Bool.and_eq_true]
  exact ⟨aN (by omega),decide_eq_true hk,aN (by omega),decide_eq_true hk⟩
 ·simp only [dM,Int.toNat_natCast,Nat.add_zero,h,beq_self_eq_true,Bool.not_true]
 ·simp only [dM,List.all_cons,List.all_nil,Bool.and_true]
  exact aH (by omega)
theorem nA (a b:aa) (k:Nat) (hk:k<4) (h:¬(lst a).getD k 0=(lst b).getD k 0):(gk (dM a b (k:Int))).run=some (.inr ⟨(.ret,j2),((decide ((lst a).getD k 0<(lst b).getD k 0),()),())⟩):=by
 refine (OT.ap (decide_eq_true (by dsimp only [dM];omega))).trans ((ah ?_).trans ((OT.ap ?_).trans ((ah ?_).trans ?_)))
 ·simp only [dM,Int.toNat_natCast,Nat.add_zero,cG,List.all_cons,List.all_nil,Bool.and_true,Bool.and_eq_true]
  exact ⟨aN (by omega),decide_eq_true hk,aN (by omega),decide_eq_true hk⟩
 ·simp only [dM,Int.toNat_natCast,Nat.add_zero,beq_eq_false_iff_ne.2 h,Bool.not_false]
 ·simp only [dM,Int.toNat_natCast,Nat.add_zero,cG,List.all_cons,List.all_nil,Bool.and_true,Bool.and_eq_true]
  exact ⟨aN (by omega),decide_eq_true hk,aN (by omega),decide_eq_true hk⟩
 ·simp only [dM,Int.toNat_natCast,Nat.add_zero]
  rfl
def JP (s:bg):Bool:=decide (s.1.2.2.1=3/\s.2.1.length=4/\s.2.2.1.length=4)
def D7 (s:bg):iz:=((Nat.blt (elemOf s.2.1).nat (elemOf s.2.2.1).nat,()),())
def lR (s:bg):Bool:= !eqE (elemOf s.2.1) (elemOf s.2.2.1)
def D8 (_:bg):iA:=((),())
theorem B2 {a b:aa} (h:¬a=b) {r:Bool} (hr:r=Nat.blt a.nat b.nat) (hm:∃ m,ao gk m (dM a b 3)=some ⟨(.ret,j2),((r,()),())⟩):
 ∃ m e,ao gk m (dM a b 3)=some e/\(oC D7 lR D8 (dM a b 3)).run=some e:=by
 obtain ⟨m,hm⟩:=hm
 refine ⟨m,_,hm,?_⟩
 have hc:lR (dM a b 3)=true:=by
  show (!eqE a b)=true
  rw [Bool.eq_false_iff.2 λe=>h (y8.1 e)]
  rfl
 subst hr
 exact OT.ap hc
theorem alJ:∀ s:bg,JP s=true->∃ m e,ao gk m s=some e/\(oC D7 lR D8 s).run=some e:=by
 rintro ⟨⟨⟨⟩,⟨⟩,i,⟨⟩⟩,⟨l1,l2,⟨⟩⟩⟩ h
 have h':=of_decide_eq_true h
 dsimp only at h'
 obtain ⟨rfl,h1,h2⟩:=h'
 obtain ⟨a,rfl⟩:∃ a,l1=lst a:=⟨elemOf l1,(aS h1).symm⟩
 obtain ⟨b,rfl⟩:∃ a,l2=lst a:=⟨elemOf l2,(aS h2).symm⟩
 have ha0:=a.w0.toNat_lt
 have hb0:=b.w0.toNat_lt
 have ha1:=a.w1.toNat_lt
 have hb1:=b.w1.toNat_lt
 have ha2:=a.w2.toNat_lt
 have hb2:=b.w2.toNat_lt
 by_cases h3:a.w3=b.w3
 ·have s3:=wB a b 3 (by omega) h3
  by_cases h2:a.w2=b.w2
  ·have s2:=wB a b 2 (by omega) h2
   by_cases h1:a.w1=b.w1
   ·have s1:=wB a b 1 (by omega) h1
    by_cases h0:a.w0=b.w0
    ·have s0:=wB a b 0 (by omega) h0
     have e:a=b:=by cases a;cases b;simp_all
     have sx:(gk (dM a b (((0:Nat):Int)-1))).run=some (.inr ⟨(.exit 0,mW),((),())⟩):=OT.ar (decide_eq_false (by dsimp only [dM];omega))
     refine ⟨_,_,aF s3 (aF s2 (aF s1 (aF s0 (aM sx)))),?_⟩
     have hc:lR (((),(),3,()),(lst a,lst b,()))=false:=by
      show (!eqE a b)=false
      rw [e,ajW]
      rfl
     exact OT.ar hc
    ·refine B2 (λe=>h0 (by rw [e])) (uu ?_) ⟨_,aF s3 (aF s2 (aF s1 (aM (nA a b 0 (by omega) h0))))⟩
     show a.nat<b.nat ↔ a.w0.toNat<b.w0.toNat
     unfold Sx.aa.nat
     rw [h3,h2,h1]
     exact QB.1
   ·refine B2 (λe=>h1 (by rw [e])) (uu ?_) ⟨_,aF s3 (aF s2 (aM (nA a b 1 (by omega) h1)))⟩
    show a.nat<b.nat ↔ a.w1.toNat<b.w1.toNat
    unfold Sx.aa.nat
    rw [h3,h2]
    have k:=QB (x:=a.w1.toNat) (y:=b.w1.toNat) (N:=b.w2.toNat+18446744073709551616*b.w3.toNat)
    exact (rR ha0 hb0 (k.2 (EB h1))).1.trans k.1
  ·refine B2 (λe=>h2 (by rw [e])) (uu ?_) ⟨_,aF s3 (aM (nA a b 2 (by omega) h2))⟩
   show a.nat<b.nat ↔ a.w2.toNat<b.w2.toNat
   unfold Sx.aa.nat
   rw [h3]
   have k:=QB (x:=a.w2.toNat) (y:=b.w2.toNat) (N:=b.w3.toNat)
   have k1:=rR ha1 hb1 (k.2 (EB h2))
   exact (rR ha0 hb0 k1.2).1.trans (k1.1.trans k.1)
 ·refine B2 (λe=>h3 (by rw [e])) (uu ?_) ⟨_,aM (nA a b 3 (by omega) h3)⟩
  show a.nat<b.nat ↔ a.w3.toNat<b.w3.toNat
  unfold Sx.aa.nat
  have k2:=rR ha2 hb2 (EB h3)
  have k1:=rR ha1 hb1 k2.2
  exact (rR ha0 hb0 k1.2).1.trans (k1.1.trans k2.1)
def JO (_:vq):Bool:=true
def Xg (x:vq):OT eC.Y:=.ok ⟨kW,((Nat.blt x.1.1.nat x.1.2.1.nat,()),())⟩
theorem alI:ac Tryz.prog 99 (eC.aI JO Xg):=Xf JP D7 lR D8 alJ _ _ λx oy _ ho=>by
 rw [<-ho]
 clear ho
 obtain ⟨⟨a,b,⟨⟩⟩,⟨⟩⟩:=x
 refine (ah ?_).trans ?_
 ·simp only [List.all_cons,List.all_nil,Bool.and_true]
  exact decide_eq_true ⟨rfl,rfl,rfl⟩
 ·rcases (Bool.eq_false_or_eq_true (eqE a b)).symm with h|h
  ·have hc:lR (((),(),3,()),(lst a,lst b,()))=true:=by
    show (!eqE a b)=true
    rw [h]
    rfl
   exact OT.ap hc
  ·have hc:lR (((),(),3,()),(lst a,lst b,()))=false:=by
    show (!eqE a b)=false
    rw [h]
    rfl
   refine (OT.ar hc).trans ?_
   have e:Nat.blt a.nat b.nat=false:=by
    rw [y8.1 h]
    cases hb:Nat.blt b.nat b.nat
    ·rfl
    ·exact absurd (dy hb) (Nat.lt_irrefl _)
   show (OT.ok ⟨kW,((false,()),())⟩:OT eC.Y).run=(OT.ok ⟨kW,((Nat.blt a.nat b.nat,()),())⟩:OT eC.Y).run
   rw [e]
def sQ:cj:=(eC.aI JO Xg)
theorem S5:ac Tryz.prog 99 sQ:=alI
theorem S4:aG sQ:=aA
def pL:Env:=ay 99 sQ FK
theorem nD:aR Tryz.prog pL:=ag S5 wU
theorem xI:ax pL:=ae S4 G0
theorem CD:aW Tryz.prog te pL:=aK follows aq nD xI
def fL:aw:=⟨[.val true .elem,.val true .elem],[],true,0,false⟩
abbrev vm:Type:=((aa)×(aa)×Unit)×(Unit)
def oo:Shape:=⟨39,[(2,.ptr 0 0 0),(3,.ptr 1 0 0),(4,.ptr 2 0 0),(5,.ptr 3 0 0),(6,.val false .u64),(7,.val false .int)],[(0,.row .u64),(1,.row .u64),(2,.row .u64),(3,.row .u64)],0,true⟩
abbrev bU:Type:=((Unit)×(Unit)×(Unit)×(Unit)×(UInt64)×(Int)×Unit)×((List (UInt64))×(List (UInt64))×(List (UInt64))×(List (UInt64))×Unit)
def mT:Shape:=⟨39,[(4,.ptr 0 0 0),(5,.ptr 1 0 0)],[(0,.row .u64),(1,.row .u64)],0,true⟩
abbrev iw:Type:=((Unit)×(Unit)×Unit)×((List (UInt64))×(List (UInt64))×Unit)
def PE:SE->Option Shape:=fw [(0,mT)] none
def alA (a6:UInt64) (a7:Int) (c0:List (UInt64)) (c1:List (UInt64)) (c2:List (UInt64)) (c3:List (UInt64)):OT (Sum bU aE):=
 let z0:Bool:=inB a7 4
 let z1:Bool:=decide (Int.toNat a7+0<List.length c0)
 let z2:Bool:=decide (Int.toNat a7+0<List.length c1)
 let z3:UInt64:=List.getD c0 (Int.toNat a7+0) (0:UInt64)
 let z4:UInt64:=List.getD c1 (Int.toNat a7+0) (0:UInt64)
 let z5:Bool:=inR (a7+(1:Int))
 let z6:UInt64:=z3-z4
 let z7:List UInt64:=List.set c3 (Int.toNat a7+0) (z6-a6)
 (.br (decide (a7<(4:Int)))
 (gd [z0,z1,z0,z2,z0,decide (Int.toNat a7+0<List.length c3),z0,z1,z0,z2] (.br (decide (z3<z4))
  (gd [z5] (.ok (.inl (((),((),((),((),((1:UInt64),(a7+(1:Int),())))))),(c0,(c1,(c2,(z7,()))))))))
  (.br (decide (z6<a6))
   (gd [z5] (.ok (.inl (((),((),((),((),((1:UInt64),(a7+(1:Int),())))))),(c0,(c1,(c2,(z7,()))))))))
   (gd [z5] (.ok (.inl (((),((),((),((),((0:UInt64),(a7+(1:Int),())))))),(c0,(c1,(c2,(z7,())))))))))))
 (.ok (.inr ⟨(.exit 0,mT),(((),((),())),(c2,(c3,())))⟩)))
def oq (s:bU):OT (Sum bU aE):=alA (s.1.2.2.2.2.1) (s.1.2.2.2.2.2.1) (s.2.1) (s.2.2.1) (s.2.2.2.1) (s.2.2.2.2.1)
theorem alx (s:bU) (Q:Sum bU aE->Prop):wps te pL av 1000 (aU (aj Tryz.f103) 0) (oo.inj s) (bX oo PE (Q:Sum oo.T aE->Prop))=(oq s).wpR Q:=by kernel_rfl
def vl (g0_0:bU->iw) (s:bU):OT aE:=(.ok ⟨(.exit 0,mT),g0_0 s⟩)
def D1:az:=⟨[.val true .elem],[],false⟩
def JC:SV->Option az:=λ_=>some D1
def JF (ok0:bU->Bool) (g0_0:bU->iw) (a0:aa) (a1:aa):OT fL.Y:=
 let z0:(PUnit×PUnit×PUnit×PUnit×UInt64×Int×PUnit)×List UInt64×List UInt64×List UInt64×List UInt64×PUnit:=(((),(),(),(),(0:UInt64),(0:Int),()),[a0.w0,a0.w1,a0.w2,a0.w3],[a1.w0,a1.w1,a1.w2,a1.w3],[(0:UInt64),(0:UInt64),(0:UInt64),(0:UInt64)],[(0:UInt64),(0:UInt64),(0:UInt64),(0:UInt64)],())
 let z1:=(g0_0 z0).snd
 let z2:=z1.snd.fst
 let z3:=z1.fst
 let z4:List UInt64:=lay z3 z2 4 (0:UInt64)
 (gd [ok0 z0,decide (4<=List.length z2),decide ((4/1:Nat)+0<=List.length z3),decide (4<=List.length z4)] (.ok ⟨D1,(({w0:=List.getD z4 0 0,w1:=List.getD z4 1 0,w2:=List.getD z4 2 0,w3:=List.getD z4 3 0},()),())⟩))
theorem asf (ok0:bU->Bool) (g0_0:bU->iw) (x:vm) (Q:fL.Y->Prop):wpf te pL (aO 0 (cg oo 0 ok0 (vl g0_0)) av) 1000 Tryz.f103 (fL.inp.inj x).tm (fL.inp.inj x).hp (fnK fL JC Q) (λ_ _=>False)=(JF ok0 g0_0 (x.1.1) (x.1.2.1)).wpR Q:=by kernel_rfl
theorem W5 (ok0:bU->Bool) (g0_0:bU->iw) (h0:∀ s:bU,ok0 s=true->∃ m e,ao (oq) m s=some e/\(vl g0_0 s).run=some e) (pre:vm->Bool) (F:vm->OT fL.Y) (hF:∀ (x:vm) oy,pre x=true->(F x).run=some oy->(JF ok0 g0_0 (x.1.1) (x.1.2.1)).run=some oy):ac Tryz.prog 103 (fL.aI pre F):=
 aD aq nD CD (f:=103) (fn:=Tryz.f103) (c:=aj Tryz.f103) (by kernel_rfl) (by kernel_rfl) (by kernel_rfl) (S:=fL) (k:=0) (by kernel_rfl) (λR hR=>(aB (c:=(aj Tryz.f103)) (by kernel_rfl) (id:=0) (by kernel_rfl) (aQ aq nD CD (sh:=oo) hR (xs:=PE) (aC (by kernel_rfl) (by kernel_rfl) hR) aL af (n:=1000) (T:=oq) (λs Q=>alx s Q) (ok:=ok0) (f:=vl g0_0) h0) af)) (n:=1000) (sel:=JC) (λv o h=>by cases h;rfl) (pre:=pre) (F:=F) (T:=λx=>JF ok0 g0_0 (x.1.1) (x.1.2.1)) (λx Q=>asf ok0 g0_0 x Q) hF
theorem Qu {x y c:UInt64} (hc:c.toNat<=1):x-y-c=qe x y c:=by
 have hx:=x.toNat_lt
 have hy:=y.toNat_lt
 unfold qe
 rw [<-UInt64.toNat_inj,UInt64.toNat_sub,UInt64.toNat_sub,UInt64.toNat_ofNat']
 omega
theorem ai3 {x y c:UInt64} (h:x<y):VM x y c=1:=by
 have h:=UInt64.lt_iff_toNat_lt.1 h
 rw [<-UInt64.toNat_inj,Ad,if_pos (by omega)]
 rfl
theorem ai2 {x y c:UInt64} (h:¬x<y) (hc:x-y<c):VM x y c=1:=by
 have hx:=x.toNat_lt
 have h:¬x.toNat<y.toNat:=λe=>h (UInt64.lt_iff_toNat_lt.2 e)
 have hc:=UInt64.lt_iff_toNat_lt.1 hc
 rw [UInt64.toNat_sub] at hc
 rw [<-UInt64.toNat_inj,Ad,if_pos (by omega)]
 rfl
theorem ai1 {x y c:UInt64} (h:¬x<y) (hc:¬x-y<c):VM x y c=0:=by
 have hx:=x.toNat_lt
 have h:¬x.toNat<y.toNat:=λe=>h (UInt64.lt_iff_toNat_lt.2 e)
 have hc:¬(x-y).toNat<c.toNat:=λe=>hc (UInt64.lt_iff_toNat_lt.2 e)
 rw [UInt64.toNat_sub] at hc
 rw [<-UInt64.toNat_inj,Ad,if_neg (by omega)]
 rfl
def JE (s:bU):Bool:=decide (s.1.2.2.2.2.1=0/\s.1.2.2.2.2.2.1=0/\s.2.1.length=4/\s.2.2.1.length=4/\s.2.2.2.2.1= [0,0,0,0])
def PF (s:bU):iw:=(((),(),()),(s.2.2.2.1,(upto (xj s.2.1 s.2.2.1) ([0,0,0,0],0) 4).1,()))
theorem alz:∀ s:bU,JE s=true->∃ m e,ao oq m s=some e/\(vl PF s).run=some e:=by
 rintro ⟨⟨⟨⟩,⟨⟩,⟨⟩,⟨⟩,c,i,⟨⟩⟩,⟨c0,c1,c2,c3,⟨⟩⟩⟩ h
 have h':=of_decide_eq_true h
 dsimp only at h'
 obtain ⟨rfl,rfl,h0,h1,rfl⟩:=h'
 have:=(aP (T:=oq) (λk s=>((((),(),(),(),s.2,(k:Int),()),(c0,c1,c2,s.1,())):bU)) (xj c0 c1)
  (λs=>(⟨(.exit 0,mT),(((),(),()),(c2,s.1,()))⟩:aE)) 4 ([0,0,0,0],0) (λ_ s=>s.1.length=4/\s.2.toNat<=1) ⟨rfl,by decide⟩ (λk s hk hs=>⟨?_,?_⟩) (λs hs=> ?_)).1
 ·obtain ⟨m,hm⟩:=this
  exact ⟨m,_,hm,rfl⟩
 ·obtain ⟨o,c⟩:=s
  dsimp only at hs
  refine (OT.ap (decide_eq_true (by dsimp only;omega))).trans ((ah ?_).trans ?_)
  ·simp only [Int.toNat_natCast,Nat.add_zero,h0,h1,hs.1,List.all_cons,List.all_nil,Bool.and_true,Bool.and_eq_true]
   exact ⟨aN (by omega),decide_eq_true (by omega),aN (by omega),decide_eq_true (by omega),aN (by omega),decide_eq_true (by omega),aN (by omega),decide_eq_true (by omega),aN (by omega),decide_eq_true (by omega)⟩
  ·have hi:∀ z,(gd [inR ((k:Int)+1)] z:OT (Sum bU aE)).run=z.run:=λz=>ah (by simp only [List.all_cons,List.all_nil,Bool.and_true];exact aH (by omega))
   have hw:=Qu (x:=c0.getD k 0) (y:=c1.getD k 0) hs.2
   by_cases hx:c0.getD k 0<c1.getD k 0
   ·have hk1:=ai3 (c:=c) hx
    refine (OT.ap (decide_eq_true ?_)).trans ((hi _).trans ?_)
    ·simp only [Int.toNat_natCast,Nat.add_zero];exact hx
    ·simp only [OT.cL,Int.toNat_natCast,Nat.add_zero,xj,hw,hk1]
     rfl
   ·refine (OT.ar (decide_eq_false ?_)).trans ?_
    ·simp only [Int.toNat_natCast,Nat.add_zero];exact hx
    ·by_cases hd:c0.getD k 0-c1.getD k 0<c
     ·have hk2:=ai2 hx hd
      refine (OT.ap (decide_eq_true ?_)).trans ((hi _).trans ?_)
      ·simp only [Int.toNat_natCast,Nat.add_zero];exact hd
      ·simp only [OT.cL,Int.toNat_natCast,Nat.add_zero,xj,hw,hk2]
       rfl
     ·have hk3:=ai1 hx hd
      refine (OT.ar (decide_eq_false ?_)).trans ((hi _).trans ?_)
      ·simp only [Int.toNat_natCast,Nat.add_zero];exact hd
      ·simp only [OT.cL,Int.toNat_natCast,Nat.add_zero,xj,hw,hk3]
       rfl
 ·exact ⟨by simp only [xj,List.length_set];exact hs.1,yb⟩
 ·exact OT.ar (decide_eq_false (by dsimp only;omega))
def JD (_:vm):Bool:=true
def JG (x:vm):OT fL.Y:=.ok ⟨D1,(((eg x.1.1 x.1.2.1).1,()),())⟩
theorem aly:ac Tryz.prog 103 (fL.aI JD JG):=W5 JE PF alz _ _ λx oy hp ho=>by
 rw [<-ho]
 clear ho
 obtain ⟨⟨a,b,⟨⟩⟩,⟨⟩⟩:=x
 obtain ⟨_,hw⟩:=Dy a b
 refine (ah ?_).trans ?_
 ·simp only [List.all_cons,List.all_nil,Bool.and_true,Bool.and_eq_true]
  exact ⟨rfl,rfl,rfl,rfl⟩
 ·simp only [JG,hw]
  rfl
def sM:cj:=(fL.aI JD JG)
theorem SU:ac Tryz.prog 103 sM:=aly
theorem SS:aG sM:=aA
def pJ:Env:=ay 103 sM pL
theorem nC:aR Tryz.prog pJ:=ag SU nD
theorem xG:ax pJ:=ae SS xI
theorem CB:aW Tryz.prog te pJ:=aK follows aq nC xG
def iu:aw:=⟨[.val true .elem,.val true .elem],[],true,0,false⟩
abbrev DW:Type:=((aa)×(aa)×Unit)×(Unit)
def sJ:Shape:=⟨39,[(2,.ptr 0 0 0),(3,.ptr 1 0 0),(4,.ptr 2 0 0),(5,.ptr 3 0 0),(6,.val false .u64),(7,.val false .int)],[(0,.row .u64),(1,.row .u64),(2,.row .u64),(3,.row .u64)],0,true⟩
abbrev cq:Type:=((Unit)×(Unit)×(Unit)×(Unit)×(UInt64)×(Int)×Unit)×((List (UInt64))×(List (UInt64))×(List (UInt64))×(List (UInt64))×Unit)
def qs:Shape:=⟨39,[(4,.ptr 0 0 0),(5,.ptr 1 0 0)],[(0,.row .u64),(1,.row .u64)],0,true⟩
abbrev j0:Type:=((Unit)×(Unit)×Unit)×((List (UInt64))×(List (UInt64))×Unit)
def WT:SE->Option Shape:=fw [(0,qs)] none
def ar4 (a6:UInt64) (a7:Int) (c0:List (UInt64)) (c1:List (UInt64)) (c2:List (UInt64)) (c3:List (UInt64)):OT (Sum cq aE):=
 let z0:Bool:=inB a7 4
 let z1:Bool:=decide (Int.toNat a7+0<List.length c0)
 let z2:UInt64:=List.getD c0 (Int.toNat a7+0) (0:UInt64)
 let z3:UInt64:=z2+List.getD c1 (Int.toNat a7+0) (0:UInt64)
 let z4:Bool:=inR (a7+(1:Int))
 let z5:List UInt64:=List.set c3 (Int.toNat a7+0) (z3+a6)
 (.br (decide (a7<(4:Int)))
 (gd [z0,z1,z0,decide (Int.toNat a7+0<List.length c1),z0,decide (Int.toNat a7+0<List.length c3),z0,z1] (.br (decide (z3<z2))
  (gd [z4] (.ok (.inl (((),((),((),((),((1:UInt64),(a7+(1:Int),())))))),(c0,(c1,(c2,(z5,()))))))))
  (gd [z0,decide (Int.toNat a7+0<List.length z5)] (.br (decide (List.getD z5 (Int.toNat a7+0) (0:UInt64)<z3))
   (gd [z4] (.ok (.inl (((),((),((),((),((1:UInt64),(a7+(1:Int),())))))),(c0,(c1,(c2,(z5,()))))))))
   (gd [z4] (.ok (.inl (((),((),((),((),((0:UInt64),(a7+(1:Int),())))))),(c0,(c1,(c2,(z5,()))))))))))))
 (.ok (.inr ⟨(.exit 0,qs),(((),((),())),(c2,(c3,())))⟩)))
def sK (s:cq):OT (Sum cq aE):=ar4 (s.1.2.2.2.2.1) (s.1.2.2.2.2.2.1) (s.2.1) (s.2.2.1) (s.2.2.2.1) (s.2.2.2.2.1)
theorem ar1 (s:cq) (Q:Sum cq aE->Prop):wps te pJ av 1000 (aU (aj Tryz.f133) 0) (sJ.inj s) (bX sJ WT (Q:Sum sJ.T aE->Prop))=(sK s).wpR Q:=by kernel_rfl
def AQ (g0_0:cq->j0) (s:cq):OT aE:=(.ok ⟨(.exit 0,qs),g0_0 s⟩)
def Ju:az:=⟨[.val true .elem],[],false⟩
def Px:SV->Option az:=λ_=>some Ju
def SK (ok0:cq->Bool) (g0_0:cq->j0) (a0:aa) (a1:aa):OT iu.Y:=
 let z0:(PUnit×PUnit×PUnit×PUnit×UInt64×Int×PUnit)×List UInt64×List UInt64×List UInt64×List UInt64×PUnit:=(((),(),(),(),(0:UInt64),(0:Int),()),[a0.w0,a0.w1,a0.w2,a0.w3],[a1.w0,a1.w1,a1.w2,a1.w3],[(0:UInt64),(0:UInt64),(0:UInt64),(0:UInt64)],[(0:UInt64),(0:UInt64),(0:UInt64),(0:UInt64)],())
 let z1:=(g0_0 z0).snd
 let z2:=z1.snd.fst
 let z3:=z1.fst
 let z4:List UInt64:=lay z3 z2 4 (0:UInt64)
 (gd [ok0 z0,decide (4<=List.length z2),decide ((4/1:Nat)+0<=List.length z3),decide (4<=List.length z4)] (.ok ⟨Ju,(({w0:=List.getD z4 0 0,w1:=List.getD z4 1 0,w2:=List.getD z4 2 0,w3:=List.getD z4 3 0},()),())⟩))
theorem ay5 (ok0:cq->Bool) (g0_0:cq->j0) (x:DW) (Q:iu.Y->Prop):wpf te pJ (aO 0 (cg sJ 0 ok0 (AQ g0_0)) av) 1000 Tryz.f133 (iu.inp.inj x).tm (iu.inp.inj x).hp (fnK iu Px Q) (λ_ _=>False)=(SK ok0 g0_0 (x.1.1) (x.1.2.1)).wpR Q:=by kernel_rfl
theorem ab1 (ok0:cq->Bool) (g0_0:cq->j0) (h0:∀ s:cq,ok0 s=true->∃ m e,ao (sK) m s=some e/\(AQ g0_0 s).run=some e) (pre:DW->Bool) (F:DW->OT iu.Y) (hF:∀ (x:DW) oy,pre x=true->(F x).run=some oy->(SK ok0 g0_0 (x.1.1) (x.1.2.1)).run=some oy):ac Tryz.prog 133 (iu.aI pre F):=
 aD aq nC CB (f:=133) (fn:=Tryz.f133) (c:=aj Tryz.f133) (by kernel_rfl) (by kernel_rfl) (by kernel_rfl) (S:=iu) (k:=0) (by kernel_rfl) (λR hR=>(aB (c:=(aj Tryz.f133)) (by kernel_rfl) (id:=0) (by kernel_rfl) (aQ aq nC CB (sh:=sJ) hR (xs:=WT) (aC (by kernel_rfl) (by kernel_rfl) hR) aL af (n:=1000) (T:=sK) (λs Q=>ar1 s Q) (ok:=ok0) (f:=AQ g0_0) h0) af)) (n:=1000) (sel:=Px) (λv o h=>by cases h;rfl) (pre:=pre) (F:=F) (T:=λx=>SK ok0 g0_0 (x.1.1) (x.1.2.1)) (λx Q=>ay5 ok0 g0_0 x Q) hF
theorem asK {x y c:UInt64}:x+y+c=xn x y c:=by
 have hx:=x.toNat_lt
 have hy:=y.toNat_lt
 unfold xn
 rw [<-UInt64.toNat_inj,UInt64.toNat_add,UInt64.toNat_add,UInt64.toNat_ofNat']
 omega
theorem Vl {x y c:UInt64} (hc:c.toNat<=1):(zS x y c).toNat=(x.toNat+y.toNat+c.toNat)/18446744073709551616:=by
 have hx:=x.toNat_lt
 have hy:=y.toNat_lt
 unfold zS
 rw [UInt64.toNat_ofNat']
 omega
theorem aEQ {x y c:UInt64} (hc:c.toNat<=1) (h:x+y<x):zS x y c=1:=by
 have hx:=x.toNat_lt
 have hy:=y.toNat_lt
 have h:=UInt64.lt_iff_toNat_lt.1 h
 rw [UInt64.toNat_add] at h
 rw [<-UInt64.toNat_inj,Vl hc,show (1:UInt64).toNat=1 from rfl]
 omega
theorem aEP {x y c:UInt64} (hc:c.toNat<=1) (h:¬x+y<x) (h2:x+y+c<x+y):zS x y c=1:=by
 have hx:=x.toNat_lt
 have hy:=y.toNat_lt
 have h:¬(x+y).toNat<x.toNat:=λe=>h (UInt64.lt_iff_toNat_lt.2 e)
 have h2:=UInt64.lt_iff_toNat_lt.1 h2
 rw [UInt64.toNat_add] at h
 rw [UInt64.toNat_add,UInt64.toNat_add] at h2
 rw [<-UInt64.toNat_inj,Vl hc,show (1:UInt64).toNat=1 from rfl]
 omega
theorem aEO {x y c:UInt64} (hc:c.toNat<=1) (h:¬x+y<x) (h2:¬x+y+c<x+y):zS x y c=0:=by
 have hx:=x.toNat_lt
 have hy:=y.toNat_lt
 have h:¬(x+y).toNat<x.toNat:=λe=>h (UInt64.lt_iff_toNat_lt.2 e)
 have h2:¬(x+y+c).toNat<(x+y).toNat:=λe=>h2 (UInt64.lt_iff_toNat_lt.2 e)
 rw [UInt64.toNat_add] at h
 rw [UInt64.toNat_add,UInt64.toNat_add] at h2
 rw [<-UInt64.toNat_inj,Vl hc,show (0:UInt64).toNat=0 from rfl]
 omega
def Pz (s:cq):Bool:=decide (s.1.2.2.2.2.1=0/\s.1.2.2.2.2.2.1=0/\s.2.1.length=4/\s.2.2.1.length=4/\s.2.2.2.2.1= [0,0,0,0])
def WW (s:cq):j0:=(((),(),()),(s.2.2.2.1,(upto (OQ s.2.1 s.2.2.1) ([0,0,0,0],0) 4).1,()))
theorem ar3:∀ s:cq,Pz s=true->∃ m e,ao sK m s=some e/\(AQ WW s).run=some e:=by
 rintro ⟨⟨⟨⟩,⟨⟩,⟨⟩,⟨⟩,c,i,⟨⟩⟩,⟨c0,c1,c2,c3,⟨⟩⟩⟩ h
 have h':=of_decide_eq_true h
 dsimp only at h'
 obtain ⟨rfl,rfl,h0,h1,rfl⟩:=h'
 have:=(aP (T:=sK) (λk s=>((((),(),(),(),s.2,(k:Int),()),(c0,c1,c2,s.1,())):cq)) (OQ c0 c1)
  (λs=>(⟨(.exit 0,qs),(((),(),()),(c2,s.1,()))⟩:aE)) 4 ([0,0,0,0],0) (λ_ s=>s.1.length=4/\s.2.toNat<=1) ⟨rfl,by decide⟩ (λk s hk hs=>⟨?_,?_⟩) (λs hs=> ?_)).1
 ·obtain ⟨m,hm⟩:=this
  exact ⟨m,_,hm,rfl⟩
 ·obtain ⟨o,c⟩:=s
  dsimp only at hs
  refine (OT.ap (decide_eq_true (by dsimp only;omega))).trans ((ah ?_).trans ?_)
  ·simp only [Int.toNat_natCast,Nat.add_zero,h0,h1,hs.1,List.all_cons,List.all_nil,Bool.and_true,Bool.and_eq_true]
   exact ⟨aN (by omega),decide_eq_true (by omega),aN (by omega),decide_eq_true (by omega),aN (by omega),decide_eq_true (by omega),aN (by omega),decide_eq_true (by omega)⟩
  ·have hi:∀ z,(gd [inR ((k:Int)+1)] z:OT (Sum cq aE)).run=z.run:=λz=>ah (by simp only [List.all_cons,List.all_nil,Bool.and_true];exact aH (by omega))
   have hw:=asK (x:=c0.getD k 0) (y:=c1.getD k 0) (c:=c)
   by_cases hx:c0.getD k 0+c1.getD k 0<c0.getD k 0
   ·have hk1:=aEQ hs.2 hx
    refine (OT.ap (decide_eq_true ?_)).trans ((hi _).trans ?_)
    ·simp only [Int.toNat_natCast,Nat.add_zero];exact hx
    ·simp only [OT.cL,Int.toNat_natCast,Nat.add_zero,OQ,hw,hk1]
     rfl
   ·have hs2:∀ v,(o.set k v).getD k 0=v:=λv=>by
     rw [List.getD_eq_getElem?_getD,List.getElem?_set_self (by omega)]
     rfl
    refine (OT.ar (decide_eq_false ?_)).trans ((ah ?_).trans ?_)
    ·simp only [Int.toNat_natCast,Nat.add_zero];exact hx
    ·simp only [Int.toNat_natCast,Nat.add_zero,List.length_set,hs.1,List.all_cons,List.all_nil,Bool.and_true,Bool.and_eq_true]
     exact ⟨aN (by omega),decide_eq_true (by omega)⟩
    ·by_cases hd:c0.getD k 0+c1.getD k 0+c<c0.getD k 0+c1.getD k 0
     ·have hk2:=aEP hs.2 hx hd
      refine (OT.ap (decide_eq_true ?_)).trans ((hi _).trans ?_)
      ·simp only [Int.toNat_natCast,Nat.add_zero,hs2];exact hd
      ·simp only [OT.cL,Int.toNat_natCast,Nat.add_zero,OQ,hw,hk2]
       rfl
     ·have hk3:=aEO hs.2 hx hd
      refine (OT.ar (decide_eq_false ?_)).trans ((hi _).trans ?_)
      ·simp only [Int.toNat_natCast,Nat.add_zero,hs2];exact hd
      ·simp only [OT.cL,Int.toNat_natCast,Nat.add_zero,OQ,hw,hk3]
       rfl
 ·exact ⟨by simp only [OQ,List.length_set];exact hs.1,Fz hs.2⟩
 ·exact OT.ar (decide_eq_false (by dsimp only;omega))
def Py (_:DW):Bool:=true
def SL (x:DW):OT iu.Y:=.ok ⟨Ju,(((p9 x.1.1 x.1.2.1).1,()),())⟩
theorem ar2:ac Tryz.prog 133 (iu.aI Py SL):=ab1 Pz WW ar3 _ _ λx oy hp ho=>by
 rw [<-ho]
 clear ho
 obtain ⟨⟨a,b,⟨⟩⟩,⟨⟩⟩:=x
 obtain ⟨_,hw⟩:=OX a b
 refine (ah ?_).trans ?_
 ·simp only [List.all_cons,List.all_nil,Bool.and_true,Bool.and_eq_true]
  exact ⟨rfl,rfl,rfl,rfl⟩
 ·simp only [SL,hw]
  rfl
def yr:cj:=(iu.aI Py SL)
theorem WV:ac Tryz.prog 133 yr:=ar2
theorem WU:aG yr:=aA
def rz:Env:=ay 133 yr pJ
theorem mH:aR Tryz.prog rz:=ag WV nC
theorem CA:ax rz:=ae WU xG
theorem uC:aW Tryz.prog te rz:=aK follows aq mH CA
def lF:aw:=⟨[.val false .int,.val true .elem],[],true,0,false⟩
abbrev WX:Type:=((Int)×(aa)×Unit)×(Unit)
def Jx:Shape:=⟨60,[(3,.ptr 0 0 0),(4,.ptr 1 0 0),(5,.val false .u64),(6,.val false .u64),(7,.val false .int)],[(0,.row .u64),(1,.row .u64)],0,true⟩
abbrev dG:Type:=((Unit)×(Unit)×(UInt64)×(UInt64)×(Int)×Unit)×((List (UInt64))×(List (UInt64))×Unit)
def AS:Shape:=⟨60,[(4,.ptr 0 0 0),(6,.val false .u64)],[(0,.row .u64)],0,true⟩
abbrev oj:Type:=((Unit)×(UInt64)×Unit)×((List (UInt64))×Unit)
def ar8:SE->Option Shape:=fw [(0,AS)] none
def aEB (a5:UInt64) (a6:UInt64) (a7:Int) (c0:List (UInt64)) (c1:List (UInt64)):OT (Sum dG aE):=
 let z0:Bool:=inB a7 4
 let z1:Bool:=decide (Int.toNat a7+0<List.length c0)
 let z2:Bool:= !a5==(0:UInt64)
 let z3:UInt64:=List.getD c0 (Int.toNat a7+0) (0:UInt64)
 (.br (decide ((0:Int)<=a7))
 (gd [z0,z1,z2,z0,z1,z2,inR (a7-(1:Int))] (.ok (.inl (((),((),(a5,((bR ((bR a6 (32:Int)+bf z3 (32:Int))%a5) (32:Int)+(z3&&&(4294967295:UInt64)))%a5,(a7-(1:Int),()))))),(c0,(c1,()))))))
 (.ok (.inr ⟨(.exit 0,AS),(((),(a6,())),(c1,()))⟩)))
def Jz (s:dG):OT (Sum dG aE):=aEB (s.1.2.2.1) (s.1.2.2.2.1) (s.1.2.2.2.2.1) (s.2.1) (s.2.2.1)
theorem aEx (s:dG) (Q:Sum dG aE->Prop):wps te rz av 1000 (aU (aj Tryz.f62) 0) (Jx.inj s) (bX Jx ar8 (Q:Sum Jx.T aE->Prop))=(Jz s).wpR Q:=by kernel_rfl
def SO (g0_0:dG->oj) (s:dG):OT aE:=(.ok ⟨(.exit 0,AS),g0_0 s⟩)
def Jw:Shape:=⟨60,[(3,.ptr 0 0 0),(4,.ptr 1 0 0),(8,.ptr 2 0 0)],[(0,.row .u64),(1,.row .u64),(2,.row .u64)],0,true⟩
abbrev dT:Type:=((Unit)×(Unit)×(Unit)×Unit)×((List (UInt64))×(List (UInt64))×(List (UInt64))×Unit)
def AR:Shape:=⟨60,[(3,.ptr 0 0 0),(4,.ptr 1 0 0)],[(0,.row .u64),(1,.row .u64)],0,true⟩
abbrev oi:Type:=((Unit)×(Unit)×Unit)×((List (UInt64))×(List (UInt64))×Unit)
def ar7:SE->Option Shape:=fw [(2,AR)] none
def aEA (c0:List (UInt64)) (c1:List (UInt64)) (c2:List (UInt64)):OT (Sum dT aE):=
 let z0:Nat:=List.length c0
 let z1:Bool:=decide (4<=z0)
 let z2:Bool:=decide (4<=List.length c2)
 let z3:aa:= {w0:=List.getD c0 0 0,w1:=List.getD c0 1 0,w2:=List.getD c0 2 0,w3:=List.getD c0 3 0}
 let z4:aa:= {w0:=List.getD c2 0 0,w1:=List.getD c2 1 0,w2:=List.getD c2 2 0,w3:=List.getD c2 3 0}
 let z5:=(eg z3 z4).fst
 (gd [z1,z2] (.br (!Nat.blt (aa.nat z3) (aa.nat z4))
 (gd [z1,z2,decide ((4/1:Nat)+0<=z0)] (.ok (.inl (((),((),((),()))),(List.set (List.set (List.set (List.set c0 0 z5.w0) 1 z5.w1) 2 z5.w2) 3 z5.w3,(c1,(c2,())))))))
 (.ok (.inr ⟨(.exit 2,AR),(((),((),())),(c0,(c1,())))⟩))))
def Jy (s:dT):OT (Sum dT aE):=aEA (s.2.1) (s.2.2.1) (s.2.2.2.1)
theorem aEw (s:dT) (Q:Sum dT aE->Prop):wps te rz av 1000 (aU (aj Tryz.f62) 2) (Jw.inj s) (bX Jw ar7 (Q:Sum Jw.T aE->Prop))=(Jy s).wpR Q:=by kernel_rfl
def SN (g2_2:dT->oi) (s:dT):OT aE:=(.ok ⟨(.exit 2,AR),g2_2 s⟩)
def nP:az:=⟨[.val true .elem],[],false⟩
def aii:SV->Option az:=λ_=>some nP
def aik (ok0:dG->Bool) (g0_0:dG->oj) (ok2:dT->Bool) (g2_2:dT->oi) (a0:Int) (a1:aa):OT lF.Y:=
 let z0:(PUnit×PUnit×UInt64×UInt64×Int×PUnit)×List UInt64×List UInt64×PUnit:=(((),(),VN a0,(0:UInt64),(3:Int),()),[a1.w0,a1.w1,a1.w2,a1.w3],[(0:UInt64),(0:UInt64),(0:UInt64),(0:UInt64)],())
 let z1:Bool:=ok0 z0
 let z2:(PUnit×UInt64×PUnit)×List UInt64×PUnit:=g0_0 z0
 let z3:=z2.snd.fst
 let z4:Bool:=decide ((4/1:Nat)+0<=List.length z3)
 let z5:List UInt64:=List.set (List.set (List.set (List.set z3 0 z2.fst.snd.fst) 1 (0:UInt64)) 2 (0:UInt64)) 3 (0:UInt64)
 let z6:Bool:=decide (4<=List.length z5)
 let z7:aa:= {w0:=List.getD z5 0 0,w1:=List.getD z5 1 0,w2:=List.getD z5 2 0,w3:=List.getD z5 3 0}
 let z8:aa:=(aX (Int.toNat a0)).fst
 let z9:(PUnit×PUnit×PUnit×PUnit)×List UInt64×List UInt64×List UInt64×PUnit:=(((),(),(),()),[a1.w0,a1.w1,a1.w2,a1.w3],[(0:UInt64),(0:UInt64),(0:UInt64),(0:UInt64)],[z8.w0,z8.w1,z8.w2,z8.w3],())
 let z10:=(g2_2 z9).snd
 let z11:=z10.fst
 let z12:=z10.snd.fst
 let z13:List UInt64:=lay z12 z11 4 (0:UInt64)
 (.br (a0==(0:Int))
 (gd [z1,z4,z6] (.ok ⟨nP,((z7,()),())⟩))
 (.br (a0==(1:Int))
  (gd [z1,z4,z6] (.ok ⟨nP,((z7,()),())⟩))
  (.br (al a0)
   (gd [ok2 z9,decide (4<=List.length z11),decide ((4/1:Nat)+0<=List.length z12),decide (4<=List.length z13)] (.ok ⟨nP,(({w0:=List.getD z13 0 0,w1:=List.getD z13 1 0,w2:=List.getD z13 2 0,w3:=List.getD z13 3 0},()),())⟩))
   (.ok ⟨nP,(({w0:=0,w1:=0,w2:=0,w3:=0},()),())⟩))))
theorem aHF (ok0:dG->Bool) (g0_0:dG->oj) (ok2:dT->Bool) (g2_2:dT->oi) (x:WX) (Q:lF.Y->Prop):wpf te rz (aO 2 (cg Jw 2 ok2 (SN g2_2)) (aO 0 (cg Jx 0 ok0 (SO g0_0)) av)) 1000 Tryz.f62 (lF.inp.inj x).tm (lF.inp.inj x).hp (fnK lF aii Q) (λ_ _=>False)=(aik ok0 g0_0 ok2 g2_2 (x.1.1) (x.1.2.1)).wpR Q:=by kernel_rfl
theorem asa (ok0:dG->Bool) (g0_0:dG->oj) (ok2:dT->Bool) (g2_2:dT->oi) (h0:∀ s:dG,ok0 s=true->∃ m e,ao (Jz) m s=some e/\(SO g0_0 s).run=some e) (h2:∀ s:dT,ok2 s=true->∃ m e,ao (Jy) m s=some e/\(SN g2_2 s).run=some e) (pre:WX->Bool) (F:WX->OT lF.Y) (hF:∀ (x:WX) oy,pre x=true->(F x).run=some oy->(aik ok0 g0_0 ok2 g2_2 (x.1.1) (x.1.2.1)).run=some oy):ac Tryz.prog 62 (lF.aI pre F):=
 aD aq mH uC (f:=62) (fn:=Tryz.f62) (c:=aj Tryz.f62) (by kernel_rfl) (by kernel_rfl) (by kernel_rfl) (S:=lF) (k:=0) (by kernel_rfl) (λR hR=>(aB (c:=(aj Tryz.f62)) (by kernel_rfl) (id:=2) (by kernel_rfl) (aQ aq mH uC (sh:=Jw) hR (xs:=ar7) (aC (by kernel_rfl) (by kernel_rfl) hR) aL af (n:=1000) (T:=Jy) (λs Q=>aEw s Q) (ok:=ok2) (f:=SN g2_2) h2) (aB (c:=(aj Tryz.f62)) (by kernel_rfl) (id:=0) (by kernel_rfl) (aQ aq mH uC (sh:=Jx) hR (xs:=ar8) (aC (by kernel_rfl) (by kernel_rfl) hR) aL af (n:=1000) (T:=Jz) (λs Q=>aEx s Q) (ok:=ok0) (f:=SO g0_0) h0) af))) (n:=1000) (sel:=aii) (λv o h=>by cases h;rfl) (pre:=pre) (F:=F) (T:=λx=>aik ok0 g0_0 ok2 g2_2 (x.1.1) (x.1.2.1)) (λx Q=>aHF ok0 g0_0 ok2 g2_2 x Q) hF
theorem aHM {r w m:Nat}:((r*4294967296+w/4294967296)%m*4294967296+w%4294967296)%m=(r*18446744073709551616+w)%m:=by
 have e:(r*4294967296+w/4294967296)*4294967296+w%4294967296=r*18446744073709551616+w:=by omega
 rw [Nat.add_mod,Nat.mul_mod,Nat.mod_mod,<-Nat.mul_mod,<-Nat.add_mod,e]
theorem aE0 {r w m:UInt64} (hs:fT m=true) (hr:r.toNat<m.toNat):(bR ((bR r 32+bf w 32)%m) 32+(w&&&4294967295))%m=Zf r w m:=by
 have hm:=lp hs
 have hb:m.toNat<=16521217:=by rcases dV hs with rfl|rfl<;>decide
 have hw:=w.toNat_lt
 have e1:(bR r 32).toNat=r.toNat*4294967296:=by
  have:(bR r 32).toNat=r.toNat*2^32%2^64:=lq r 32 (by omega)
  rw [this]
  omega
 have e2:(bf w 32).toNat=w.toNat/4294967296:=eU w 32 (by omega)
 have e3:((bR r 32+bf w 32)%m).toNat=(r.toNat*4294967296+w.toNat/4294967296)%m.toNat:=by
  rw [UInt64.toNat_mod,UInt64.toNat_add,e1,e2,Nat.mod_eq_of_lt (a:=r.toNat*4294967296+w.toNat/4294967296) (by omega)]
 generalize (bR r 32+bf w 32)%m=q at e3
 have hq:q.toNat<m.toNat:=by rw [e3];exact Nat.mod_lt _ hm
 have e4:(bR q 32).toNat=q.toNat*4294967296:=by
  have:(bR q 32).toNat=q.toNat*2^32%2^64:=lq q 32 (by omega)
  rw [this]
  omega
 rw [<-UInt64.toNat_inj,rf hm,UInt64.toNat_mod,UInt64.toNat_add,e4,jM,Nat.mod_eq_of_lt (a:=q.toNat*4294967296+w.toNat%4294967296) (by omega),e3,aHM]
def HU (s:dG):Bool:=decide (s.1.2.2.2.1=0/\s.1.2.2.2.2.1=3/\s.2.1.length=4)&&fT s.1.2.2.1
def ab5 (s:dG):oj:=(((),aHA s.2.1 s.1.2.2.1,()),(s.2.2.1,()))
theorem aEz:∀ s:dG,HU s=true->∃ m e,ao Jz m s=some e/\(SO ab5 s).run=some e:=by
 rintro ⟨⟨⟨⟩,⟨⟩,sm,r,i,⟨⟩⟩,⟨c1,c2,⟨⟩⟩⟩ h
 simp only [HU,Bool.and_eq_true,decide_eq_true_eq] at h
 obtain ⟨⟨rfl,rfl,hl⟩,hs⟩:=h
 have hm:=lp hs
 have hz:(!(sm==0))=true:=by rcases dV hs with rfl|rfl<;>rfl
 have:=(aP (T:=Jz) (λk r=>((((),(),sm,r,3-(k:Int),()),(c1,c2,())):dG)) (λk r=>Zf r (c1.getD (3-k) 0) sm)
  (λr=>(⟨(.exit 0,AS),(((),r,()),(c2,()))⟩:aE)) 4 0 (λ_ r=>r.toNat<sm.toNat) hm (λk r hk hr=>⟨?_,?_⟩) (λr hr=> ?_)).1
 ·obtain ⟨m,hm⟩:=this
  exact ⟨m,_,hm,rfl⟩
 ·have e1:(3-(k:Int)).toNat=3-k:=by omega
  have e2:(3:Int)-(k:Int)-1=3-((k+1:Nat):Int):=by omega
  refine (OT.ap (decide_eq_true (by dsimp only;omega))).trans ((ah ?_).trans ?_)
  ·simp only [e1,Nat.add_zero,hl,hz,List.all_cons,List.all_nil,Bool.and_true,Bool.true_and,Bool.and_eq_true]
   exact ⟨aN (by omega),decide_eq_true (by omega),aN (by omega),decide_eq_true (by omega),aH (by omega)⟩
  ·simp only [OT.cL,e1,e2,Nat.add_zero,aE0 hs hr]
 ·rw [rf hm]
  exact Nat.mod_lt _ hm
 ·exact OT.ar (decide_eq_false (by dsimp only;omega))
def SM (s:dT):Bool:=decide (s.2.1.length=4/\s.2.2.2.1.length=4/\0<(elemOf s.2.2.2.1).nat)
def ab4 (s:dT):oi:=(((),(),()),(lst (ofN ((elemOf s.2.1).nat%(elemOf s.2.2.2.1).nat)),s.2.2.1,()))
theorem alr {M:aa} {c2:List UInt64} (hm:0<M.nat):∀ (n:Nat) (a:aa),a.nat=n->
 ∃ m,ao Jy m (((),(),(),()),(lst a,c2,lst M,()))=some ⟨(.exit 2,AR),(((),(),()),(lst (ofN (a.nat%M.nat)),c2,()))⟩:=by
 intro n
 induction n using Nat.strongRecOn with
 |_ n ih=>
  intro a hn
  rcases (Bool.eq_false_or_eq_true (Nat.blt a.nat M.nat)).symm with hb|hb
  ·have hle:M.nat<=a.nat:=by
    rcases Nat.lt_or_ge a.nat M.nat with h|h
    ·have:Nat.blt a.nat M.nat=true:=Nat.ble_eq_true_of_le h
     rw [this] at hb;cases hb
    ·exact h
   have hd:=mN hle
   obtain ⟨m,hm2⟩:=ih (a.nat-M.nat) (by omega) (eg a M).1 hd
   rw [hd,<-Nat.mod_eq_sub_mod hle] at hm2
   refine ⟨m+1,aF ?_ hm2⟩
   refine (ah rfl).trans ((OT.ap (b:= !Nat.blt a.nat M.nat) (by rw [hb];rfl)).trans ((ah rfl).trans rfl))
  ·have hlt:=dy hb
   rw [Nat.mod_eq_of_lt hlt,vO]
   refine ⟨1,aM ?_⟩
   exact (ah rfl).trans (OT.ar (b:= !Nat.blt a.nat M.nat) (by rw [hb];rfl))
theorem aEy:∀ s:dT,SM s=true->∃ m e,ao Jy m s=some e/\(SN ab4 s).run=some e:=by
 rintro ⟨⟨⟨⟩,⟨⟩,⟨⟩,⟨⟩⟩,⟨l,c2,l2,⟨⟩⟩⟩ h
 have h':=of_decide_eq_true h
 dsimp only at h'
 obtain ⟨h1,h2,h3⟩:=h'
 obtain ⟨a,rfl⟩:∃ a,l=lst a:=⟨elemOf l,(aS h1).symm⟩
 obtain ⟨M,rfl⟩:∃ a,l2=lst a:=⟨elemOf l2,(aS h2).symm⟩
 obtain ⟨m,hm⟩:=alr (c2:=c2) (M:=M) h3 _ a rfl
 exact ⟨m,_,hm,rfl⟩
def ofP (p:Nat) (a:aa):aa:=ofN (a.nat%p)
def aij (_:WX):Bool:=true
def aBI (x:WX):OT lF.Y:=.br (al x.1.1) (.ok ⟨nP,((ofP (pS x.1.1) x.1.2.1,()),())⟩) (.ok ⟨nP,((⟨0,0,0,0⟩,()),())⟩)
theorem X4 {a:aa} {p:Nat} {m:UInt64} (hp:p=m.toNat) (hs:fT m=true):(⟨aHA (lst a) m,0,0,0⟩:aa)=ofP p a:=by
 have hm:=lp hs
 unfold ofP
 rw [ah7 hs,hp,tc (n:=a.nat%m.toNat) (Nat.lt_trans (Nat.mod_lt _ hm) m.toNat_lt)]
theorem aiM {s:Int} {a:aa} (h0:(s==0)=false) (h1:(s==1)=false) (hs:al s=true):(aik HU ab5 SM ab4 s a).run=some ⟨nP,((ofP (pS s) a,()),())⟩:=by
 refine (OT.ar h0).trans ((OT.ar h1).trans ((OT.ap hs).trans ((ah ?_).trans rfl)))
 simp only [List.all_cons,List.all_nil,Bool.and_true,Bool.and_eq_true]
 exact ⟨decide_eq_true ⟨rfl,rfl,(ni hs).1⟩,rfl,rfl,rfl⟩
theorem ar9:ac Tryz.prog 62 (lF.aI aij aBI):=asa HU ab5 SM ab4 aEz aEy _ _ λx oy _ ho=>by
 rw [<-ho]
 clear ho
 obtain ⟨⟨s,a,⟨⟩⟩,⟨⟩⟩:=x
 rcases (Bool.eq_false_or_eq_true (al s)).symm with hs|hs
 ·obtain ⟨h0,h1,_,_⟩:=u5 hs
  exact (OT.ar h0).trans ((OT.ar h1).trans ((OT.ar hs).trans (OT.ar (b:=al s) hs).symm))
 ·refine Eq.trans ?_ (OT.ap (b:=al s) hs).symm
  show _=some (⟨nP,((ofP (pS s) a,()),())⟩:lF.Y)
  rcases ck hs with rfl|rfl|rfl|rfl
  ·rw [<-X4 (a:=a) (p:=pS 0) (m:=16513537) (by decide+kernel) rfl]
   refine (OT.ap rfl).trans ((ah ?_).trans rfl)
   exact rfl
  ·rw [<-X4 (a:=a) (p:=pS 1) (m:=16521217) (by decide+kernel) rfl]
   refine (OT.ar rfl).trans ((OT.ap rfl).trans ((ah ?_).trans rfl))
   exact rfl
  ·exact aiM rfl rfl rfl
  ·exact aiM rfl rfl rfl
def Jv:cj:=(lF.aI aij aBI)
theorem als:ac Tryz.prog 62 Jv:=ar9
theorem alq:aG Jv:=aA
def aav:Env:=ay 62 Jv rz
theorem M0:aR Tryz.prog aav:=ag als mH
theorem M1:ax aav:=ae alq CA
theorem aoI:aW Tryz.prog te aav:=aK follows aq M0 M1
def gS:aw:=⟨[.val false .int,.val true .elem,.val true .elem],[],true,0,false⟩
abbrev PQ:Type:=((Int)×(aa)×(aa)×Unit)×(Unit)
def cR:az:=⟨[.val true .elem],[],false⟩
def Xl:SV->Option az:=λ_=>some cR
def acK (a0:Int) (a1:aa) (a2:aa):OT gS.Y:=
 let z0:Bool:=al a0
 let z1:UInt64:=VN a0
 let z2:Bool:= !z1==(0:UInt64)
 let z3:Nat:=pS a0
 let z4:aa:=ofP z3 a1
 let z5:=z4.w0
 let z6:aa:=ofP z3 a2
 let z7:=z6.w0
 let z8:aa:= {w0:=(z5+z7)%z1,w1:=0,w2:=0,w3:=0}
 let z9:aa:= {w0:=(z5+(0:UInt64))%z1,w1:=0,w2:=0,w3:=0}
 let z10:aa:= {w0:=((0:UInt64)+z7)%z1,w1:=0,w2:=0,w3:=0}
 let z11:aa:= {w0:=0%z1,w1:=0,w2:=0,w3:=0}
 let z12:aa:= {w0:=0,w1:=0,w2:=0,w3:=0}
 (.br (a0==(0:Int))
 (.br (z0)
  (.br (z0)
   (gd [z2] (.ok ⟨cR,((z8,()),())⟩))
   (gd [z2] (.ok ⟨cR,((z9,()),())⟩)))
  (.br (z0)
   (gd [z2] (.ok ⟨cR,((z10,()),())⟩))
   (gd [z2] (.ok ⟨cR,((z11,()),())⟩))))
 (.br (a0==(1:Int))
  (.br (z0)
   (.br (z0)
    (gd [z2] (.ok ⟨cR,((z8,()),())⟩))
    (gd [z2] (.ok ⟨cR,((z9,()),())⟩)))
   (.br (z0)
    (gd [z2] (.ok ⟨cR,((z10,()),())⟩))
    (gd [z2] (.ok ⟨cR,((z11,()),())⟩))))
  (.br (z0)
   (.br (z0)
    (.br (z0)
     (.ok ⟨cR,((ofP z3 (p9 z4 z6).fst,()),())⟩)
     (.ok ⟨cR,((z12,()),())⟩))
    (.br (z0)
     (.ok ⟨cR,((ofP z3 (p9 z4 z12).fst,()),())⟩)
     (.ok ⟨cR,((z12,()),())⟩)))
   (.br (z0)
    (.br (z0)
     (.ok ⟨cR,((ofP z3 (p9 z12 z6).fst,()),())⟩)
     (.ok ⟨cR,((z12,()),())⟩))
    (.br (z0)
     (.ok ⟨cR,((ofP z3 z12,()),())⟩)
     (.ok ⟨cR,((z12,()),())⟩))))))
theorem aEJ (x:PQ) (Q:gS.Y->Prop):wpf te aav av 1000 Tryz.f134 (gS.inp.inj x).tm (gS.inp.inj x).hp (fnK gS Xl Q) (λ_ _=>False)=(acK (x.1.1) (x.1.2.1) (x.1.2.2.1)).wpR Q:=by kernel_rfl
theorem alM (pre:PQ->Bool) (F:PQ->OT gS.Y) (hF:∀ (x:PQ) oy,pre x=true->(F x).run=some oy->(acK (x.1.1) (x.1.2.1) (x.1.2.2.1)).run=some oy):ac Tryz.prog 134 (gS.aI pre F):=
 aD aq M0 aoI (f:=134) (fn:=Tryz.f134) (c:=aj Tryz.f134) (by kernel_rfl) (by kernel_rfl) (by kernel_rfl) (S:=gS) (k:=0) (by kernel_rfl) (λR hR=>af) (n:=1000) (sel:=Xl) (λv o h=>by cases h;rfl) (pre:=pre) (F:=F) (T:=λx=>acK (x.1.1) (x.1.2.1) (x.1.2.2.1)) (λx Q=>aEJ x Q) hF
theorem Bq {s:Int} (h:s=0\/s=1):pS s=(VN s).toNat/\0<(VN s).toNat/\(VN s).toNat<=16521217/\(!(VN s==0))=true:=by
 rcases h with rfl|rfl<;>exact ⟨by decide+kernel,by decide+kernel,by decide+kernel,rfl⟩
theorem aoC {s:Int} (h:s=0\/s=1) (a b:aa):(⟨((ofP (pS s) a).w0+(ofP (pS s) b).w0)%VN s,0,0,0⟩:aa)=Fy (pS s) a b:=by
 obtain ⟨hp,h0,h1,_⟩:=Bq h
 rw [hp]
 generalize VN s=m at*
 have ha:=Nat.mod_lt a.nat h0
 have hb:=Nat.mod_lt b.nat h0
 have hc:=Nat.mod_lt (a.nat+b.nat) h0
 unfold Fy
 rw [tc (by omega)]
 have e:((ofP m.toNat a).w0+(ofP m.toNat b).w0)%m=UInt64.ofNat ((a.nat+b.nat)%m.toNat):=by
  show (UInt64.ofNat (a.nat%m.toNat)+UInt64.ofNat (b.nat%m.toNat))%m=_
  rw [<-UInt64.toNat_inj,UInt64.toNat_mod,UInt64.toNat_add,UInt64.toNat_ofNat',UInt64.toNat_ofNat',UInt64.toNat_ofNat',Nat.mod_eq_of_lt (a:=a.nat%m.toNat) (by omega),Nat.mod_eq_of_lt (a:=b.nat%m.toNat) (by omega),
   Nat.mod_eq_of_lt (a:=a.nat%m.toNat+b.nat%m.toNat) (by omega),Nat.mod_eq_of_lt (a:=(a.nat+b.nat)%m.toNat) (by omega),<-Nat.add_mod]
 rw [e]
def JR (x:PQ):Bool:=al x.1.1
def asr (x:PQ):OT gS.Y:=.ok ⟨cR,((Fy (pS x.1.1) x.1.2.1 x.1.2.2.1,()),())⟩
theorem azk:ac Tryz.prog 134 (gS.aI JR asr):=alM _ _ λx oy hp ho=>by
 rw [<-ho]
 clear ho
 obtain ⟨⟨s,a,b,⟨⟩⟩,⟨⟩⟩:=x
 have hs:al s=true:=hp
 show _=some (⟨cR,((Fy (pS s) a b,()),())⟩:gS.Y)
 have little:(s=0\/s=1)->(gd [!(VN s==0)] (.ok ⟨cR,((⟨((ofP (pS s) a).w0+(ofP (pS s) b).w0)%VN s,0,0,0⟩,()),())⟩):OT gS.Y).run=some (⟨cR,((Fy (pS s) a b,()),())⟩:gS.Y):=λh=>by
  obtain ⟨_,_,_,hz⟩:=Bq h
  rw [aoC h]
  exact ah (by simp only [hz,List.all_cons,List.all_nil,Bool.and_true])
 by_cases h0:s=0
 ·exact (OT.ap (by simpa using h0)).trans ((OT.ap hs).trans ((OT.ap hs).trans (little (.inl h0))))
 ·refine (OT.ar (by simpa using h0)).trans ?_
  by_cases h1:s=1
  ·exact (OT.ap (by simpa using h1)).trans ((OT.ap hs).trans ((OT.ap hs).trans (little (.inr h1))))
  ·refine (OT.ar (by simpa using h1)).trans ((OT.ap hs).trans ((OT.ap hs).trans ((OT.ap hs).trans ?_)))
   have e:ofP (pS s) (p9 (ofP (pS s) a) (ofP (pS s) b)).1=Fy (pS s) a b:=awg (ni hs) a b
   show some (⟨cR,((ofP (pS s) (p9 (ofP (pS s) a) (ofP (pS s) b)).1,()),())⟩:gS.Y)=_
   rw [e]
def Eb:cj:=(gS.aI JR asr)
theorem acJ:ac Tryz.prog 134 Eb:=azk
theorem acI:aG Eb:=aA
def M9:Env:=ay 134 Eb aav
theorem FP:aR Tryz.prog M9:=ag acJ M0
theorem G5:ax M9:=ae acI M1
theorem afp:aW Tryz.prog te M9:=aK follows aq FP G5
def kg:aw:=⟨[.val false .int,.val true .elem],[],true,0,false⟩
abbrev PC:Type:=((Int)×(aa)×Unit)×(Unit)
def mS:az:=⟨[.val true .elem],[],false⟩
def WY:SV->Option az:=λ_=>some mS
def acd (a0:Int) (a1:aa):OT kg.Y:=
 let z0:Bool:=al a0
 let z1:Nat:=pS a0
 let z2:aa:=(aX (Int.toNat a0)).fst
 let z3:aa:= {w0:=0,w1:=0,w2:=0,w3:=0}
 (.br (z0)
 (.br (z0)
  (.br (z0)
   (.ok ⟨mS,((ofP z1 (eg z2 (ofP z1 a1)).fst,()),())⟩)
   (.ok ⟨mS,((z3,()),())⟩))
  (.br (z0)
   (.ok ⟨mS,((ofP z1 (eg z2 z3).fst,()),())⟩)
   (.ok ⟨mS,((z3,()),())⟩)))
 (.ok ⟨mS,((z3,()),())⟩))
theorem aEC (x:PC) (Q:kg.Y->Prop):wpf te M9 av 1000 Tryz.f96 (kg.inp.inj x).tm (kg.inp.inj x).hp (fnK kg WY Q) (λ_ _=>False)=(acd (x.1.1) (x.1.2.1)).wpR Q:=by kernel_rfl
theorem alu (pre:PC->Bool) (F:PC->OT kg.Y) (hF:∀ (x:PC) oy,pre x=true->(F x).run=some oy->(acd (x.1.1) (x.1.2.1)).run=some oy):ac Tryz.prog 96 (kg.aI pre F):=
 aD aq FP afp (f:=96) (fn:=Tryz.f96) (c:=aj Tryz.f96) (by kernel_rfl) (by kernel_rfl) (by kernel_rfl) (S:=kg) (k:=0) (by kernel_rfl) (λR hR=>af) (n:=1000) (sel:=WY) (λv o h=>by cases h;rfl) (pre:=pre) (F:=F) (T:=λx=>acd (x.1.1) (x.1.2.1)) (λx Q=>aEC x Q) hF
theorem neg_eq {s:Int} (hs:al s=true) (a:aa):ofP (pS s) (eg (aX s.toNat).1 (ofP (pS s) a)).1=zR (pS s) a:=by
 have hp:=ni hs
 have hlt:=Nat.mod_lt a.nat hp.1
 have e:(ofP (pS s) a).nat=a.nat%pS s:=cZ hp
 unfold zR
 have e2:(eg (aX s.toNat).1 (ofP (pS s) a)).1.nat=pS s-a.nat%pS s:=by
  rw [mN (by rw [e];exact Nat.le_of_lt hlt),e]
  rfl
 show ofN (_%_)=_
 rw [e2]
def lI (x:PC):Bool:=al x.1.1
def asb (x:PC):OT kg.Y:=.ok ⟨mS,((zR (pS x.1.1) x.1.2.1,()),())⟩
theorem ay7:ac Tryz.prog 96 (kg.aI lI asb):=alu _ _ λx oy hp ho=>by
 rw [<-ho]
 clear ho
 obtain ⟨⟨s,a,⟨⟩⟩,⟨⟩⟩:=x
 have hs:al s=true:=hp
 show _=some (⟨mS,((zR (pS s) a,()),())⟩:kg.Y)
 rw [<-neg_eq hs]
 exact (OT.ap hs).trans ((OT.ap hs).trans ((OT.ap hs).trans rfl))
def DY:cj:=(kg.aI lI asb)
theorem acb:ac Tryz.prog 96 DY:=ay7
theorem aca:aG DY:=aA
def FI:Env:=ay 96 DY M9
theorem wT:aR Tryz.prog FI:=ag acb FP
theorem GX:ax FI:=ae aca G5
theorem M2:aW Tryz.prog te FI:=aK follows aq wT GX
def gR:aw:=⟨[.val false .int,.val true .elem,.val true .elem],[],true,0,false⟩
abbrev PD:Type:=((Int)×(aa)×(aa)×Unit)×(Unit)
def AU:Shape:=⟨80,[(4,.ptr 0 0 0),(5,.ptr 1 0 0),(6,.ptr 2 0 0),(7,.ptr 3 0 0),(9,.ptr 4 0 0),(10,.val false .int)],[(0,.row .u64),(1,.row .u64),(2,.row .u64),(3,.row .u64),(4,.row .u64)],0,true⟩
abbrev cm:Type:=((Unit)×(Unit)×(Unit)×(Unit)×(Unit)×(Int)×Unit)×((List (UInt64))×(List (UInt64))×(List (UInt64))×(List (UInt64))×(List (UInt64))×Unit)
def vj:Shape:=⟨80,[(6,.ptr 0 0 0),(9,.ptr 1 0 0)],[(0,.row .u64),(1,.row .u64)],0,true⟩
abbrev lJ:Type:=((Unit)×(Unit)×Unit)×((List (UInt64))×(List (UInt64))×Unit)
def ail:SE->Option Shape:=fw [(0,vj)] none
def SR (a10:Int) (c0:List (UInt64)) (c1:List (UInt64)) (c2:List (UInt64)) (c3:List (UInt64)) (c4:List (UInt64)):OT (Sum cm aE):=
 let z0:Nat:=List.length c4
 let z1:Bool:=decide (4<=z0)
 let z2:aa:= {w0:=List.getD c4 0 0,w1:=List.getD c4 1 0,w2:=List.getD c4 2 0,w3:=List.getD c4 3 0}
 let z3:=(p9 z2 z2).fst
 let z4:List UInt64:=List.set (List.set (List.set (List.set c4 0 z3.w0) 1 z3.w1) 2 z3.w2) 3 z3.w3
 let z5:Nat:=List.length z4
 let z6:Bool:=decide (4<=z5)
 let z7:Bool:=decide (4<=List.length c3)
 let z8:aa:= {w0:=List.getD z4 0 0,w1:=List.getD z4 1 0,w2:=List.getD z4 2 0,w3:=List.getD z4 3 0}
 let z9:aa:= {w0:=List.getD c3 0 0,w1:=List.getD c3 1 0,w2:=List.getD c3 2 0,w3:=List.getD c3 3 0}
 let z10:Nat:=aa.nat z9
 let z11:Int:=Int.tdiv a10 (64:Int)
 let z12:Bool:=true&&inR z11
 let z13:Bool:=inB z11 4
 let z14:Bool:=decide (Int.toNat z11+0<List.length c1)
 let z15:=(eg z8 z9).fst
 let z16:List UInt64:=List.set (List.set (List.set (List.set z4 0 z15.w0) 1 z15.w1) 2 z15.w2) 3 z15.w3
 let z17:Nat:=List.length z16
 let z18:Bool:=decide (4<=List.length c0)
 let z19:aa:= {w0:=List.getD c0 0 0,w1:=List.getD c0 1 0,w2:=List.getD c0 2 0,w3:=List.getD c0 3 0}
 let z20:aa:=(p9 {w0:=List.getD z16 0 0,w1:=List.getD z16 1 0,w2:=List.getD z16 2 0,w3:=List.getD z16 3 0} z19).fst
 let z21:List UInt64:=List.set (List.set (List.set (List.set z16 0 z20.w0) 1 z20.w1) 2 z20.w2) 3 z20.w3
 let z22:Nat:=List.length z21
 let z23:Bool:=decide (4<=z22)
 let z24:aa:= {w0:=List.getD z21 0 0,w1:=List.getD z21 1 0,w2:=List.getD z21 2 0,w3:=List.getD z21 3 0}
 let z25:Bool:=inR (a10-(1:Int))
 let z26:=(eg z24 z9).fst
 let z27:=(p9 z8 z19).fst
 let z28:List UInt64:=List.set (List.set (List.set (List.set z4 0 z27.w0) 1 z27.w1) 2 z27.w2) 3 z27.w3
 let z29:Nat:=List.length z28
 let z30:Bool:=decide (4<=z29)
 let z31:aa:= {w0:=List.getD z28 0 0,w1:=List.getD z28 1 0,w2:=List.getD z28 2 0,w3:=List.getD z28 3 0}
 let z32:=(eg z31 z9).fst
 (.br (decide ((0:Int)<=a10))
 (gd [z1,z1,decide ((4/1:Nat)+0<=z0),z6,z7] (.br (!Nat.blt (aa.nat z8) z10)
  (gd [z6,z7,decide ((4/1:Nat)+0<=z5),z12,z13,z14] (.br (bf (List.getD c1 (Int.toNat z11+0) (0:UInt64)) (↑(UInt64.toNat (i2u (Int.tmod a10 (64:Int)))):Int)&&&(1:UInt64)==(1:UInt64))
   (gd [decide (4<=z17),z18,decide ((4/1:Nat)+0<=z17),z23,z7] (.br (!Nat.blt (aa.nat z24) z10)
    (gd [z23,z7,decide ((4/1:Nat)+0<=z22),z25] (.ok (.inl (((),((),((),((),((),(a10-(1:Int),())))))),(c0,(c1,(c2,(c3,(List.set (List.set (List.set (List.set z21 0 z26.w0) 1 z26.w1) 2 z26.w2) 3 z26.w3,())))))))))
    (gd [z25] (.ok (.inl (((),((),((),((),((),(a10-(1:Int),())))))),(c0,(c1,(c2,(c3,(z21,())))))))))))
   (gd [z25] (.ok (.inl (((),((),((),((),((),(a10-(1:Int),())))))),(c0,(c1,(c2,(c3,(z16,())))))))))))
  (gd [z12,z13,z14] (.br (bf (List.getD c1 (Int.toNat z11+0) (0:UInt64)) (↑(UInt64.toNat (i2u (Int.tmod a10 (64:Int)))):Int)&&&(1:UInt64)==(1:UInt64))
   (gd [z6,z18,decide ((4/1:Nat)+0<=z5),z30,z7] (.br (!Nat.blt (aa.nat z31) z10)
    (gd [z30,z7,decide ((4/1:Nat)+0<=z29),z25] (.ok (.inl (((),((),((),((),((),(a10-(1:Int),())))))),(c0,(c1,(c2,(c3,(List.set (List.set (List.set (List.set z28 0 z32.w0) 1 z32.w1) 2 z32.w2) 3 z32.w3,())))))))))
    (gd [z25] (.ok (.inl (((),((),((),((),((),(a10-(1:Int),())))))),(c0,(c1,(c2,(c3,(z28,())))))))))))
   (gd [z25] (.ok (.inl (((),((),((),((),((),(a10-(1:Int),())))))),(c0,(c1,(c2,(c3,(z4,())))))))))))))
 (.ok (.inr ⟨(.exit 0,vj),(((),((),())),(c2,(c4,())))⟩)))
def vk (s:cm):OT (Sum cm aE):=SR (s.1.2.2.2.2.2.1) (s.2.1) (s.2.2.1) (s.2.2.2.1) (s.2.2.2.2.1) (s.2.2.2.2.2.1)
theorem ay8 (s:cm) (Q:Sum cm aE->Prop):wps te FI av 1000 (aU (aj Tryz.f113) 0) (AU.inj s) (bX AU ail (Q:Sum AU.T aE->Prop))=(vk s).wpR Q:=by kernel_rfl
def HV (g0_0:cm->lJ) (s:cm):OT aE:=(.ok ⟨(.exit 0,vj),g0_0 s⟩)
def dq:az:=⟨[.val true .elem],[],false⟩
def WZ:SV->Option az:=λ_=>some dq
def acg (ok0:cm->Bool) (g0_0:cm->lJ) (a0:Int) (a1:aa) (a2:aa):OT gR.Y:=
 let z0:Bool:=al a0
 let z1:UInt64:=VN a0
 let z2:Bool:= !z1==(0:UInt64)
 let z3:Nat:=pS a0
 let z4:aa:=ofP z3 a1
 let z5:=z4.w0
 let z6:aa:=ofP z3 a2
 let z7:=z6.w0
 let z8:aa:= {w0:=z5*z7%z1,w1:=0,w2:=0,w3:=0}
 let z9:aa:= {w0:=z5*(0:UInt64)%z1,w1:=0,w2:=0,w3:=0}
 let z10:aa:= {w0:=0*z7%z1,w1:=0,w2:=0,w3:=0}
 let z11:aa:= {w0:=0%z1,w1:=0,w2:=0,w3:=0}
 let z12:PUnit×PUnit×PUnit×PUnit×PUnit×Int×PUnit:=((),(),(),(),(),(255:Int),())
 let z13:aa:=(aX (Int.toNat a0)).fst
 let z14:List UInt64×List UInt64×List UInt64×PUnit:=([(0:UInt64),(0:UInt64),(0:UInt64),(0:UInt64)],[z13.w0,z13.w1,z13.w2,z13.w3],[(0:UInt64),(0:UInt64),(0:UInt64),(0:UInt64)],())
 let z15:List UInt64×List UInt64×List UInt64×List UInt64×PUnit:=([z7,z6.w1,z6.w2,z6.w3],z14)
 let z16:(PUnit×PUnit×PUnit×PUnit×PUnit×Int×PUnit)×List UInt64×List UInt64×List UInt64×List UInt64×List UInt64×PUnit:=(z12,[z5,z4.w1,z4.w2,z4.w3],z15)
 let z17:=(g0_0 z16).snd
 let z18:=z17.snd.fst
 let z19:=z17.fst
 let z20:List UInt64:=lay z19 z18 4 (0:UInt64)
 let z21:List UInt64×List UInt64×List UInt64×List UInt64×PUnit:=([(0:UInt64),(0:UInt64),(0:UInt64),(0:UInt64)],z14)
 let z22:(PUnit×PUnit×PUnit×PUnit×PUnit×Int×PUnit)×List UInt64×List UInt64×List UInt64×List UInt64×List UInt64×PUnit:=(z12,[z5,z4.w1,z4.w2,z4.w3],z21)
 let z23:=(g0_0 z22).snd
 let z24:=z23.snd.fst
 let z25:=z23.fst
 let z26:List UInt64:=lay z25 z24 4 (0:UInt64)
 let z27:(PUnit×PUnit×PUnit×PUnit×PUnit×Int×PUnit)×List UInt64×List UInt64×List UInt64×List UInt64×List UInt64×PUnit:=(z12,[(0:UInt64),(0:UInt64),(0:UInt64),(0:UInt64)],z15)
 let z28:=(g0_0 z27).snd
 let z29:=z28.snd.fst
 let z30:=z28.fst
 let z31:List UInt64:=lay z30 z29 4 (0:UInt64)
 let z32:(PUnit×PUnit×PUnit×PUnit×PUnit×Int×PUnit)×List UInt64×List UInt64×List UInt64×List UInt64×List UInt64×PUnit:=(z12,[(0:UInt64),(0:UInt64),(0:UInt64),(0:UInt64)],z21)
 let z33:=(g0_0 z32).snd
 let z34:=z33.snd.fst
 let z35:=z33.fst
 let z36:List UInt64:=lay z35 z34 4 (0:UInt64)
 (.br (a0==(0:Int))
 (.br (z0)
  (.br (z0)
   (gd [z2] (.ok ⟨dq,((z8,()),())⟩))
   (gd [z2] (.ok ⟨dq,((z9,()),())⟩)))
  (.br (z0)
   (gd [z2] (.ok ⟨dq,((z10,()),())⟩))
   (gd [z2] (.ok ⟨dq,((z11,()),())⟩))))
 (.br (a0==(1:Int))
  (.br (z0)
   (.br (z0)
    (gd [z2] (.ok ⟨dq,((z8,()),())⟩))
    (gd [z2] (.ok ⟨dq,((z9,()),())⟩)))
   (.br (z0)
    (gd [z2] (.ok ⟨dq,((z10,()),())⟩))
    (gd [z2] (.ok ⟨dq,((z11,()),())⟩))))
  (.br (z0)
   (.br (z0)
    (.br (z0)
     (gd [ok0 z16,decide (4<=List.length z18),decide ((4/1:Nat)+0<=List.length z19),decide (4<=List.length z20)] (.ok ⟨dq,(({w0:=List.getD z20 0 0,w1:=List.getD z20 1 0,w2:=List.getD z20 2 0,w3:=List.getD z20 3 0},()),())⟩))
     (gd [ok0 z22,decide (4<=List.length z24),decide ((4/1:Nat)+0<=List.length z25),decide (4<=List.length z26)] (.ok ⟨dq,(({w0:=List.getD z26 0 0,w1:=List.getD z26 1 0,w2:=List.getD z26 2 0,w3:=List.getD z26 3 0},()),())⟩)))
    (.br (z0)
     (gd [ok0 z27,decide (4<=List.length z29),decide ((4/1:Nat)+0<=List.length z30),decide (4<=List.length z31)] (.ok ⟨dq,(({w0:=List.getD z31 0 0,w1:=List.getD z31 1 0,w2:=List.getD z31 2 0,w3:=List.getD z31 3 0},()),())⟩))
     (gd [ok0 z32,decide (4<=List.length z34),decide ((4/1:Nat)+0<=List.length z35),decide (4<=List.length z36)] (.ok ⟨dq,(({w0:=List.getD z36 0 0,w1:=List.getD z36 1 0,w2:=List.getD z36 2 0,w3:=List.getD z36 3 0},()),())⟩))))
   (.ok ⟨dq,(({w0:=0,w1:=0,w2:=0,w3:=0},()),())⟩))))
theorem aED (ok0:cm->Bool) (g0_0:cm->lJ) (x:PD) (Q:gR.Y->Prop):wpf te FI (aO 0 (cg AU 0 ok0 (HV g0_0)) av) 1000 Tryz.f113 (gR.inp.inj x).tm (gR.inp.inj x).hp (fnK gR WZ Q) (λ_ _=>False)=(acg ok0 g0_0 (x.1.1) (x.1.2.1) (x.1.2.2.1)).wpR Q:=by kernel_rfl
theorem alv (ok0:cm->Bool) (g0_0:cm->lJ) (h0:∀ s:cm,ok0 s=true->∃ m e,ao (vk) m s=some e/\(HV g0_0 s).run=some e) (pre:PD->Bool) (F:PD->OT gR.Y) (hF:∀ (x:PD) oy,pre x=true->(F x).run=some oy->(acg ok0 g0_0 (x.1.1) (x.1.2.1) (x.1.2.2.1)).run=some oy):ac Tryz.prog 113 (gR.aI pre F):=
 aD aq wT M2 (f:=113) (fn:=Tryz.f113) (c:=aj Tryz.f113) (by kernel_rfl) (by kernel_rfl) (by kernel_rfl) (S:=gR) (k:=0) (by kernel_rfl) (λR hR=>(aB (c:=(aj Tryz.f113)) (by kernel_rfl) (id:=0) (by kernel_rfl) (aQ aq wT M2 (sh:=AU) hR (xs:=ail) (aC (by kernel_rfl) (by kernel_rfl) hR) aL af (n:=1000) (T:=vk) (λs Q=>ay8 s Q) (ok:=ok0) (f:=HV g0_0) h0) af)) (n:=1000) (sel:=WZ) (λv o h=>by cases h;rfl) (pre:=pre) (F:=F) (T:=λx=>acg ok0 g0_0 (x.1.1) (x.1.2.1) (x.1.2.2.1)) (λx Q=>aED ok0 g0_0 x Q) hF
theorem amw {s:Int} (h:s=0\/s=1) (a b:aa):(⟨(ofP (pS s) a).w0*(ofP (pS s) b).w0%VN s,0,0,0⟩:aa)=bO (pS s) a b:=by
 obtain ⟨hp,h0,h1,_⟩:=Bq h
 rw [hp]
 generalize VN s=m at*
 have ha:=Nat.mod_lt a.nat h0
 have hb:=Nat.mod_lt b.nat h0
 have hc:=Nat.mod_lt (a.nat*b.nat) h0
 have hab:a.nat%m.toNat*(b.nat%m.toNat)<18446744073709551616:=by
  have:a.nat%m.toNat*(b.nat%m.toNat)<=16521217*16521217:=Nat.mul_le_mul (by omega) (by omega)
  omega
 unfold bO
 rw [tc (n:=a.nat*b.nat%m.toNat) (by omega)]
 have e:(ofP m.toNat a).w0*(ofP m.toNat b).w0%m=UInt64.ofNat (a.nat*b.nat%m.toNat):=by
  show UInt64.ofNat (a.nat%m.toNat)*UInt64.ofNat (b.nat%m.toNat)%m=_
  rw [<-UInt64.toNat_inj,UInt64.toNat_mod,UInt64.toNat_mul,UInt64.toNat_ofNat',UInt64.toNat_ofNat',UInt64.toNat_ofNat',Nat.mod_eq_of_lt (a:=a.nat%m.toNat) (by omega),Nat.mod_eq_of_lt (a:=b.nat%m.toNat) (by omega),
   Nat.mod_eq_of_lt (a:=a.nat%m.toNat*(b.nat%m.toNat)) (by omega),Nat.mod_eq_of_lt (a:=a.nat*b.nat%m.toNat) (by omega),<-Nat.mul_mod]
 rw [e]
def BO (p a b:Nat) (n o:Nat):Nat:=cond (ae0 b (255-n)) ((2*o%p+a)%p) (2*o%p)
theorem auW (p a b:Nat) (hb:b<2^256):∀ n,n<=256->upto (BO p a b) 0 n=a*(b/2^(256-n))%p
 |0,_=>by
  show 0=_
  rw [Nat.div_eq_of_lt (by exact hb),Nat.mul_zero,Nat.zero_mod]
 |n+1,hn=>by
  show BO p a b n (upto (BO p a b) 0 n)=_
  rw [auW p a b hb n (by omega)]
  have e1:256-n=(255-n)+1:=by omega
  have e2:256-(n+1)=255-n:=by omega
  rw [e1,e2,Nat.pow_succ,<-Nat.div_div_eq_div_mul]
  unfold BO ae0
  generalize b/2^(255-n)=q
  have hd:2*(a*(q/2)%p)%p=a*(2*(q/2))%p:=by
   rw [Nat.mul_mod,Nat.mod_mod,<-Nat.mul_mod,Nat.mul_left_comm]
  cases hq:Nat.beq (q%2) 1
  ·simp only [cond_false]
   have:¬q%2=1:=λe=>by rw [e] at hq;cases hq
   rw [hd,show 2*(q/2)=q by omega]
  ·have hq:=Nat.eq_of_beq_eq_true hq
   simp only [cond_true]
   rw [hd,Nat.mod_add_mod]
   have e3:a*(2*(q/2))+a=a*q:=by
    rw [<-Nat.mul_succ,show (2*(q/2)).succ=q by omega]
   rw [e3]
theorem aHC {z M:aa} (h:Nat.blt z.nat M.nat=true):z=ofN (z.nat%M.nat):=by
 rw [Nat.mod_eq_of_lt (dy h),vO]
theorem aE4 {n m:Nat} (h:Nat.blt n m=false):m<=n:=by
 rcases Nat.lt_or_ge n m with h'|h'
 ·have:Nat.blt n m=true:=Nat.ble_eq_true_of_le h'
  rw [this] at h;cases h
 ·exact h'
theorem aHB {z M:aa} (h:Nat.blt z.nat M.nat=false) (h2:z.nat<2*M.nat):(eg z M).1=ofN (z.nat%M.nat):=by
 have hle:=aE4 h
 have hz:=jq z
 apply qL
 rw [mN hle,Nat.mod_eq_sub_mod hle,Nat.mod_eq_of_lt (by omega),kl (by omega)]
theorem sum_nat {a b:aa} (h:a.nat+b.nat<115792089237316195423570985008687907853269984665640564039457584007913129639936):(p9 a b).1.nat=a.nat+b.nat:=kl h
theorem Lc {k:Nat} (hk:k<64):(((i2u (k:Int)).toNat:Nat):Int)=(k:Int):=by
 unfold i2u
 rw [UInt64.toNat_ofNat']
 omega
theorem aB9 {b:aa} {n:Nat} (hn:n<256):(bf (List.getD (lst b) (Int.toNat (Int.tdiv (255-(n:Int)) 64)+0) 0) (((i2u (Int.tmod (255-(n:Int)) 64)).toNat:Nat):Int)&&&1==1)=ae0 b.nat (255-n):=by
 have t0:(255:Int)-(n:Int)=((255-n:Nat):Int):=by omega
 rw [t0]
 generalize hk:255-n=k
 have hk2:k<256:=by omega
 have t1:Int.tdiv (k:Int) 64=((k/64:Nat):Int):=by rw [Int.tdiv_eq_ediv_of_nonneg (by omega)];omega
 have t2:Int.tmod (k:Int) 64=((k%64:Nat):Int):=by rw [Int.tmod_eq_emod_of_nonneg (by omega)];omega
 rw [t1,t2,Lc (by omega),Vb,eU _ _ (by omega),Int.toNat_natCast,Nat.add_zero]
 have:=rm (a:=b) (q:=k/64) (r:=k%64) (by omega) (by omega)
 rw [show 64*(k/64)+k%64=k by omega] at this
 unfold ae0
 rw [<-this]
theorem aGH (e f:aa):List.set (List.set (List.set (List.set (lst e) 0 f.w0) 1 f.w1) 2 f.w2) 3 f.w3=lst f:=rfl
theorem aGP (e:aa):(⟨List.getD (lst e) 0 0,List.getD (lst e) 1 0,List.getD (lst e) 2 0,List.getD (lst e) 3 0⟩:aa)=e:=rfl
def auX (A B:aa) (c2:List UInt64) (M:aa) (n o:Nat):cm:=(((),(),(),(),(),255-(n:Int),()),(lst A,lst B,c2,lst M,lst (ofN o),()))
theorem aGa {A B M:aa} {c2:List UInt64} {n o:Nat} (hn:n<256) (hA:A.nat<M.nat) (ho:o<M.nat) (hM:2*M.nat<=115792089237316195423570985008687907853269984665640564039457584007913129639936):
 (vk (auX A B c2 M n o)).run=some (.inl (auX A B c2 M (n+1) (BO M.nat A.nat B.nat n o))):=by
 have e2:(255:Int)-(n:Int)-1=255-((n+1:Nat):Int):=by omega
 have hO:(ofN o).nat=o:=kl (by omega)
 have hz:(p9 (ofN o) (ofN o)).1.nat=2*o:=by rw [sum_nat (by omega),hO];omega
 have hbit:=aB9 (b:=B) hn
 have t0:(255:Int)-(n:Int)=((255-n:Nat):Int):=by omega
 have t1:Int.tdiv (255-(n:Int)) 64=(((255-n)/64:Nat):Int):=by rw [t0,Int.tdiv_eq_ediv_of_nonneg (by omega)];omega
 have gb:∀ z:OT (Sum cm aE),(gd [true&&inR (Int.tdiv (255-(n:Int)) 64),inB (Int.tdiv (255-(n:Int)) 64) 4,decide (Int.toNat (Int.tdiv (255-(n:Int)) 64)+0<(lst B).length)] z).run=z.run:=λz=>ah (by
  simp only [t1,Int.toNat_natCast,Nat.add_zero,cG,List.all_cons,List.all_nil,Bool.and_true,Bool.true_and,Bool.and_eq_true]
  exact ⟨aH (by omega),aN (by omega),decide_eq_true (by omega)⟩)
 have gb2:∀ z:OT (Sum cm aE),(gd [true,true,true,true&&inR (Int.tdiv (255-(n:Int)) 64),inB (Int.tdiv (255-(n:Int)) 64) 4,decide (Int.toNat (Int.tdiv (255-(n:Int)) 64)+0<(lst B).length)] z).run=z.run:=λz=>ah (by
  simp only [t1,Int.toNat_natCast,Nat.add_zero,cG,List.all_cons,List.all_nil,Bool.and_true,Bool.true_and,Bool.and_eq_true]
  exact ⟨aH (by omega),aN (by omega),decide_eq_true (by omega)⟩)
 have hi:inR ((255:Int)-(n:Int)-1)=true:=aH (by omega)
 have gi:∀ z:OT (Sum cm aE),(gd [inR ((255:Int)-(n:Int)-1)] z).run=z.run:=λz=>ah (by simp only [hi,List.all_cons,List.all_nil,Bool.and_true])
 have gi2:∀ z:OT (Sum cm aE),(gd [true,true,true,inR ((255:Int)-(n:Int)-1)] z).run=z.run:=λz=>ah (by simp only [hi,List.all_cons,List.all_nil,Bool.and_true])
 --behind the doubling
 have tail:∀ D:aa,D=ofN (2*o%M.nat)->
  (OT.br (bf (List.getD (lst B) (Int.toNat (Int.tdiv (255-(n:Int)) 64)+0) 0) (((i2u (Int.tmod (255-(n:Int)) 64)).toNat:Nat):Int)&&&1==1)
   (gd [true,true,true,true,true] (OT.br (!Nat.blt (p9 D A).1.nat M.nat)
    (gd [true,true,true,inR ((255:Int)-(n:Int)-1)] (.ok (.inl (((),(),(),(),(),(255:Int)-(n:Int)-1,()),(lst A,lst B,c2,lst M,lst (eg (p9 D A).1 M).1,())))))
    (gd [inR ((255:Int)-(n:Int)-1)] (.ok (.inl (((),(),(),(),(),(255:Int)-(n:Int)-1,()),(lst A,lst B,c2,lst M,lst (p9 D A).1,())))))))
   (gd [inR ((255:Int)-(n:Int)-1)] (.ok (.inl (((),(),(),(),(),(255:Int)-(n:Int)-1,()),(lst A,lst B,c2,lst M,lst D,()))))):OT (Sum cm aE)).run
  =some (.inl (auX A B c2 M (n+1) (BO M.nat A.nat B.nat n o))):=λD hD=>by
  rw [hbit,e2]
  rw [e2] at gi gi2
  have hlt:=Nat.mod_lt (2*o) (show 0<M.nat by omega)
  have hDn:D.nat=2*o%M.nat:=by rw [hD];exact kl (by omega)
  have hw:(p9 D A).1.nat=2*o%M.nat+A.nat:=by rw [sum_nat (by omega),hDn]
  unfold BO
  rcases (Bool.eq_false_or_eq_true (ae0 B.nat (255-n))).symm with hb|hb
  ·rw [hb,hD]
   exact (OT.ar rfl).trans (gi _)
  ·rw [hb]
   refine (OT.ap rfl).trans ((ah rfl).trans ?_)
   rcases (Bool.eq_false_or_eq_true (Nat.blt (p9 D A).1.nat M.nat)).symm with hc|hc
   ·have er:=aHB hc (by omega)
    rw [hw] at er
    refine (OT.ap (by rw [hc];rfl)).trans ((gi2 _).trans ?_)
    rw [er]
    rfl
   ·have er:=aHC hc
    rw [hw] at er
    refine (OT.ar (by rw [hc];rfl)).trans ((gi _).trans ?_)
    rw [er]
    rfl
 show (SR (255-(n:Int)) (lst A) (lst B) c2 (lst M) (lst (ofN o))).run=_
 unfold SR
 simp only [aGH,aGP,cG]
 refine (OT.ap (decide_eq_true (by omega))).trans ((ah rfl).trans ?_)
 rcases (Bool.eq_false_or_eq_true (Nat.blt (p9 (ofN o) (ofN o)).1.nat M.nat)).symm with hc|hc
 ·have er:=aHB hc (by omega)
  rw [hz] at er
  exact (OT.ap (b:= !Nat.blt (p9 (ofN o) (ofN o)).1.nat M.nat) (by rw [hc];rfl)).trans ((gb2 _).trans (tail _ er))
 ·have er:=aHC hc
  rw [hz] at er
  exact (OT.ar (b:= !Nat.blt (p9 (ofN o) (ofN o)).1.nat M.nat) (by rw [hc];rfl)).trans ((gb _).trans (tail _ er))
def W0 (s:cm):Bool:=decide (s.1.2.2.2.2.2.1=255/\s.2.1.length=4/\s.2.2.1.length=4/\s.2.2.2.2.1.length=4/\s.2.2.2.2.2.1= [0,0,0,0]/\(elemOf s.2.1).nat<(elemOf s.2.2.2.2.1).nat/\2*(elemOf s.2.2.2.2.1).nat<=115792089237316195423570985008687907853269984665640564039457584007913129639936)
def aim (s:cm):lJ:=(((),(),()),(s.2.2.2.1,lst (ofN ((elemOf s.2.1).nat*(elemOf s.2.2.1).nat%(elemOf s.2.2.2.2.1).nat)),()))
theorem aza:∀ s:cm,W0 s=true->∃ m e,ao vk m s=some e/\(HV aim s).run=some e:=by
 rintro ⟨⟨⟨⟩,⟨⟩,⟨⟩,⟨⟩,⟨⟩,i,⟨⟩⟩,⟨l0,l1,c2,l3,l4,⟨⟩⟩⟩ h
 have h':=of_decide_eq_true h
 dsimp only at h'
 obtain ⟨rfl,h0,h1,h3,rfl,hA,hM⟩:=h'
 obtain ⟨A,rfl⟩:∃ a,l0=lst a:=⟨elemOf l0,(aS h0).symm⟩
 obtain ⟨B,rfl⟩:∃ a,l1=lst a:=⟨elemOf l1,(aS h1).symm⟩
 obtain ⟨M,rfl⟩:∃ a,l3=lst a:=⟨elemOf l3,(aS h3).symm⟩
 have hA:A.nat<M.nat:=hA
 have:=(aP (T:=vk) (auX A B c2 M) (BO M.nat A.nat B.nat)
  (λo=>(⟨(.exit 0,vj),(((),(),()),(c2,lst (ofN o),()))⟩:aE)) 256 0 (λ_ o=>o<M.nat) (by omega) (λn o hn ho=>⟨aGa hn hA ho hM,?_⟩) (λo ho=> ?_)).1
 ·rw [auW M.nat A.nat B.nat (jq B) 256 (by omega),Nat.sub_self,Nat.pow_zero,Nat.div_one] at this
  obtain ⟨m,hm⟩:=this
  exact ⟨m,_,hm,rfl⟩
 ·unfold BO
  cases ae0 B.nat (255-n)
  ·exact Nat.mod_lt _ (by omega)
  ·exact Nat.mod_lt _ (by omega)
 ·exact OT.ar (decide_eq_false (by dsimp only [auX];omega))
def eY (x:PD):Bool:=al x.1.1
def asc (x:PD):OT gR.Y:=.ok ⟨dq,((bO (pS x.1.1) x.1.2.1 x.1.2.2.1,()),())⟩
theorem as7 {s:Int} (hs:al s=true) (a b:aa):ofN ((ofP (pS s) a).nat*(ofP (pS s) b).nat%pS s)=bO (pS s) a b:=by
 have hp:=ni hs
 unfold ofP bO
 rw [cZ hp,cZ hp,<-Nat.mul_mod]
theorem ay9:ac Tryz.prog 113 (gR.aI eY asc):=alv W0 aim aza _ _ λx oy hp ho=>by
 rw [<-ho]
 clear ho
 obtain ⟨⟨s,a,b,⟨⟩⟩,⟨⟩⟩:=x
 have hs:al s=true:=hp
 show _=some (⟨dq,((bO (pS s) a b,()),())⟩:gR.Y)
 have little:(s=0\/s=1)->(gd [!(VN s==0)] (.ok ⟨dq,((⟨(ofP (pS s) a).w0*(ofP (pS s) b).w0%VN s,0,0,0⟩,()),())⟩):OT gR.Y).run=some (⟨dq,((bO (pS s) a b,()),())⟩:gR.Y):=λh=>by
  obtain ⟨_,_,_,hz⟩:=Bq h
  rw [amw h]
  exact ah (by simp only [hz,List.all_cons,List.all_nil,Bool.and_true])
 by_cases h0:s=0
 ·exact (OT.ap (by simpa using h0)).trans ((OT.ap hs).trans ((OT.ap hs).trans (little (.inl h0))))
 ·refine (OT.ar (by simpa using h0)).trans ?_
  by_cases h1:s=1
  ·exact (OT.ap (by simpa using h1)).trans ((OT.ap hs).trans ((OT.ap hs).trans (little (.inr h1))))
  ·refine (OT.ar (by simpa using h1)).trans ((OT.ap hs).trans ((OT.ap hs).trans ((OT.ap hs).trans ?_)))
   have hpp:=ni hs
   have hA:(ofP (pS s) a).nat<pS s:=by
    show (ofN _).nat<_
    rw [cZ hpp]
    exact Nat.mod_lt _ hpp.1
   refine (ah ?_).trans ?_
   ·simp only [List.all_cons,List.all_nil,Bool.and_true,Bool.and_eq_true]
    exact ⟨decide_eq_true ⟨rfl,rfl,rfl,rfl,rfl,hA,(by show 2*pS s<=_;omega)⟩,rfl,rfl,rfl⟩
   ·rw [<-as7 hs]
    show some (⟨dq,((elemOf (lay [0,0,0,0] (lst (ofN ((ofP (pS s) a).nat*(ofP (pS s) b).nat%pS s))) 4 0),()),())⟩:gR.Y)=_
    rw [aGL _ _ rfl rfl]
    rfl
def DZ:cj:=(gR.aI eY asc)
theorem acf:ac Tryz.prog 113 DZ:=ay9
theorem ace:aG DZ:=aA
def zx:Env:=ay 113 DZ FI
theorem pI:aR Tryz.prog zx:=ag acf wT
theorem GY:ax zx:=ae ace GX
theorem zw:aW Tryz.prog te zx:=aK follows aq pI GY
def jx:aw:=⟨[.val false .int,.val true .elem,.val true .elem],[],true,0,false⟩
abbrev PM:Type:=((Int)×(aa)×(aa)×Unit)×(Unit)
def AZ:Shape:=⟨53,[(0,.val false .int),(4,.ptr 0 0 0),(5,.ptr 1 0 0),(6,.ptr 2 0 0),(7,.ptr 3 0 0),(8,.val false .int)],[(0,.row .u64),(1,.row .u64),(2,.row .u64),(3,.row .u64)],0,true⟩
abbrev cT:Type:=((Int)×(Unit)×(Unit)×(Unit)×(Unit)×(Int)×Unit)×((List (UInt64))×(List (UInt64))×(List (UInt64))×(List (UInt64))×Unit)
def ov:Shape:=⟨53,[(0,.val false .int),(4,.ptr 0 0 0),(5,.ptr 1 0 0),(6,.ptr 2 0 0),(7,.ptr 3 0 0),(8,.val false .int)],[(0,.row .u64),(1,.row .u64),(2,.row .u64),(3,.row .u64)],0,true⟩
abbrev lO:Type:=((Int)×(Unit)×(Unit)×(Unit)×(Unit)×(Int)×Unit)×((List (UInt64))×(List (UInt64))×(List (UInt64))×(List (UInt64))×Unit)
def ais:SE->Option Shape:=fw [(0,ov)] none
def azj (a0:Int) (a8:Int) (c0:List (UInt64)) (c1:List (UInt64)) (c2:List (UInt64)) (c3:List (UInt64)):OT (Sum cT aE):=
 let z0:Int:=Int.tdiv a8 (64:Int)
 (.br (decide ((0:Int)<=a8))
 (gd [true&&inR z0,inB z0 4,decide (Int.toNat z0+0<List.length c1)] (.br (bf (List.getD c1 (Int.toNat z0+0) (0:UInt64)) (↑(UInt64.toNat (i2u (Int.tmod a8 (64:Int)))):Int)&&&(1:UInt64)==(0:UInt64))
  (gd [inR (a8-(1:Int))] (.ok (.inl ((a0,((),((),((),((),(a8-(1:Int),())))))),(c0,(c1,(c2,(c3,()))))))))
  (.ok (.inr ⟨(.exit 0,ov),((a0,((),((),((),((),(a8,())))))),(c0,(c1,(c2,(c3,())))))⟩))))
 (.ok (.inr ⟨(.exit 0,ov),((a0,((),((),((),((),(a8,())))))),(c0,(c1,(c2,(c3,())))))⟩)))
def A0 (s:cT):OT (Sum cT aE):=azj (s.1.1) (s.1.2.2.2.2.2.1) (s.2.1) (s.2.2.1) (s.2.2.2.1) (s.2.2.2.2.1)
theorem azf (s:cT) (Q:Sum cT aE->Prop):wps te zx av 1000 (aU (aj Tryz.f129) 0) (AZ.inj s) (bX AZ ais (Q:Sum AZ.T aE->Prop))=(A0 s).wpR Q:=by kernel_rfl
def HX (g0_0:cT->lO) (s:cT):OT aE:=(.ok ⟨(.exit 0,ov),g0_0 s⟩)
def AY:Shape:=⟨53,[(0,.val false .int),(4,.ptr 0 0 0),(5,.ptr 1 0 0),(6,.ptr 2 0 0),(7,.ptr 3 0 0),(9,.val false .int)],[(0,.row .u64),(1,.row .u64),(2,.row .u64),(3,.row .u64)],0,true⟩
abbrev db:Type:=((Int)×(Unit)×(Unit)×(Unit)×(Unit)×(Int)×Unit)×((List (UInt64))×(List (UInt64))×(List (UInt64))×(List (UInt64))×Unit)
def vo:Shape:=⟨53,[(6,.ptr 0 0 0),(7,.ptr 1 0 0)],[(0,.row .u64),(1,.row .u64)],0,true⟩
abbrev lN:Type:=((Unit)×(Unit)×Unit)×((List (UInt64))×(List (UInt64))×Unit)
def air:SE->Option Shape:=fw [(2,vo)] none
def SY (a0:Int) (a9:Int) (c0:List (UInt64)) (c1:List (UInt64)) (c2:List (UInt64)) (c3:List (UInt64)):OT (Sum db aE):=
 let z0:Nat:=List.length c3
 let z1:Bool:=decide (4<=z0)
 let z2:aa:= {w0:=List.getD c3 0 0,w1:=List.getD c3 1 0,w2:=List.getD c3 2 0,w3:=List.getD c3 3 0}
 let z3:Int:=Int.tdiv a9 (64:Int)
 let z4:Nat:=pS a0
 let z5:aa:=bO z4 z2 z2
 let z6:List UInt64:=List.set (List.set (List.set (List.set c3 0 z5.w0) 1 z5.w1) 2 z5.w2) 3 z5.w3
 let z7:Nat:=List.length z6
 let z8:aa:= {w0:=List.getD z6 0 0,w1:=List.getD z6 1 0,w2:=List.getD z6 2 0,w3:=List.getD z6 3 0}
 let z9:aa:= {w0:=List.getD c0 0 0,w1:=List.getD c0 1 0,w2:=List.getD c0 2 0,w3:=List.getD c0 3 0}
 let z10:Bool:=inR (a9-(1:Int))
 let z11:aa:=bO z4 z8 z9
 (.br (decide ((0:Int)<=a9))
 (gd [z1,z1,eY ((a0,z2,z2,()),()),decide ((4/1:Nat)+0<=z0),true&&inR z3,inB z3 4,decide (Int.toNat z3+0<List.length c1)] (.br (bf (List.getD c1 (Int.toNat z3+0) (0:UInt64)) (↑(UInt64.toNat (i2u (Int.tmod a9 (64:Int)))):Int)&&&(1:UInt64)==(1:UInt64))
  (gd [decide (4<=z7),decide (4<=List.length c0),eY ((a0,z8,z9,()),()),decide ((4/1:Nat)+0<=z7),z10] (.ok (.inl ((a0,((),((),((),((),(a9-(1:Int),())))))),(c0,(c1,(c2,(List.set (List.set (List.set (List.set z6 0 z11.w0) 1 z11.w1) 2 z11.w2) 3 z11.w3,()))))))))
  (gd [z10] (.ok (.inl ((a0,((),((),((),((),(a9-(1:Int),())))))),(c0,(c1,(c2,(z6,()))))))))))
 (.ok (.inr ⟨(.exit 2,vo),(((),((),())),(c2,(c3,())))⟩)))
def vp (s:db):OT (Sum db aE):=SY (s.1.1) (s.1.2.2.2.2.2.1) (s.2.1) (s.2.2.1) (s.2.2.2.1) (s.2.2.2.2.1)
theorem aze (s:db) (Q:Sum db aE->Prop):wps te zx av 1000 (aU (aj Tryz.f129) 2) (AY.inj s) (bX AY air (Q:Sum AY.T aE->Prop))=(vp s).wpR Q:=by kernel_rfl
def HW (g2_2:db->lN) (s:db):OT aE:=(.ok ⟨(.exit 2,vo),g2_2 s⟩)
def vn:az:=⟨[.val true .elem],[],false⟩
def Xd:SV->Option az:=λ_=>some vn
def acz (ok0:cT->Bool) (g0_0:cT->lO) (ok2:db->Bool) (g2_2:db->lN) (a0:Int) (a1:aa) (a2:aa):OT jx.Y:=
 let z0:Int×PUnit×PUnit×PUnit×PUnit×Int×PUnit:=(a0,(),(),(),(),(255:Int),())
 let z1:aa:=ofP (pS a0) {w0:=1,w1:=0,w2:=0,w3:=0}
 let z2:(Int×PUnit×PUnit×PUnit×PUnit×Int×PUnit)×List UInt64×List UInt64×List UInt64×List UInt64×PUnit:=(z0,[a1.w0,a1.w1,a1.w2,a1.w3],[a2.w0,a2.w1,a2.w2,a2.w3],[(0:UInt64),(0:UInt64),(0:UInt64),(0:UInt64)],[z1.w0,z1.w1,z1.w2,z1.w3],())
 let z3:(Int×PUnit×PUnit×PUnit×PUnit×Int×PUnit)×List UInt64×List UInt64×List UInt64×List UInt64×PUnit:=g0_0 z2
 let z4:=z3.fst
 let z5:=z3.snd
 let z6:=z5.snd
 let z7:=z6.snd
 let z8:(Int×PUnit×PUnit×PUnit×PUnit×Int×PUnit)×List UInt64×List UInt64×List UInt64×List UInt64×PUnit:=((z4.fst,(),(),(),(),z4.snd.snd.snd.snd.snd.fst,()),z5.fst,z6.fst,z7.fst,z7.snd.fst,())
 let z9:=(g2_2 z8).snd
 let z10:=z9.snd.fst
 let z11:=z9.fst
 let z12:List UInt64:=lay z11 z10 4 (0:UInt64)
 let z13:(Int×PUnit×PUnit×PUnit×PUnit×Int×PUnit)×List UInt64×List UInt64×List UInt64×List UInt64×PUnit:=(z0,[a1.w0,a1.w1,a1.w2,a1.w3],[a2.w0,a2.w1,a2.w2,a2.w3],[(0:UInt64),(0:UInt64),(0:UInt64),(0:UInt64)],[(0:UInt64),(0:UInt64),(0:UInt64),(0:UInt64)],())
 let z14:(Int×PUnit×PUnit×PUnit×PUnit×Int×PUnit)×List UInt64×List UInt64×List UInt64×List UInt64×PUnit:=g0_0 z13
 let z15:=z14.fst
 let z16:=z14.snd
 let z17:=z16.snd
 let z18:=z17.snd
 let z19:(Int×PUnit×PUnit×PUnit×PUnit×Int×PUnit)×List UInt64×List UInt64×List UInt64×List UInt64×PUnit:=((z15.fst,(),(),(),(),z15.snd.snd.snd.snd.snd.fst,()),z16.fst,z17.fst,z18.fst,z18.snd.fst,())
 let z20:=(g2_2 z19).snd
 let z21:=z20.snd.fst
 let z22:=z20.fst
 let z23:List UInt64:=lay z22 z21 4 (0:UInt64)
 (.br (al a0)
 (gd [ok0 z2,ok2 z8,decide (4<=List.length z10),decide ((4/1:Nat)+0<=List.length z11),decide (4<=List.length z12)] (.ok ⟨vn,(({w0:=List.getD z12 0 0,w1:=List.getD z12 1 0,w2:=List.getD z12 2 0,w3:=List.getD z12 3 0},()),())⟩))
 (gd [ok0 z13,ok2 z19,decide (4<=List.length z21),decide ((4/1:Nat)+0<=List.length z22),decide (4<=List.length z23)] (.ok ⟨vn,(({w0:=List.getD z23 0 0,w1:=List.getD z23 1 0,w2:=List.getD z23 2 0,w3:=List.getD z23 3 0},()),())⟩)))
theorem aEH (ok0:cT->Bool) (g0_0:cT->lO) (ok2:db->Bool) (g2_2:db->lN) (x:PM) (Q:jx.Y->Prop):wpf te zx (aO 2 (cg AY 2 ok2 (HW g2_2)) (aO 0 (cg AZ 0 ok0 (HX g0_0)) av)) 1000 Tryz.f129 (jx.inp.inj x).tm (jx.inp.inj x).hp (fnK jx Xd Q) (λ_ _=>False)=(acz ok0 g0_0 ok2 g2_2 (x.1.1) (x.1.2.1) (x.1.2.2.1)).wpR Q:=by kernel_rfl
theorem alE (ok0:cT->Bool) (g0_0:cT->lO) (ok2:db->Bool) (g2_2:db->lN) (h0:∀ s:cT,ok0 s=true->∃ m e,ao (A0) m s=some e/\(HX g0_0 s).run=some e) (h2:∀ s:db,ok2 s=true->∃ m e,ao (vp) m s=some e/\(HW g2_2 s).run=some e) (pre:PM->Bool) (F:PM->OT jx.Y) (hF:∀ (x:PM) oy,pre x=true->(F x).run=some oy->(acz ok0 g0_0 ok2 g2_2 (x.1.1) (x.1.2.1) (x.1.2.2.1)).run=some oy):ac Tryz.prog 129 (jx.aI pre F):=
 aD aq pI zw (f:=129) (fn:=Tryz.f129) (c:=aj Tryz.f129) (by kernel_rfl) (by kernel_rfl) (by kernel_rfl) (S:=jx) (k:=0) (by kernel_rfl) (λR hR=>(aB (c:=(aj Tryz.f129)) (by kernel_rfl) (id:=2) (by kernel_rfl) (aQ aq pI zw (sh:=AY) hR (xs:=air) (aC (by kernel_rfl) (by kernel_rfl) hR) aL af (n:=1000) (T:=vp) (λs Q=>aze s Q) (ok:=ok2) (f:=HW g2_2) h2) (aB (c:=(aj Tryz.f129)) (by kernel_rfl) (id:=0) (by kernel_rfl) (aQ aq pI zw (sh:=AZ) hR (xs:=ais) (aC (by kernel_rfl) (by kernel_rfl) hR) aL af (n:=1000) (T:=A0) (λs Q=>azf s Q) (ok:=ok0) (f:=HX g0_0) h0) af))) (n:=1000) (sel:=Xd) (λv o h=>by cases h;rfl) (pre:=pre) (F:=F) (T:=λx=>acz ok0 g0_0 ok2 g2_2 (x.1.1) (x.1.2.1) (x.1.2.2.1)) (λx Q=>aEH ok0 g0_0 ok2 g2_2 x Q) hF
theorem acU {p:Nat}:∀ (n o x k:Nat),k<2^n->o<p->aBK p n o x k=o*x^k%p
 |0,o,x,k,hk,ho=>by
  have:k=0:=by omega
  subst this
  show o=_
  rw [Nat.pow_zero,Nat.mul_one,Nat.mod_eq_of_lt ho]
 |n+1,o,x,k,hk,ho=>by
  unfold aBK
  rw [Nat.pow_succ] at hk
  cases h0:Nat.beq k 0
  ·simp only [cond_false]
   have hsq:(x*x%p)^(k/2)%p=x^(2*(k/2))%p:=by
    rw [<-Nat.pow_mod,Nat.pow_mul,Nat.pow_two]
   cases h1:Nat.beq (k%2) 1
   ·have h1':¬k%2=1:=λe=>by rw [e] at h1;cases h1
    simp only [cond_false]
    rw [acU n _ _ _ (by omega) ho,Nat.mul_mod,hsq,<-Nat.mul_mod,show 2*(k/2)=k by omega]
   ·have h1:=Nat.eq_of_beq_eq_true h1
    simp only [cond_true]
    rw [acU n _ _ _ (by omega) (Nat.mod_lt _ (by omega)),Nat.mul_mod,hsq,Nat.mod_mod,<-Nat.mul_mod,Nat.mul_assoc,<-Nat.pow_succ',show (2*(k/2)).succ=k by omega]
  ·have h0:=Nat.eq_of_beq_eq_true h0
   subst h0
   simp only [cond_true]
   rw [Nat.pow_zero,Nat.mul_one,Nat.mod_eq_of_lt ho]
theorem auE {p:Nat} (hp:1<p) (a k:aa):gN p a k=ofN (a.nat^k.nat%p):=by
 rw [UB (by omega),acU 256 1 _ _ (jq k) hp,Nat.one_mul,<-Nat.pow_mod]
theorem aJG {b:aa} {k:Nat} (hk:k<256):(bf (List.getD (lst b) (Int.toNat (Int.tdiv (k:Int) 64)+0) 0) (((i2u (Int.tmod (k:Int) 64)).toNat:Nat):Int)&&&1==1)=ae0 b.nat k:=by
 have h:=aB9 (b:=b) (n:=255-k) (by omega)
 rw [show (255:Int)-((255-k:Nat):Int)=(k:Int) by omega,show 255-(255-k)=k by omega] at h
 exact h
theorem aCj (x:UInt64):(x&&&1==0)= !(x&&&1==1):=by
 have h:=Vb x
 have e:(x&&&1).toNat=x.toNat%2:=by
  rw [UInt64.toNat_and]
  exact Nat.and_two_pow_sub_one_eq_mod x.toNat 1
 have h2:x.toNat%2=0\/x.toNat%2=1:=by omega
 rcases h2 with h2|h2
 ·have:x&&&1=0:=UInt64.toNat_inj.1 (by rw [e,h2];rfl)
  rw [this];rfl
 ·have:x&&&1=1:=UInt64.toNat_inj.1 (by rw [e,h2];rfl)
  rw [this];rfl
def aCJ (e:Nat):Nat->Int
 |0=> -1
 |n+1=>cond (ae0 e n) (n:Int) (aCJ e n)
theorem aky {e n:Nat} (h:ae0 e n=false):e/2^n%2=0:=by
 unfold ae0 at h
 have:¬e/2^n%2=1:=λe=>by rw [e] at h;cases h
 omega
theorem V2 (e:Nat):∀ n,e/2^n=0->∃ t:Nat,aCJ e n=(t:Int)-1/\t<=n/\e/2^t=0
 |0,h=>⟨0,rfl,Nat.le_refl _,h⟩
 |n+1,h=>by
  unfold aCJ
  cases hb:ae0 e n
  ·simp only [cond_false]
   have h0:=aky hb
   have h1:e/2^n/2=0:=by rw [Nat.div_div_eq_div_mul,<-Nat.pow_succ];exact h
   obtain ⟨t,e1,e2,e3⟩:=V2 e n (by omega)
   exact ⟨t,e1,by omega,e3⟩
  ·exact ⟨n+1,by simp only [cond_true];omega,Nat.le_refl _,h⟩
def OG (s:Int) (A B:aa) (c2:List UInt64) (O:aa) (i:Int):cT:=((s,(),(),(),(),i,()),(lst A,lst B,c2,lst O,()))
theorem aIo {B:aa} {k:Nat} (hk:k<256) {α:Type} (z:OT α):(gd [true&&inR (Int.tdiv (k:Int) 64),inB (Int.tdiv (k:Int) 64) 4,decide (Int.toNat (Int.tdiv (k:Int) 64)+0<(lst B).length)] z).run=z.run:=by
 have t1:Int.tdiv (k:Int) 64=((k/64:Nat):Int):=by rw [Int.tdiv_eq_ediv_of_nonneg (by omega)];omega
 refine ah ?_
 simp only [t1,Int.toNat_natCast,Nat.add_zero,cG,List.all_cons,List.all_nil,Bool.and_true,Bool.true_and,Bool.and_eq_true]
 exact ⟨aH (by omega),aN (by omega),decide_eq_true (by omega)⟩
theorem ajT (s:Int) (A B:aa) (c2:List UInt64) (O:aa):∀ n:Nat,n<=256->∃ m,ao A0 m (OG s A B c2 O ((n:Int)-1))=some ⟨(.exit 0,ov),OG s A B c2 O (aCJ B.nat n)⟩
 |0,_=>⟨1,aM (OT.ar (decide_eq_false (by dsimp only [OG];omega)))⟩
 |n+1,hn=>by
  have e1:((n+1:Nat):Int)-1=(n:Int):=by omega
  rw [e1]
  have hb:=aJG (b:=B) (k:=n) (by omega)
  unfold aCJ
  rcases (Bool.eq_false_or_eq_true (ae0 B.nat n)).symm with h|h
  ·obtain ⟨m,hm⟩:=ajT s A B c2 O n (by omega)
   rw [h] at hb⊢
   refine ⟨m+1,aF ?_ hm⟩
   refine (OT.ap (decide_eq_true (by dsimp only [OG];omega))).trans ((aIo (B:=B) (k:=n) (by omega) _).trans ((OT.ap ?_).trans ((ah ?_).trans rfl)))
   ·exact (aCj _).trans (congrArg Bool.not hb)
   ·simp only [List.all_cons,List.all_nil,Bool.and_true]
    exact aH (by dsimp only [OG];omega)
  ·rw [h] at hb⊢
   refine ⟨1,aM ?_⟩
   refine (OT.ap (decide_eq_true (by dsimp only [OG];omega))).trans ((aIo (B:=B) (k:=n) (by omega) _).trans ((OT.ar ?_).trans rfl))
   exact (aCj _).trans (congrArg Bool.not hb)
def Xe (s:cT):Bool:=decide (s.1.2.2.2.2.2.1=255/\s.2.1.length=4/\s.2.2.1.length=4/\s.2.2.2.2.1.length=4)
def aiu (s:cT):lO:=((s.1.1,(),(),(),(),aCJ (elemOf s.2.2.1).nat 256,()),s.2)
theorem azi:∀ s:cT,Xe s=true->∃ m e,ao A0 m s=some e/\(HX aiu s).run=some e:=by
 rintro ⟨⟨s,⟨⟩,⟨⟩,⟨⟩,⟨⟩,i,⟨⟩⟩,⟨l0,l1,c2,l3,⟨⟩⟩⟩ h
 have h':=of_decide_eq_true h
 dsimp only at h'
 obtain ⟨rfl,h0,h1,h3⟩:=h'
 obtain ⟨A,rfl⟩:∃ a,l0=lst a:=⟨elemOf l0,(aS h0).symm⟩
 obtain ⟨B,rfl⟩:∃ a,l1=lst a:=⟨elemOf l1,(aS h1).symm⟩
 obtain ⟨O,rfl⟩:∃ a,l3=lst a:=⟨elemOf l3,(aS h3).symm⟩
 obtain ⟨m,hm⟩:=ajT s A B c2 O 256 (by omega)
 exact ⟨m,_,hm,rfl⟩
theorem aFY {s:Int} (hs:al s=true) (A B:aa) (c2:List UInt64) (O:aa) {k:Nat} (hk:k<256) (hO:O=ofN (A.nat^(B.nat/2^(k+1))%pS s)):
 (vp (OG s A B c2 O (k:Int))).run=some (.inl (OG s A B c2 (ofN (A.nat^(B.nat/2^k)%pS s)) ((k:Int)-1))):=by
 have hp:=ni hs
 have hb:=aJG (b:=B) (k:=k) hk
 have t1:Int.tdiv (k:Int) 64=((k/64:Nat):Int):=by rw [Int.tdiv_eq_ediv_of_nonneg (by omega)];omega
 have hOn:O.nat=A.nat^(B.nat/2^(k+1))%pS s:=by rw [hO];exact cZ hp
 have hi:inR ((k:Int)-1)=true:=aH (by omega)
 have hpre:∀ x y,eY ((s,x,y,()),())=true:=λ_ _=>hs
 have hD:bO (pS s) O O=ofN (A.nat^(2*(B.nat/2^(k+1)))%pS s):=by
  unfold bO
  rw [hOn,<-Nat.mul_mod,<-Nat.pow_add,<-Nat.two_mul]
 have hq:B.nat/2^k/2=B.nat/2^(k+1):=by rw [Nat.div_div_eq_div_mul,<-Nat.pow_succ]
 show (SY s (k:Int) (lst A) (lst B) c2 (lst O)).run=_
 unfold SY
 simp only [aGH,aGP,cG,hpre,hi]
 refine (OT.ap (decide_eq_true (by omega))).trans ((ah ?_).trans ?_)
 ·simp only [t1,Int.toNat_natCast,Nat.add_zero,cG,List.all_cons,List.all_nil,Bool.and_true,Bool.true_and,Bool.and_eq_true]
  exact ⟨rfl,rfl,rfl,aH (by omega),aN (by omega),decide_eq_true (by omega)⟩
 ·rcases (Bool.eq_false_or_eq_true (ae0 B.nat k)).symm with h|h
  ·have h0:=aky h
   rw [h] at hb
   refine (OT.ar hb).trans ((ah rfl).trans ?_)
   rw [hD,<-hq,show 2*(B.nat/2^k/2)=B.nat/2^k by omega]
   rfl
  ·have h0:B.nat/2^k%2=1:=Nat.eq_of_beq_eq_true h
   rw [h] at hb
   refine (OT.ap hb).trans ((ah rfl).trans ?_)
   have e:bO (pS s) (bO (pS s) O O) A=ofN (A.nat^(B.nat/2^k)%pS s):=by
    have e2:(bO (pS s) O O).nat=A.nat^(2*(B.nat/2^(k+1)))%pS s:=by rw [hD];exact cZ hp
    show ofN (_*_%_)=_
    rw [e2,Nat.mod_mul_mod,<-Nat.pow_succ,<-hq,show (2*(B.nat/2^k/2)).succ=B.nat/2^k by omega]
   rw [e]
   rfl
theorem ajS {s:Int} (hs:al s=true) (A B:aa) (c2:List UInt64):∀ (n:Nat) (O:aa),n<=256->O=ofN (A.nat^(B.nat/2^n)%pS s)->
 ∃ m,ao vp m (OG s A B c2 O ((n:Int)-1))=some ⟨(.exit 2,vo),(((),(),()),(c2,lst (ofN (A.nat^B.nat%pS s)),()))⟩
 |0,O,_,hO=>by
  rw [Nat.pow_zero,Nat.div_one] at hO
  rw [<-hO]
  exact ⟨1,aM (OT.ar (decide_eq_false (by dsimp only [OG];omega)))⟩
 |n+1,O,hn,hO=>by
  obtain ⟨m,hm⟩:=ajS hs A B c2 n (ofN (A.nat^(B.nat/2^n)%pS s)) (by omega) rfl
  rw [show ((n+1:Nat):Int)-1=(n:Int) by omega]
  exact ⟨m+1,aF (aFY hs A B c2 O (by omega) hO) hm⟩
def JK (s:db):Bool:=al s.1.1&&decide (s.1.2.2.2.2.2.1=aCJ (elemOf s.2.2.1).nat 256/\s.2.1.length=4/\s.2.2.1.length=4/\s.2.2.2.2.1=lst (ofP (pS s.1.1) ⟨1,0,0,0⟩))
def ait (s:db):lN:=(((),(),()),(s.2.2.2.1,lst (ofN ((elemOf s.2.1).nat^(elemOf s.2.2.1).nat%pS s.1.1)),()))
theorem azh:∀ s:db,JK s=true->∃ m e,ao vp m s=some e/\(HW ait s).run=some e:=by
 rintro ⟨⟨s,⟨⟩,⟨⟩,⟨⟩,⟨⟩,i,⟨⟩⟩,⟨l0,l1,c2,l3,⟨⟩⟩⟩ h
 simp only [JK,Bool.and_eq_true,decide_eq_true_eq] at h
 obtain ⟨hs,rfl,h0,h1,rfl⟩:=h
 obtain ⟨A,rfl⟩:∃ a,l0=lst a:=⟨elemOf l0,(aS h0).symm⟩
 obtain ⟨B,rfl⟩:∃ a,l1=lst a:=⟨elemOf l1,(aS h1).symm⟩
 obtain ⟨t,e1,e2,e3⟩:=V2 B.nat 256 (Nat.div_eq_of_lt (jq B))
 obtain ⟨m,hm⟩:=ajS hs A B c2 t (ofP (pS s) ⟨1,0,0,0⟩) e2 (by rw [e3,Nat.pow_zero];rfl)
 rw [<-e1] at hm
 exact ⟨m,_,hm,rfl⟩
theorem aHK {s:Int} (h:al s=true):1<pS s:=aBM h
def ou (x:PM):Bool:=al x.1.1
def asn (x:PM):OT jx.Y:=.ok ⟨vn,((gN (pS x.1.1) x.1.2.1 x.1.2.2.1,()),())⟩
theorem azg:ac Tryz.prog 129 (jx.aI ou asn):=alE Xe aiu JK ait azi azh _ _ λx oy hp ho=>by
 rw [<-ho]
 clear ho
 obtain ⟨⟨s,a,b,⟨⟩⟩,⟨⟩⟩:=x
 have hs:al s=true:=hp
 show _=some (⟨vn,((gN (pS s) a b,()),())⟩:jx.Y)
 rw [auE (aHK hs)]
 refine (OT.ap hs).trans ((ah ?_).trans ?_)
 ·simp only [List.all_cons,List.all_nil,Bool.and_true,Bool.and_eq_true]
  refine ⟨decide_eq_true ⟨rfl,rfl,rfl,rfl⟩,?_,rfl,rfl,rfl⟩
  refine (Bool.and_eq_true _ _).mpr ⟨hs,?_⟩
  exact decide_eq_true ⟨rfl,rfl,rfl,rfl⟩
 ·show some (⟨vn,((elemOf (lay [0,0,0,0] (lst (ofN (a.nat^b.nat%pS s))) 4 0),()),())⟩:jx.Y)=_
  rw [aGL _ _ rfl rfl]
  rfl
def D6:cj:=(jx.aI ou asn)
theorem acy:ac Tryz.prog 129 D6:=azg
theorem acx:aG D6:=aA
def FN:Env:=ay 129 D6 zx
theorem wX:aR Tryz.prog FN:=ag acy pI
theorem G3:ax FN:=ae acx GY
theorem M7:aW Tryz.prog te FN:=aK follows aq wX G3
def gK:aw:=⟨[.val true .elem],[],true,0,false⟩
abbrev D5:Type:=((aa)×Unit)×(Unit)
def sO:Shape:=⟨29,[(1,.ptr 0 0 0),(2,.ptr 1 0 0),(3,.ptr 2 0 0),(4,.val false .int)],[(0,.row .u64),(1,.row .u64),(2,.row .u64)],0,true⟩
abbrev cy:Type:=((Unit)×(Unit)×(Unit)×(Int)×Unit)×((List (UInt64))×(List (UInt64))×(List (UInt64))×Unit)
def qy:Shape:=⟨29,[(2,.ptr 0 0 0),(3,.ptr 1 0 0)],[(0,.row .u64),(1,.row .u64)],0,true⟩
abbrev j1:Type:=((Unit)×(Unit)×Unit)×((List (UInt64))×(List (UInt64))×Unit)
def W9:SE->Option Shape:=fw [(0,qy)] none
def asm (a4:Int) (c0:List (UInt64)) (c1:List (UInt64)) (c2:List (UInt64)):OT (Sum cy aE):=
 let z0:Bool:=inB a4 4
 let z1:Nat:=List.length c0
 let z2:List UInt64:=List.set c2 (Int.toNat a4+0) (bf (List.getD c0 (Int.toNat a4+0) (0:UInt64)) (1:Int))
 let z3:Bool:=decide (Int.toNat a4+0<List.length z2)
 let z4:Bool:=inR (a4+(1:Int))
 (.br (decide (a4<(4:Int)))
 (gd [z0,decide (Int.toNat a4+0<z1),z0,decide (Int.toNat a4+0<List.length c2)] (.br (decide (a4<(3:Int)))
  (gd [z0,z3,z4,inB (a4+(1:Int)) 4,decide (Int.toNat (a4+(1:Int))+0<z1),z0,z3,z4] (.ok (.inl (((),((),((),(a4+(1:Int),())))),(c0,(c1,(List.set z2 (Int.toNat a4+0) (List.getD z2 (Int.toNat a4+0) (0:UInt64)|||bR (List.getD c0 (Int.toNat (a4+(1:Int))+0) (0:UInt64)) (63:Int)),())))))))
  (gd [z4] (.ok (.inl (((),((),((),(a4+(1:Int),())))),(c0,(c1,(z2,())))))))))
 (.ok (.inr ⟨(.exit 0,qy),(((),((),())),(c1,(c2,())))⟩)))
def ix (s:cy):OT (Sum cy aE):=asm (s.1.2.2.2.1) (s.2.1) (s.2.2.1) (s.2.2.2.1)
theorem asi (s:cy) (Q:Sum cy aE->Prop):wps te FN av 1000 (aU (aj Tryz.f130) 0) (sO.inj s) (bX sO W9 (Q:Sum sO.T aE->Prop))=(ix s).wpR Q:=by kernel_rfl
def AX (g0_0:cy->j1) (s:cy):OT aE:=(.ok ⟨(.exit 0,qy),g0_0 s⟩)
def sP:az:=⟨[.val true .elem],[],false⟩
def PJ:SV->Option az:=λ_=>some sP
def SX (ok0:cy->Bool) (g0_0:cy->j1) (a0:aa):OT gK.Y:=
 let z0:(PUnit×PUnit×PUnit×Int×PUnit)×List UInt64×List UInt64×List UInt64×PUnit:=(((),(),(),(0:Int),()),[a0.w0,a0.w1,a0.w2,a0.w3],[(0:UInt64),(0:UInt64),(0:UInt64),(0:UInt64)],[(0:UInt64),(0:UInt64),(0:UInt64),(0:UInt64)],())
 let z1:=(g0_0 z0).snd
 let z2:=z1.snd.fst
 let z3:=z1.fst
 let z4:List UInt64:=lay z3 z2 4 (0:UInt64)
 (gd [ok0 z0,decide (4<=List.length z2),decide ((4/1:Nat)+0<=List.length z3),decide (4<=List.length z4)] (.ok ⟨sP,(({w0:=List.getD z4 0 0,w1:=List.getD z4 1 0,w2:=List.getD z4 2 0,w3:=List.getD z4 3 0},()),())⟩))
theorem azd (ok0:cy->Bool) (g0_0:cy->j1) (x:D5) (Q:gK.Y->Prop):wpf te FN (aO 0 (cg sO 0 ok0 (AX g0_0)) av) 1000 Tryz.f130 (gK.inp.inj x).tm (gK.inp.inj x).hp (fnK gK PJ Q) (λ_ _=>False)=(SX ok0 g0_0 (x.1.1)).wpR Q:=by kernel_rfl
theorem acw (ok0:cy->Bool) (g0_0:cy->j1) (h0:∀ s:cy,ok0 s=true->∃ m e,ao (ix) m s=some e/\(AX g0_0 s).run=some e) (pre:D5->Bool) (F:D5->OT gK.Y) (hF:∀ (x:D5) oy,pre x=true->(F x).run=some oy->(SX ok0 g0_0 (x.1.1)).run=some oy):ac Tryz.prog 130 (gK.aI pre F):=
 aD aq wX M7 (f:=130) (fn:=Tryz.f130) (c:=aj Tryz.f130) (by kernel_rfl) (by kernel_rfl) (by kernel_rfl) (S:=gK) (k:=0) (by kernel_rfl) (λR hR=>(aB (c:=(aj Tryz.f130)) (by kernel_rfl) (id:=0) (by kernel_rfl) (aQ aq wX M7 (sh:=sO) hR (xs:=W9) (aC (by kernel_rfl) (by kernel_rfl) hR) aL af (n:=1000) (T:=ix) (λs Q=>asi s Q) (ok:=ok0) (f:=AX g0_0) h0) af)) (n:=1000) (sel:=PJ) (λv o h=>by cases h;rfl) (pre:=pre) (F:=F) (T:=λx=>SX ok0 g0_0 (x.1.1)) (λx Q=>azd ok0 g0_0 x Q) hF
def qX (a:aa) (c1 l:List UInt64) (i:Int):cy:=(((),(),(),i,()),(lst a,c1,l,()))
theorem aH6 (a:aa) (c1:List UInt64):(ix (qX a c1 [0,0,0,0] 0)).run=some (.inl (qX a c1 [bf a.w0 1|||bR a.w1 63,0,0,0] 1)):=rfl
theorem aH5 (a:aa) (c1:List UInt64) (x:UInt64):(ix (qX a c1 [x,0,0,0] 1)).run=some (.inl (qX a c1 [x,bf a.w1 1|||bR a.w2 63,0,0] 2)):=rfl
theorem aH4 (a:aa) (c1:List UInt64) (x y:UInt64):(ix (qX a c1 [x,y,0,0] 2)).run=some (.inl (qX a c1 [x,y,bf a.w2 1|||bR a.w3 63,0] 3)):=rfl
theorem aH3 (a:aa) (c1:List UInt64) (x y z:UInt64):(ix (qX a c1 [x,y,z,0] 3)).run=some (.inl (qX a c1 [x,y,z,bf a.w3 1] 4)):=rfl
theorem aH2 (a:aa) (c1 l:List UInt64):(ix (qX a c1 l 4)).run=some (.inr ⟨(.exit 0,qy),(((),(),()),(c1,l,()))⟩):=rfl
def PL (s:cy):Bool:=decide (s.1.2.2.2.1=0/\s.2.1.length=4/\s.2.2.2.1= [0,0,0,0])
def Xc (s:cy):j1:=(((),(),()),(s.2.2.1,lst (dj (elemOf s.2.1)),()))
theorem asl:∀ s:cy,PL s=true->∃ m e,ao ix m s=some e/\(AX Xc s).run=some e:=by
 rintro ⟨⟨⟨⟩,⟨⟩,⟨⟩,i,⟨⟩⟩,⟨l,c1,c2,⟨⟩⟩⟩ h
 have h':=of_decide_eq_true h
 dsimp only at h'
 obtain ⟨rfl,hl,rfl⟩:=h'
 obtain ⟨a,rfl⟩:∃ a,l=lst a:=⟨elemOf l,(aS hl).symm⟩
 refine ⟨_,_,aF (aH6 a c1) (aF (aH5 a c1 _) (aF (aH4 a c1 _ _) (aF (aH3 a c1 _ _ _) (aM (aH2 a c1 _))))),?_⟩
 have e: [bf a.w0 1|||bR a.w1 63,bf a.w1 1|||bR a.w2 63,bf a.w2 1|||bR a.w3 63,bf a.w3 1]=lst (dj a):=by rw [ajh];rfl
 rw [e]
 rfl
def PK (_:D5):Bool:=true
def aiq (x:D5):OT gK.Y:=.ok ⟨sP,((dj x.1.1,()),())⟩
theorem asj:ac Tryz.prog 130 (gK.aI PK aiq):=acw PL Xc asl _ _ λx oy hp ho=>by
 rw [<-ho]
 clear ho
 obtain ⟨⟨a,⟨⟩⟩,⟨⟩⟩:=x
 refine (ah ?_).trans ?_
 ·simp only [List.all_cons,List.all_nil,Bool.and_true,Bool.and_eq_true]
  exact ⟨decide_eq_true ⟨rfl,rfl,rfl⟩,rfl,rfl,rfl⟩
 ·show some (⟨sP,((elemOf (lay [0,0,0,0] (lst (dj a)) 4 0),()),())⟩:gK.Y)=some ⟨sP,((dj a,()),())⟩
  rw [aGL _ _ rfl rfl]
  rfl
def yu:cj:=(gK.aI PK aiq)
theorem Xb:ac Tryz.prog 130 yu:=asj
theorem Xa:aG yu:=aA
def wW:Env:=ay 130 yu FN
theorem rB:aR Tryz.prog wW:=ag Xb wX
theorem CC:ax wW:=ae Xa G3
theorem G2:aW Tryz.prog te wW:=aK follows aq rB CC
def dP:aw:=⟨[.val true .elem,.val false .int],[],true,0,false⟩
abbrev ot:Type:=((aa)×(Int)×Unit)×(Unit)
def lK:Shape:=⟨14,[(1,.val false .int),(2,.ptr 0 0 0),(4,.ptr 1 0 0),(5,.val false .int)],[(0,.row .u64),(1,.row .u64)],0,true⟩
abbrev bN:Type:=((Int)×(Unit)×(Unit)×(Int)×Unit)×((List (UInt64))×(List (UInt64))×Unit)
def kH:Shape:=⟨14,[(2,.ptr 0 0 0),(4,.ptr 1 0 0)],[(0,.row .u64),(1,.row .u64)],0,true⟩
abbrev gD:Type:=((Unit)×(Unit)×Unit)×((List (UInt64))×(List (UInt64))×Unit)
def JI:SE->Option Shape:=fw [(0,kH)] none
def acv (a1:Int) (a5:Int) (c0:List (UInt64)) (c1:List (UInt64)):OT (Sum bN aE):=
 let z0:Nat:=List.length c0
 let z1:aa:=dj {w0:=List.getD c0 0 0,w1:=List.getD c0 1 0,w2:=List.getD c0 2 0,w3:=List.getD c0 3 0}
 (.br (decide (a5<a1))
 (gd [decide (4<=z0),decide ((4/1:Nat)+0<=z0),inR (a5+(1:Int))] (.ok (.inl ((a1,((),((),(a5+(1:Int),())))),(List.set (List.set (List.set (List.set c0 0 z1.w0) 1 z1.w1) 2 z1.w2) 3 z1.w3,(c1,()))))))
 (.ok (.inr ⟨(.exit 0,kH),(((),((),())),(c0,(c1,())))⟩)))
def lM (s:bN):OT (Sum bN aE):=acv (s.1.1) (s.1.2.2.2.1) (s.2.1) (s.2.2.1)
theorem acr (s:bN) (Q:Sum bN aE->Prop):wps te wW av 1000 (aU (aj Tryz.f132) 0) (lK.inj s) (bX lK JI (Q:Sum lK.T aE->Prop))=(lM s).wpR Q:=by kernel_rfl
def qx (g0_0:bN->gD) (s:bN):OT aE:=(.ok ⟨(.exit 0,kH),g0_0 s⟩)
def lL:az:=⟨[.val true .elem],[],false⟩
def Gj:SV->Option az:=λ_=>some lL
def D4 (ok0:bN->Bool) (g0_0:bN->gD) (a0:aa) (a1:Int):OT dP.Y:=
 let z0:(Int×PUnit×PUnit×Int×PUnit)×List UInt64×List UInt64×PUnit:=((a1,(),(),(0:Int),()),[a0.w0,a0.w1,a0.w2,a0.w3],[(0:UInt64),(0:UInt64),(0:UInt64),(0:UInt64)],())
 let z1:=(g0_0 z0).snd
 let z2:=z1.fst
 let z3:=z1.snd.fst
 let z4:List UInt64:=lay z3 z2 4 (0:UInt64)
 (gd [ok0 z0,decide (4<=List.length z2),decide ((4/1:Nat)+0<=List.length z3),decide (4<=List.length z4)] (.ok ⟨lL,(({w0:=List.getD z4 0 0,w1:=List.getD z4 1 0,w2:=List.getD z4 2 0,w3:=List.getD z4 3 0},()),())⟩))
theorem alD (ok0:bN->Bool) (g0_0:bN->gD) (x:ot) (Q:dP.Y->Prop):wpf te wW (aO 0 (cg lK 0 ok0 (qx g0_0)) av) 1000 Tryz.f132 (dP.inp.inj x).tm (dP.inp.inj x).hp (fnK dP Gj Q) (λ_ _=>False)=(D4 ok0 g0_0 (x.1.1) (x.1.2.1)).wpR Q:=by kernel_rfl
theorem SW (ok0:bN->Bool) (g0_0:bN->gD) (h0:∀ s:bN,ok0 s=true->∃ m e,ao (lM) m s=some e/\(qx g0_0 s).run=some e) (pre:ot->Bool) (F:ot->OT dP.Y) (hF:∀ (x:ot) oy,pre x=true->(F x).run=some oy->(D4 ok0 g0_0 (x.1.1) (x.1.2.1)).run=some oy):ac Tryz.prog 132 (dP.aI pre F):=
 aD aq rB G2 (f:=132) (fn:=Tryz.f132) (c:=aj Tryz.f132) (by kernel_rfl) (by kernel_rfl) (by kernel_rfl) (S:=dP) (k:=0) (by kernel_rfl) (λR hR=>(aB (c:=(aj Tryz.f132)) (by kernel_rfl) (id:=0) (by kernel_rfl) (aQ aq rB G2 (sh:=lK) hR (xs:=JI) (aC (by kernel_rfl) (by kernel_rfl) hR) aL af (n:=1000) (T:=lM) (λs Q=>acr s Q) (ok:=ok0) (f:=qx g0_0) h0) af)) (n:=1000) (sel:=Gj) (λv o h=>by cases h;rfl) (pre:=pre) (F:=F) (T:=λx=>D4 ok0 g0_0 (x.1.1) (x.1.2.1)) (λx Q=>alD ok0 g0_0 x Q) hF
def Gk (s:bN):Bool:=decide (s.1.2.2.2.1=0/\0<=s.1.1/\s.1.1<=1000000/\s.2.1.length=4)
def JJ (s:bN):gD:=(((),(),()),(lst (dO (elemOf s.2.1) s.1.1.toNat),s.2.2.1,()))
theorem acu:∀ s:bN,Gk s=true->∃ m e,ao lM m s=some e/\(qx JJ s).run=some e:=by
 rintro ⟨⟨k,⟨⟩,⟨⟩,i,⟨⟩⟩,⟨l,o,⟨⟩⟩⟩ h
 have h':=of_decide_eq_true h
 dsimp only at h'
 obtain ⟨rfl,h0,h1,hl⟩:=h'
 obtain ⟨a,rfl⟩:∃ a,l=lst a:=⟨elemOf l,(aS hl).symm⟩
 have:=(aP (T:=lM) (λi a=>(((k,(),(),(i:Int),()),(lst a,o,())):bN)) (λ_ e=>dj e)
  (λa=>(⟨(.exit 0,kH),(((),(),()),(lst a,o,()))⟩:aE)) k.toNat a (λ_ _=>True) trivial (λi a hi _=>⟨?_,trivial⟩) (λa _=> ?_)).1
 ·rw [yY] at this
  obtain ⟨m,hm⟩:=this
  exact ⟨m,_,hm,rfl⟩
 ·refine (OT.ap (decide_eq_true (by dsimp only;omega))).trans ((ah ?_).trans rfl)
  simp only [List.all_cons,List.all_nil,Bool.and_true,Bool.and_eq_true]
  exact ⟨rfl,rfl,aH (by omega)⟩
 ·exact OT.ar (decide_eq_false (by dsimp only;omega))
def sN (x:ot):Bool:=decide (0<=x.1.2.1/\x.1.2.1<=1000000)
def PI (x:ot):OT dP.Y:=.ok ⟨lL,((dO x.1.1 x.1.2.1.toNat,()),())⟩
theorem acs:ac Tryz.prog 132 (dP.aI sN PI):=SW Gk JJ acu _ _ λx oy hp ho=>by
 rw [<-ho]
 clear ho
 obtain ⟨⟨a,k,⟨⟩⟩,⟨⟩⟩:=x
 have hp':0<=k/\k<=1000000:=of_decide_eq_true hp
 refine (ah ?_).trans ?_
 ·simp only [List.all_cons,List.all_nil,Bool.and_true,Bool.and_eq_true]
  exact ⟨decide_eq_true ⟨rfl,hp'.1,hp'.2,rfl⟩,rfl,rfl,rfl⟩
 ·show some (⟨lL,((elemOf (lay [0,0,0,0] (lst (dO a k.toNat)) 4 0),()),())⟩:dP.Y)=some ⟨lL,((dO a k.toNat,()),())⟩
  rw [aGL _ _ rfl rfl]
  rfl
def qw:cj:=(dP.aI sN PI)
theorem Om:ac Tryz.prog 132 qw:=acs
theorem Ol:aG qw:=aA
def FM:Env:=ay 132 qw wW
theorem Vv:aR Tryz.prog FM:=ag Om rB
theorem M6:ax FM:=ae Ol CC
end Go.Proofs.YtohjofabochgfaaGreat

namespace Go.Proofs.YtohjofabochgfaaGreat
namespace Sx
open Go Go.RowKit Go.ChangeShapes Go.WideShapes Go.ChangeAt
section
variable {H:Type} {enc:TypeId×Value->H} {P:Program} {te:TE} (hte:mJ P te) {w:World} {sp:Nat->Bool}
include hte
theorem abq {T e:TypeId} {ti ei:TI} (hT:te T=some ti) (hd:ti.desc=.slice e) (hei:te e=some ei) {ad:Option Addr} {n cap:Nat} {d:DataW H} {ps:List MemPlace}
 (h:DataW.Trod enc P w 0 sp true T (.slice ad n cap) d ps) (hw:∀ n ∈ d.weights P T,n<=reachBytes):n*ei.bytes<=reachBytes:=by
 obtain ⟨fuel,hr⟩:=h
 obtain ⟨ds,hu,hds⟩:=(hte T ti hT).desc
 rw [hd] at hds
 simp only at hds
 subst hds
 cases fuel with
 |zero=>simp [DataW.trod] at hr
 |succ fuel=>
  have hone:(Value.slice ad n cap).cells.toList= [.slice ad n cap]:=rfl
  rw [hone] at hr
  simp only [DataW.trod,hu] at hr
  cases ad with
  |none=>
   rcases n with _|n
   ·rw [Nat.zero_mul];exact Nat.zero_le _
   ·cases cap<;>cases hr
  |some a=>
   simp only at hr
   split at hr
   ·simp only [Option.bind_eq_some_iff,Option.map_eq_some_iff] at hr
    obtain ⟨elems,hm,rest,_,hx⟩:=hr
    cases hx
    obtain ⟨m1,_⟩:=EK hm
    rw [List.length_range] at m1
    have hwt:=hw ((elems.length+rest.length)*P.bytesOf e) (by simp [DataW.weights,hu])
    rw [Re hte hei] at hwt
    refine Nat.le_trans (Nat.mul_le_mul_right _ ?_) hwt
    omega
   ·cases hr
end
end Sx
end Go.Proofs.YtohjofabochgfaaGreat

namespace Go.Proofs.YtohjofabochgfaaGreat
namespace Sx
open Go
theorem OT.Vc {α β:Type} {f:α->OT β}:∀ {t:OT α} {a:α} {b:β},t.run=some a->(f a).run=some b->(t.bind f).run=some b
 |.ok x,a,b,h,h2=>by
  cases h
  exact h2
 |.br c x y,a,b,h,h2=>by
  cases c
  ·exact OT.Vc (t:=y) h h2
  ·exact OT.Vc (t:=x) h h2
 |.fail,a,b,h,_=>by cases h
theorem js {P:Program} {n:FuncId} {S:aw} {pre pre':S.T->Bool} {F F':S.T->OT S.Y} (h:ac P n (S.aI pre F))
 (hw:∀ x oy,pre' x=true->(F' x).run=some oy->pre x=true/\(F x).run=some oy):ac P n (S.aI pre' F'):=by
 refine ⟨λR w d args vs out hm hr hrun=>h.calls R w d args vs out hm hr ?_⟩
 simp only [aw.aI] at hrun⊢
 split at hrun
 ·cases hrun
 ·rename_i x hx
  obtain ⟨hp,hrun⟩:=OT.aJ hrun
  obtain ⟨oy,h1,h2⟩:=OT.run_bind hrun
  obtain ⟨h3,h4⟩:=hw x oy hp h1
  rw [h3]
  exact OT.Vc h4 h2
end Sx
end Go.Proofs.YtohjofabochgfaaGreat

namespace Go.Proofs.YtohjofabochgfaaGreat
open Sx Go
set_option maxRecDepth 100000
abbrev ain:aw:=iv
def kV (x:Gi):Bool:=al x.1.1
def aio (x:Gi):OT iv.Y:=.ok ⟨kG,(((aX x.1.1.toNat).1,((0:Int),())),())⟩
theorem asd:ac Tryz.prog 92 (ain.aI kV aio):=js (S:=iv) aip λx oy hp ho=>⟨rfl,(OT.ap (b:=al x.1.1) hp).trans ho⟩
def yt:cj:=(ain.aI kV aio)
theorem W2:ac Tryz.prog 92 yt:=asd
theorem W1:aG yt:=aA
def Vu:Env:=ay 92 yt FM
theorem afl:aR Tryz.prog Vu:=ag W2 Vv
theorem Vt:ax Vu:=ae W1 M6
abbrev aiv:aw:=iB
def D9 (x:Gp):Bool:=al x.1.1
def aiw (x:Gp):OT iB.Y:=.ok ⟨qE,(((aX x.1.1.toNat).2.1,((0:Int),())),())⟩
theorem asp:ac Tryz.prog 131 (aiv.aI D9 aiw):=js (S:=iB) aix λx oy hp ho=>⟨rfl,(OT.ap (b:=al x.1.1) hp).trans ho⟩
def yv:cj:=(aiv.aI D9 aiw)
theorem Xi:ac Tryz.prog 131 yv:=asp
theorem Xh:aG yv:=aA
def Vx:Env:=ay 131 yv Vu
theorem afn:aR Tryz.prog Vx:=ag Xi afl
theorem Vw:ax Vx:=ae Xh Vt
abbrev ar5:aw:=lF
def sL (x:WX):Bool:=al x.1.1
def ar6 (x:WX):OT lF.Y:=.ok ⟨nP,((ofP (pS x.1.1) x.1.2.1,()),())⟩
theorem ay6:ac Tryz.prog 62 (ar5.aI sL ar6):=js (S:=lF) ar9 λx oy hp ho=>⟨rfl,(OT.ap (b:=al x.1.1) hp).trans ho⟩
def DX:cj:=(ar5.aI sL ar6)
theorem ab3:ac Tryz.prog 62 DX:=ay6
theorem ab2:aG DX:=aA
def MZ:Env:=ay 62 DX Vx
theorem FH:aR Tryz.prog MZ:=ag ab3 afn
theorem GW:ax MZ:=ae ab2 Vw
theorem afk:aW Tryz.prog te MZ:=aK follows aq FH GW
def lD:aw:=⟨[],[],true,0,false⟩
abbrev Pq:Type:=(Unit)×(Unit)
def SD:az:=⟨[.val true (.prod .elem (.prod .elem .bool))],[],false⟩
def WH:SV->Option az:=λ_=>some SD
def abV:OT lD.Y:=
 let z0:aa:= {w0:=0,w1:=0,w2:=0,w3:=0}
 (.ok ⟨SD,(((z0,z0,true),()),())⟩)
theorem aEu (x:Pq) (Q:lD.Y->Prop):wpf te MZ av 1000 Tryz.f93 (lD.inp.inj x).tm (lD.inp.inj x).hp (fnK lD WH Q) (λ_ _=>False)=(abV).wpR Q:=by kernel_rfl
theorem alo (pre:Pq->Bool) (F:Pq->OT lD.Y) (hF:∀ (x:Pq) oy,pre x=true->(F x).run=some oy->(abV).run=some oy):ac Tryz.prog 93 (lD.aI pre F):=
 aD aq FH afk (f:=93) (fn:=Tryz.f93) (c:=aj Tryz.f93) (by kernel_rfl) (by kernel_rfl) (by kernel_rfl) (S:=lD) (k:=0) (by kernel_rfl) (λR hR=>af) (n:=1000) (sel:=WH) (λv o h=>by cases h;rfl) (pre:=pre) (F:=F) (T:=λx=>abV) (λx Q=>aEu x Q) hF
def WI (_:Pq):Bool:=true
def arO (_:Pq):OT lD.Y:=.ok ⟨SD,((cB,()),())⟩
theorem ay0:ac Tryz.prog 93 (lD.aI WI arO):=alo _ _ λx oy _ ho=>ho
def DR:cj:=(lD.aI WI arO)
theorem abU:ac Tryz.prog 93 DR:=ay0
theorem abT:aG DR:=aA
def MW:Env:=ay 93 DR MZ
theorem FF:aR Tryz.prog MW:=ag abU FH
theorem GV:ax MW:=ae abT GW
theorem afj:aW Tryz.prog te MW:=aK follows aq FF GV
def Jr:aw:=⟨[.val false .int],[],true,0,false⟩
abbrev aGJ:Type:=((Int)×Unit)×(Unit)
def arS:az:=⟨[.val true .elem],[],false⟩
def arR:SV->Option az:=λ_=>some arS
def aEv (a0:Int):OT Jr.Y:=
 (gd [inB a0 4,decide (Int.toNat a0+0<4)] (.ok ⟨arS,(({w0:=List.getD [(23:UInt64),(21:UInt64),(5:UInt64),(5:UInt64)] (Int.toNat a0+0) (0:UInt64),w1:=0,w2:=0,w3:=0},()),())⟩))
theorem aJb (x:aGJ) (Q:Jr.Y->Prop):wpf te MW av 1000 Tryz.f135 (Jr.inp.inj x).tm (Jr.inp.inj x).hp (fnK Jr arR Q) (λ_ _=>False)=(aEv (x.1.1)).wpR Q:=by kernel_rfl
theorem ay2 (pre:aGJ->Bool) (F:aGJ->OT Jr.Y) (hF:∀ (x:aGJ) oy,pre x=true->(F x).run=some oy->(aEv (x.1.1)).run=some oy):ac Tryz.prog 135 (Jr.aI pre F):=
 aD aq FF afj (f:=135) (fn:=Tryz.f135) (c:=aj Tryz.f135) (by kernel_rfl) (by kernel_rfl) (by kernel_rfl) (S:=Jr) (k:=0) (by kernel_rfl) (λR hR=>af) (n:=1000) (sel:=arR) (λv o h=>by cases h;rfl) (pre:=pre) (F:=F) (T:=λx=>aEv (x.1.1)) (λx Q=>aJb x Q) hF
def abX (x:aGJ):Bool:=al x.1.1
def aHE (x:aGJ):OT Jr.Y:=.ok ⟨arS,((bS x.1.1,()),())⟩
theorem aHD:ac Tryz.prog 135 (Jr.aI abX aHE):=ay2 _ _ λx oy hp ho=>by
 rw [<-ho]
 clear ho
 obtain ⟨⟨s,⟨⟩⟩,⟨⟩⟩:=x
 rcases ck hp with h|h|h|h
 all_goals
  have h:s=_:=h
  subst h
  rfl
def SI:cj:=(Jr.aI abX aHE)
theorem arT:ac Tryz.prog 135 SI:=aHD
theorem arQ:aG SI:=aA
def awl:Env:=ay 135 SI MW
theorem Vs:aR Tryz.prog awl:=ag arT FF
theorem RI:ax awl:=ae arQ GV
theorem awk:aW Tryz.prog te awl:=aK follows aq Vs RI
def gI:aw:=⟨[.val false .int,.val true .elem],[],true,0,false⟩
abbrev DS:Type:=((Int)×(aa)×Unit)×(Unit)
def AM:az:=⟨[.val true .elem],[],false⟩
def Pu:SV->Option az:=λ_=>some AM
def SH (a0:Int) (a1:aa):OT gI.Y:=
 let z0:Nat:=pS a0
 let z1:aa:=bO z0 a1 a1
 let z2:aa:=bO z0 a1 z1
 let z3:aa:=bS a0
 (gd [eY ((a0,a1,a1,()),()),eY ((a0,a1,z1,()),()),abX ((a0,()),()),JR ((a0,z2,z3,()),())] (.ok ⟨AM,((Fy z0 z2 z3,()),())⟩))
theorem ay1 (x:DS) (Q:gI.Y->Prop):wpf te awl av 1000 Tryz.f95 (gI.inp.inj x).tm (gI.inp.inj x).hp (fnK gI Pu Q) (λ_ _=>False)=(SH (x.1.1) (x.1.2.1)).wpR Q:=by kernel_rfl
theorem abW (pre:DS->Bool) (F:DS->OT gI.Y) (hF:∀ (x:DS) oy,pre x=true->(F x).run=some oy->(SH (x.1.1) (x.1.2.1)).run=some oy):ac Tryz.prog 95 (gI.aI pre F):=
 aD aq Vs awk (f:=95) (fn:=Tryz.f95) (c:=aj Tryz.f95) (by kernel_rfl) (by kernel_rfl) (by kernel_rfl) (S:=gI) (k:=0) (by kernel_rfl) (λR hR=>af) (n:=1000) (sel:=Pu) (λv o h=>by cases h;rfl) (pre:=pre) (F:=F) (T:=λx=>SH (x.1.1) (x.1.2.1)) (λx Q=>ay1 x Q) hF
theorem as8 (p:Nat) (a b:aa):bO p a b=bO p b a:=by unfold bO;rw [Nat.mul_comm]
def oc (x:DS):Bool:=al x.1.1
def aie (x:DS):OT gI.Y:=.ok ⟨AM,((xl (pS x.1.1) x.1.2.1 (bS x.1.1),()),())⟩
theorem arP:ac Tryz.prog 95 (gI.aI oc aie):=abW _ _ λx oy hp ho=>by
 rw [<-ho]
 clear ho
 obtain ⟨⟨s,a,⟨⟩⟩,⟨⟩⟩:=x
 have hs:al s=true:=hp
 show _=some (⟨AM,((xl (pS s) a (bS s),()),())⟩:gI.Y)
 unfold xl
 rw [as8 _ (bO (pS s) a a) a]
 refine (ah ?_).trans rfl
 simp only [List.all_cons,List.all_nil,Bool.and_true,Bool.and_eq_true]
 exact ⟨hs,hs,hs,hs⟩
def yo:cj:=(gI.aI oc aie)
theorem WL:ac Tryz.prog 95 yo:=arP
theorem WK:aG yo:=aA
def ry:Env:=ay 95 yo awl
theorem mG:aR Tryz.prog ry:=ag WL Vs
theorem Cv:ax ry:=ae WK RI
theorem uB:aW Tryz.prog te ry:=aK follows aq mG Cv
def gJ:aw:=⟨[.val false .int,.val true .elem],[],true,0,false⟩
abbrev DV:Type:=((Int)×(aa)×Unit)×(Unit)
def sH:Shape:=⟨114,[(0,.val false .int),(4,.ptr 0 0 0),(10,.ptr 1 0 0),(14,.ptr 2 0 0),(15,.ptr 3 0 0),(16,.ptr 4 0 0),(17,.val false .int)],[(0,.row .u64),(1,.row .u64),(2,.row .u64),(3,.row .u64),(4,.row .u64)],0,true⟩
abbrev cx:Type:=((Int)×(Unit)×(Unit)×(Unit)×(Unit)×(Unit)×(Int)×Unit)×((List (UInt64))×(List (UInt64))×(List (UInt64))×(List (UInt64))×(List (UInt64))×Unit)
def sG:Shape:=⟨114,[(0,.val false .int),(4,.ptr 0 0 0),(10,.ptr 1 0 0),(14,.ptr 2 0 0),(15,.ptr 3 0 0),(16,.ptr 4 0 0),(17,.val false .int),(18,.ptr 5 0 0),(19,.val false .int)],[(0,.row .u64),(1,.row .u64),(2,.row .u64),(3,.row .u64),(4,.row .u64),(5,.row .u64)],0,true⟩
abbrev bG:Type:=((Int)×(Unit)×(Unit)×(Unit)×(Unit)×(Unit)×(Int)×(Unit)×(Int)×Unit)×((List (UInt64))×(List (UInt64))×(List (UInt64))×(List (UInt64))×(List (UInt64))×(List (UInt64))×Unit)
def qp:Shape:=⟨114,[(0,.val false .int),(4,.ptr 0 0 0),(10,.ptr 1 0 0),(14,.ptr 2 0 0),(15,.ptr 3 0 0),(16,.ptr 4 0 0),(17,.val false .int),(18,.ptr 5 0 0)],[(0,.row .u64),(1,.row .u64),(2,.row .u64),(3,.row .u64),(4,.row .u64),(5,.row .u64)],0,true⟩
abbrev eK:Type:=((Int)×(Unit)×(Unit)×(Unit)×(Unit)×(Unit)×(Int)×(Unit)×Unit)×((List (UInt64))×(List (UInt64))×(List (UInt64))×(List (UInt64))×(List (UInt64))×(List (UInt64))×Unit)
def WO:SE->Option Shape:=fw [(2,qp)] none
def ar0 (a0:Int) (a17:Int) (a19:Int) (c0:List (UInt64)) (c1:List (UInt64)) (c2:List (UInt64)) (c3:List (UInt64)) (c4:List (UInt64)) (c5:List (UInt64)):OT (Sum bG aE):=
 let z0:Nat:=List.length c5
 let z1:Bool:=decide (4<=z0)
 let z2:aa:= {w0:=List.getD c5 0 0,w1:=List.getD c5 1 0,w2:=List.getD c5 2 0,w3:=List.getD c5 3 0}
 let z3:aa:=bO (pS a0) z2 z2
 (.br (decide (a19<a17))
 (gd [z1,z1,eY ((a0,z2,z2,()),()),decide ((4/1:Nat)+0<=z0),inR (a19+(1:Int))] (.ok (.inl ((a0,((),((),((),((),((),(a17,((),(a19+(1:Int),()))))))))),(c0,(c1,(c2,(c3,(c4,(List.set (List.set (List.set (List.set c5 0 z3.w0) 1 z3.w1) 2 z3.w2) 3 z3.w3,()))))))))))
 (.ok (.inr ⟨(.exit 2,qp),((a0,((),((),((),((),((),(a17,((),())))))))),(c0,(c1,(c2,(c3,(c4,(c5,())))))))⟩)))
def sI (s:bG):OT (Sum bG aE):=ar0 (s.1.1) (s.1.2.2.2.2.2.2.1) (s.1.2.2.2.2.2.2.2.2.1) (s.2.1) (s.2.2.1) (s.2.2.2.1) (s.2.2.2.2.1) (s.2.2.2.2.2.1) (s.2.2.2.2.2.2.1)
theorem arV (s:bG) (Q:Sum bG aE->Prop):wps te ry av 1000 (aU (aU (aj Tryz.f94) 0) 2) (sG.inj s) (bX sG WO (Q:Sum sG.T aE->Prop))=(sI s).wpR Q:=by kernel_rfl
def AO (g2_2:bG->eK) (s:bG):OT aE:=(.ok ⟨(.exit 2,qp),g2_2 s⟩)
def qq:Shape:=⟨114,[(0,.val false .int),(4,.ptr 0 0 0),(14,.ptr 1 0 0)],[(0,.row .u64),(1,.row .u64)],0,true⟩
abbrev jZ:Type:=((Int)×(Unit)×(Unit)×Unit)×((List (UInt64))×(List (UInt64))×Unit)
def WQ:SE->Option Shape:=fw [(0,qq)] none
def Jt (ok2:bG->Bool) (g2_2:bG->eK) (a0:Int) (a17:Int) (c0:List (UInt64)) (c1:List (UInt64)) (c2:List (UInt64)) (c3:List (UInt64)) (c4:List (UInt64)):OT (Sum cx aE):=
 let z0:(Int×PUnit×PUnit×PUnit×PUnit×PUnit×Int×PUnit×Int×PUnit)×List UInt64×List UInt64×List UInt64×List UInt64×List UInt64×List UInt64×PUnit:=((a0,(),(),(),(),(),a17,(),(1:Int),()),c0,c1,c2,c3,c4,[List.getD c3 0 0,List.getD c3 1 0,List.getD c3 2 0,List.getD c3 3 0],())
 let z1:(Int×PUnit×PUnit×PUnit×PUnit×PUnit×Int×PUnit×PUnit)×List UInt64×List UInt64×List UInt64×List UInt64×List UInt64×List UInt64×PUnit:=g2_2 z0
 let z2:=z1.snd
 let z3:=z2.snd
 let z4:=z3.snd
 let z5:=z4.snd
 let z6:=z5.snd
 let z7:=z6.snd.fst
 let z8:=z3.fst
 let z9:=z4.fst
 let z10:Nat:=List.length z9
 let z11:=z6.fst
 let z12:Nat:=List.length z11
 let z13:Bool:=decide (4<=z12)
 let z14:=z1.fst
 let z15:=z14.fst
 let z16:aa:= {w0:=List.getD z9 0 0,w1:=List.getD z9 1 0,w2:=List.getD z9 2 0,w3:=List.getD z9 3 0}
 let z17:aa:= {w0:=List.getD z11 0 0,w1:=List.getD z11 1 0,w2:=List.getD z11 2 0,w3:=List.getD z11 3 0}
 let z18:aa×PUnit:=(z17,())
 let z19:=z5.fst
 let z20:Nat:=List.length z19
 let z21:Bool:=eY ((z15,z17,z18),())
 let z22:aa:= {w0:=List.getD z19 0 0,w1:=List.getD z19 1 0,w2:=List.getD z19 2 0,w3:=List.getD z19 3 0}
 let z23:Nat:=pS z15
 let z24:aa:=bO z23 z17 z17
 let z25:Bool:=decide ((4/1:Nat)+0<=z12)
 let z26:Bool:=inR (z14.snd.snd.snd.snd.snd.snd.fst-(1:Int))
 let z27:=z2.fst
 let z28:aa:=bO z23 z16 z17
 let z29:aa:=bO z23 z22 z24
 let z30:List UInt64:=List.set (List.set (List.set (List.set z11 0 z24.w0) 1 z24.w1) 2 z24.w2) 3 z24.w3
 (.br (decide ((1:Int)<=a17))
 (gd [decide (4<=List.length c3),ok2 z0,decide (4<=List.length z7),decide (4<=List.length z8)] (.br (!(List.getD z7 0 0==List.getD z8 0 0&&(List.getD z7 1 0==List.getD z8 1 0&&(List.getD z7 2 0==List.getD z8 2 0&&(List.getD z7 3 0==List.getD z8 3 0&&true)))))
  (gd [decide (4<=z10),z13,eY ((z15,z16,z18),()),decide ((4/1:Nat)+0<=z10),decide (4<=z20),z13,z13,z21,eY ((z15,z22,z24,()),()),decide ((4/1:Nat)+0<=z20),z13,z13,z21,z25,z26] (.ok (.inl ((z15,((),((),((),((),((),(z14.snd.snd.snd.snd.snd.snd.fst-(1:Int),()))))))),(z27,(z8,(List.set (List.set (List.set (List.set z9 0 z28.w0) 1 z28.w1) 2 z28.w2) 3 z28.w3,(List.set (List.set (List.set (List.set z19 0 z29.w0) 1 z29.w1) 2 z29.w2) 3 z29.w3,(z30,())))))))))
  (gd [z13,z13,z21,z25,z26] (.ok (.inl ((z15,((),((),((),((),((),(z14.snd.snd.snd.snd.snd.snd.fst-(1:Int),()))))))),(z27,(z8,(z9,(z19,(z30,())))))))))))
 (.ok (.inr ⟨(.exit 0,qq),((a0,((),((),()))),(c0,(c2,())))⟩)))
def oh (ok2:bG->Bool) (g2_2:bG->eK) (s:cx):OT (Sum cx aE):=Jt ok2 g2_2 (s.1.1) (s.1.2.2.2.2.2.2.1) (s.2.1) (s.2.2.1) (s.2.2.2.1) (s.2.2.2.2.1) (s.2.2.2.2.2.1)
theorem arW (ok2:bG->Bool) (g2_2:bG->eK) (s:cx) (Q:Sum cx aE->Prop):wps te ry (aO 2 (cg sG 2 ok2 (AO g2_2)) av) 1000 (aU (aj Tryz.f94) 0) (sH.inj s) (bX sH WQ (Q:Sum sH.T aE->Prop))=(oh ok2 g2_2 s).wpR Q:=by kernel_rfl
def AP (g0_0:cx->jZ) (s:cx):OT aE:=(.ok ⟨(.exit 0,qq),g0_0 s⟩)
def fK:az:=⟨[.val true .elem,.val false .int],[],false⟩
def Pw:SV->Option az:=λ_=>some fK
def SJ (ok2:bG->Bool) (g2_2:bG->eK) (ok0:cx->Bool) (g0_0:cx->jZ) (a0:Int) (a1:aa):OT gJ.Y:=
 let z0:Int×PUnit:=(a0,())
 let z1:Nat:=pS a0
 let z2:aa:=ofP z1 a1
 let z3:aa:= {w0:=0,w1:=0,w2:=0,w3:=0}
 let z4:aa×Int×UInt64×UInt64×aa:=aX (Int.toNat a0)
 let z5:aa:= {w0:=1,w1:=0,w2:=0,w3:=0}
 let z6:aa:=(eg z4.fst z5).fst
 let z7:aa:=dj z6
 let z8:aa:=gN z1 z2 z7
 let z9:=z4.snd.fst
 let z10:aa:=dO z6 (Int.toNat z9)
 let z11:aa:=dj (p9 z10 z5).fst
 let z12:aa×PUnit:=(z10,())
 let z13:aa:= {w0:=5,w1:=0,w2:=0,w3:=0}
 let z14:aa:=gN z1 z2 z11
 let z15:aa:=gN z1 z2 z10
 let z16:aa:=gN z1 z13 z10
 let z17:(Int×PUnit×PUnit×PUnit×PUnit×PUnit×Int×PUnit)×List UInt64×List UInt64×List UInt64×List UInt64×List UInt64×PUnit:=((a0,(),(),(),(),(),z9-(1:Int),()),[(0:UInt64),(0:UInt64),(0:UInt64),(0:UInt64)],[(1:UInt64),(0:UInt64),(0:UInt64),(0:UInt64)],[z14.w0,z14.w1,z14.w2,z14.w3],[z15.w0,z15.w1,z15.w2,z15.w3],[z16.w0,z16.w1,z16.w2,z16.w3],())
 let z18:(Int×PUnit×PUnit×PUnit)×List UInt64×List UInt64×PUnit:=g0_0 z17
 let z19:=z18.snd
 let z20:=z19.snd.fst
 let z21:Nat:=List.length z20
 let z22:UInt64:=List.getD z20 0 0
 let z23:Bool:=decide (4<=z21)
 let z24:=z18.fst.fst
 let z25:aa:= {w0:=z22,w1:=List.getD z20 1 0,w2:=List.getD z20 2 0,w3:=List.getD z20 3 0}
 let z26:aa:=zR (pS z24) z25
 let z27:List UInt64:=List.set (List.set (List.set (List.set z20 0 z26.w0) 1 z26.w1) 2 z26.w2) 3 z26.w3
 let z28:=z19.fst
 let z29:Nat:=List.length z28
 let z30:List UInt64:=lay z28 z27 4 (0:UInt64)
 let z31:List UInt64:=lay z28 z20 4 (0:UInt64)
 (gd [kV (z0,()),sL ((a0,a1,()),())] (.br (z2.w0==(0:UInt64)&&(z2.w1==(0:UInt64)&&(z2.w2==(0:UInt64)&&(z2.w3==(0:UInt64)&&true))))
 (.ok ⟨fK,((z3,((0:Int),())),())⟩)
 (gd [ou ((a0,z2,z7,()),())] (.br (!(z8.w0==(1:UInt64)&&(z8.w1==(0:UInt64)&&(z8.w2==(0:UInt64)&&(z8.w3==(0:UInt64)&&true)))))
  (.ok ⟨fK,((z3,((22:Int),())),())⟩)
  (gd [D9 (z0,()),sN ((z6,z9,()),()),ou ((a0,z2,z11,()),()),ou ((a0,z2,z12),()),ou ((a0,z13,z12),()),inR (z9-(1:Int)),ok0 z17,decide (0<z21)] (.br (z22%(2:UInt64)==(1:UInt64))
   (gd [z23,lI ((z24,z25,()),()),decide ((4/1:Nat)+0<=z21),decide (4<=List.length z27),decide ((4/1:Nat)+0<=z29),decide (4<=List.length z30)] (.ok ⟨fK,(({w0:=List.getD z30 0 0,w1:=List.getD z30 1 0,w2:=List.getD z30 2 0,w3:=List.getD z30 3 0},((0:Int),())),())⟩))
   (gd [z23,decide ((4/1:Nat)+0<=z29),decide (4<=List.length z31)] (.ok ⟨fK,(({w0:=List.getD z31 0 0,w1:=List.getD z31 1 0,w2:=List.getD z31 2 0,w3:=List.getD z31 3 0},((0:Int),())),())⟩))))))))
theorem ay4 (ok2:bG->Bool) (g2_2:bG->eK) (ok0:cx->Bool) (g0_0:cx->jZ) (x:DV) (Q:gJ.Y->Prop):wpf te ry (aO 0 (cg sH 0 ok0 (AP g0_0)) av) 1000 Tryz.f94 (gJ.inp.inj x).tm (gJ.inp.inj x).hp (fnK gJ Pw Q) (λ_ _=>False)=(SJ ok2 g2_2 ok0 g0_0 (x.1.1) (x.1.2.1)).wpR Q:=by kernel_rfl
theorem ab0 (ok2:bG->Bool) (g2_2:bG->eK) (ok0:cx->Bool) (g0_0:cx->jZ) (h2:∀ s:bG,ok2 s=true->∃ m e,ao (sI) m s=some e/\(AO g2_2 s).run=some e) (h0:∀ s:cx,ok0 s=true->∃ m e,ao (oh ok2 g2_2) m s=some e/\(AP g0_0 s).run=some e) (pre:DV->Bool) (F:DV->OT gJ.Y) (hF:∀ (x:DV) oy,pre x=true->(F x).run=some oy->(SJ ok2 g2_2 ok0 g0_0 (x.1.1) (x.1.2.1)).run=some oy):ac Tryz.prog 94 (gJ.aI pre F):=
 aD aq mG uB (f:=94) (fn:=Tryz.f94) (c:=aj Tryz.f94) (by kernel_rfl) (by kernel_rfl) (by kernel_rfl) (S:=gJ) (k:=0) (by kernel_rfl) (λR hR=>(aB (c:=(aj Tryz.f94)) (by kernel_rfl) (id:=0) (by kernel_rfl) (aQ aq mG uB (sh:=sH) hR (xs:=WQ) (aC (by kernel_rfl) (by kernel_rfl) hR) aL (aB (c:=(aU (aj Tryz.f94) 0)) (by kernel_rfl) (id:=2) (by kernel_rfl) (aQ aq mG uB (sh:=sG) hR (xs:=WO) (aC (by kernel_rfl) (by kernel_rfl) hR) aL af (n:=1000) (T:=sI) (λs Q=>arV s Q) (ok:=ok2) (f:=AO g2_2) h2) af) (n:=1000) (T:=oh ok2 g2_2) (λs Q=>arW ok2 g2_2 s Q) (ok:=ok0) (f:=AP g0_0) h0) af)) (n:=1000) (sel:=Pw) (λv o h=>by cases h;rfl) (pre:=pre) (F:=F) (T:=λx=>SJ ok2 g2_2 ok0 g0_0 (x.1.1) (x.1.2.1)) (λx Q=>ay4 ok2 g2_2 ok0 g0_0 x Q) hF
def eJ:aa:=⟨1,0,0,0⟩
def sqN (p:Nat) (b:aa) (n:Nat):aa:=upto (λ_ e=>bO p e e) b n
def gX (s:bG):Bool:=al s.1.1&&decide (s.1.2.2.2.2.2.2.2.2.1=1/\s.1.2.2.2.2.2.2.1<=1000/\s.2.2.2.2.2.2.1.length=4)
def lE (s:bG):eK:=((s.1.1,(),(),(),(),(),s.1.2.2.2.2.2.2.1,(),()),(s.2.1,s.2.2.1,s.2.2.2.1,s.2.2.2.2.1,s.2.2.2.2.2.1,lst (sqN (pS s.1.1) (elemOf s.2.2.2.2.2.2.1) (s.1.2.2.2.2.2.2.1-1).toNat),()))
theorem arY:∀ s:bG,gX s=true->∃ m e,ao sI m s=some e/\(AO lE s).run=some e:=by
 rintro ⟨⟨s,⟨⟩,⟨⟩,⟨⟩,⟨⟩,⟨⟩,i,⟨⟩,j,⟨⟩⟩,⟨c0,c1,c2,c3,c4,c5,⟨⟩⟩⟩ h
 simp only [gX,Bool.and_eq_true,decide_eq_true_eq] at h
 obtain ⟨hs,rfl,hi,hl⟩:=h
 obtain ⟨t,rfl⟩:∃ a,c5=lst a:=⟨elemOf c5,(aS hl).symm⟩
 have:=(aP (T:=sI) (λk t=>(((s,(),(),(),(),(),i,(),1+(k:Int),()),(c0,c1,c2,c3,c4,lst t,())):bG)) (λ_ e=>bO (pS s) e e)
  (λt=>(⟨(.exit 2,qp),((s,(),(),(),(),(),i,(),()),(c0,c1,c2,c3,c4,lst t,()))⟩:aE)) (i-1).toNat t (λ_ _=>True) trivial (λk t hk _=>⟨?_,trivial⟩) (λt _=> ?_)).1
 ·obtain ⟨m,hm⟩:=this
  exact ⟨m,_,hm,rfl⟩
 ·have e2:(1:Int)+(k:Int)+1=1+((k+1:Nat):Int):=by omega
  rw [<-e2]
  refine (OT.ap (decide_eq_true (by dsimp only;omega))).trans ((ah ?_).trans rfl)
  simp only [List.all_cons,List.all_nil,Bool.and_true,Bool.and_eq_true]
  exact ⟨rfl,rfl,hs,rfl,aH (by omega)⟩
 ·exact OT.ar (decide_eq_false (by dsimp only;omega))
abbrev Ton:Type:=aa×aa×aa
def xZ (p m:Nat) (k:Nat) (w:Ton):Ton:=cond (eqE (sqN p w.2.1 (m-k-1)) eJ) (w.1,w.2.1,bO p w.2.2 w.2.2) (bO p w.1 w.2.2,bO p w.2.1 (bO p w.2.2 w.2.2),bO p w.2.2 w.2.2)
def V3 (s:Int) (c0:List UInt64) (i:Int) (w:Ton):cx:=((s,(),(),(),(),(),i,()),(c0,lst eJ,lst w.1,lst w.2.1,lst w.2.2,()))
theorem awC {s:Int} (hs:al s=true) (c0:List UInt64) {m k:Nat} (hm:m<=1000) (hk:k<m) (w:Ton):
 (oh gX lE (V3 s c0 ((m:Int)-(k:Int)) w)).run=some (.inl (V3 s c0 ((m:Int)-((k+1:Nat):Int)) (xZ (pS s) m k w))):=by
 obtain ⟨x,b,z⟩:=w
 have e2:(m:Int)-((k+1:Nat):Int)=(m:Int)-(k:Int)-1:=by omega
 have hi:inR ((m:Int)-(k:Int)-1)=true:=aH (by omega)
 have hk2:((m:Int)-(k:Int)-1).toNat=m-k-1:=by omega
 have hg:lE ((s,(),(),(),(),(),(m:Int)-(k:Int),(),1,()),(c0,lst eJ,lst x,lst b,lst z,lst b,()))=((s,(),(),(),(),(),(m:Int)-(k:Int),(),()),(c0,lst eJ,lst x,lst b,lst z,lst (sqN (pS s) b (m-k-1)),())):=by
  show ((s,(),(),(),(),(),(m:Int)-(k:Int),(),()),(c0,lst eJ,lst x,lst b,lst z,lst (sqN (pS s) b ((m:Int)-(k:Int)-1).toNat),()))=_
  rw [hk2]
 have hok:gX ((s,(),(),(),(),(),(m:Int)-(k:Int),(),1,()),(c0,lst eJ,lst x,lst b,lst z,lst b,()))=true:=
  (Bool.and_eq_true _ _).mpr ⟨hs,decide_eq_true (p:=(1:Int)=1/\(m:Int)-(k:Int)<=1000/\(lst b).length=4) ⟨rfl,by omega,rfl⟩⟩
 have hb: [List.getD (lst b) 0 0,List.getD (lst b) 1 0,List.getD (lst b) 2 0,List.getD (lst b) 3 0]=lst b:=rfl
 have hpre:∀ x y,eY ((s,x,y,()),())=true:=λ_ _=>hs
 show (Jt gX lE s ((m:Int)-(k:Int)) c0 (lst eJ) (lst x) (lst b) (lst z)).run=_
 unfold Jt
 simp only [hb,hg,hok]
 refine (OT.ap (decide_eq_true (by omega))).trans ((ah rfl).trans ?_)
 unfold xZ
 dsimp only
 rw [e2]
 generalize sqN (pS s) b (m-k-1)=t
 rcases (Bool.eq_false_or_eq_true (eqE t eJ)).symm with h|h
 ·refine (OT.ap (b:= !eqE t eJ) (by rw [h];rfl)).trans ((ah ?_).trans ?_)
  ·simp only [aGH,aGP,cG,hpre,hi,List.all_cons,List.all_nil,Bool.and_true,Bool.and_eq_true]
   exact ⟨rfl,rfl,trivial,rfl,rfl,rfl,rfl,trivial,trivial,rfl,rfl,rfl,trivial,rfl⟩
  ·rw [h]
   simp only [aGH,aGP]
   rfl
 ·refine (OT.ar (b:= !eqE t eJ) (by rw [h];rfl)).trans ((ah ?_).trans ?_)
  ·simp only [aGH,aGP,cG,hpre,hi,List.all_cons,List.all_nil,Bool.and_true,Bool.and_eq_true]
   exact ⟨rfl,rfl,trivial,rfl⟩
  ·rw [h]
   simp only [aGH,aGP]
   rfl
def awD (p m:Nat) (w:Ton):Ton:=upto (xZ p m) w m
def DU (s:cx):Bool:=al s.1.1&&decide (0<=s.1.2.2.2.2.2.2.1/\s.1.2.2.2.2.2.2.1<=1000/\s.2.2.1= [1,0,0,0]/\s.2.2.2.1.length=4/\s.2.2.2.2.1.length=4/\s.2.2.2.2.2.1.length=4)
def Js (s:cx):jZ:=((s.1.1,(),(),()),(s.2.1,lst (awD (pS s.1.1) s.1.2.2.2.2.2.2.1.toNat (elemOf s.2.2.2.1,elemOf s.2.2.2.2.1,elemOf s.2.2.2.2.2.1)).1,()))
theorem arZ:∀ s:cx,DU s=true->∃ m e,ao (oh gX lE) m s=some e/\(AP Js s).run=some e:=by
 rintro ⟨⟨s,⟨⟩,⟨⟩,⟨⟩,⟨⟩,⟨⟩,i,⟨⟩⟩,⟨c0,c1,c2,c3,c4,⟨⟩⟩⟩ h
 simp only [DU,Bool.and_eq_true,decide_eq_true_eq] at h
 obtain ⟨hs,h0,h1,rfl,h2,h3,h4⟩:=h
 obtain ⟨x,rfl⟩:∃ a,c2=lst a:=⟨elemOf c2,(aS h2).symm⟩
 obtain ⟨b,rfl⟩:∃ a,c3=lst a:=⟨elemOf c3,(aS h3).symm⟩
 obtain ⟨z,rfl⟩:∃ a,c4=lst a:=⟨elemOf c4,(aS h4).symm⟩
 obtain ⟨m,rfl⟩:∃ m:Nat,i=(m:Int):=⟨i.toNat,by omega⟩
 have:=(aP (T:=oh gX lE) (λk w=>V3 s c0 ((m:Int)-(k:Int)) w) (xZ (pS s) m)
  (λw=>(⟨(.exit 0,qq),((s,(),(),()),(c0,lst w.1,()))⟩:aE)) m (x,b,z) (λ_ _=>True) trivial (λk w hk _=>⟨awC hs c0 (by omega) hk w,trivial⟩) (λw _=> ?_)).1
 ·obtain ⟨n,hn⟩:=this
  refine ⟨n,_,?_,rfl⟩
  have e:V3 s c0 ((m:Int)-((0:Nat):Int)) (x,b,z)=((s,(),(),(),(),(),(m:Int),()),(c0,[1,0,0,0],lst x,lst b,lst z,())):=by
   rw [show (m:Int)-((0:Nat):Int)=(m:Int) by omega]
   rfl
  rw [e] at hn
  exact hn
 ·exact OT.ar (decide_eq_false (by dsimp only [V3];omega))
def sn (s:Int) (a:aa):aa:=(awD (pS s) ((aX s.toNat).2.1-1).toNat
 (gN (pS s) a (dj (p9 (dO (eg (aX s.toNat).1 eJ).1 (aX s.toNat).2.1.toNat) eJ).1),gN (pS s) a (dO (eg (aX s.toNat).1 eJ).1 (aX s.toNat).2.1.toNat),gN (pS s) ⟨5,0,0,0⟩ (dO (eg (aX s.toNat).1 eJ).1 (aX s.toNat).2.1.toNat))).1
def kR (p:Nat) (x:aa):aa:=cond (x.w0%2==1) (zR p x) x
def og (x:DV):Bool:=al x.1.1
def aih (x:DV):OT gJ.Y:=.br (bQ (ofP (pS x.1.1) x.1.2.1)) (.ok ⟨fK,((⟨0,0,0,0⟩,((0:Int),())),())⟩)
 (.br (eqE (gN (pS x.1.1) (ofP (pS x.1.1) x.1.2.1) (dj (eg (aX x.1.1.toNat).1 eJ).1)) eJ) (.ok ⟨fK,((kR (pS x.1.1) (sn x.1.1 (ofP (pS x.1.1) x.1.2.1)),((0:Int),())),())⟩) (.ok ⟨fK,((⟨0,0,0,0⟩,((22:Int),())),())⟩))
theorem awe {s:Int} (hs:al s=true):1<=(aX s.toNat).2.1/\(aX s.toNat).2.1<=32:=by
 rcases ck hs with rfl|rfl|rfl|rfl<;>decide
theorem arX:ac Tryz.prog 94 (gJ.aI og aih):=ab0 gX lE DU Js arY arZ _ _ λx oy hp ho=>by
 rw [<-ho]
 clear ho
 obtain ⟨⟨s,a,⟨⟩⟩,⟨⟩⟩:=x
 have hs:al s=true:=hp
 have had:=awe hs
 show _=(OT.br (bQ (ofP (pS s) a)) (.ok ⟨fK,((⟨0,0,0,0⟩,((0:Int),())),())⟩) (.br (eqE (gN (pS s) (ofP (pS s) a) (dj (eg (aX s.toNat).1 eJ).1)) eJ) (.ok ⟨fK,((kR (pS s) (sn s (ofP (pS s) a)),((0:Int),())),())⟩) (.ok ⟨fK,((⟨0,0,0,0⟩,((22:Int),())),())⟩)):OT gJ.Y).run
 refine (ah ?_).trans ?_
 ·simp only [List.all_cons,List.all_nil,Bool.and_true,Bool.and_eq_true]
  exact ⟨hs,hs⟩
 generalize hA:ofP (pS s) a=A
 rcases (Bool.eq_false_or_eq_true (bQ A)).symm with hz|hz
 ·refine Eq.trans ?_ (OT.ar (b:=bQ A) hz).symm
  refine (OT.ar hz).trans ((ah ?_).trans ?_)
  ·simp only [List.all_cons,List.all_nil,Bool.and_true]
   exact hs
  ·rcases (Bool.eq_false_or_eq_true (eqE (gN (pS s) A (dj (eg (aX s.toNat).1 eJ).1)) eJ)).symm with h1|h1
   ·refine Eq.trans ?_ (OT.ar h1).symm
    exact OT.ap (b:= !eqE (gN (pS s) A (dj (eg (aX s.toNat).1 eJ).1)) eJ) (by rw [h1];rfl)
   ·refine Eq.trans ?_ (OT.ap h1).symm
    refine (OT.ar (b:= !eqE (gN (pS s) A (dj (eg (aX s.toNat).1 eJ).1)) eJ) (by rw [h1];rfl)).trans ((ah ?_).trans ?_)
    ·simp only [List.all_cons,List.all_nil,Bool.and_true,Bool.and_eq_true]
     refine ⟨hs,decide_eq_true ⟨(by show 0<=(aX s.toNat).2.1;omega),(by show (aX s.toNat).2.1<=1000000;omega)⟩,hs,hs,hs,aH (by omega),(Bool.and_eq_true _ _).mpr ⟨hs,?_⟩,rfl⟩
     exact decide_eq_true ⟨(by show 0<=(aX s.toNat).2.1-1;omega),(by show (aX s.toNat).2.1-1<=1000;omega),rfl,rfl,rfl,rfl⟩
    ·have hg:∀ w x b z:aa,(Js ((s,(),(),(),(),(),(aX s.toNat).2.1-1,()),([0,0,0,0],[1,0,0,0],[x.w0,x.w1,x.w2,x.w3],[b.w0,b.w1,b.w2,b.w3],[z.w0,z.w1,z.w2,z.w3],())))=((s,(),(),()),([0,0,0,0],lst (awD (pS s) ((aX s.toNat).2.1-1).toNat (x,b,z)).1,())):=λ_ _ _ _=>rfl
     simp only [hg eJ]
     have hR:(awD (pS s) ((aX s.toNat).2.1-1).toNat (gN (pS s) A (dj (p9 (dO (eg (aX s.toNat).1 ⟨1,0,0,0⟩).1 (aX s.toNat).2.1.toNat) ⟨1,0,0,0⟩).1),gN (pS s) A (dO (eg (aX s.toNat).1 ⟨1,0,0,0⟩).1 (aX s.toNat).2.1.toNat),gN (pS s) ⟨5,0,0,0⟩ (dO (eg (aX s.toNat).1 ⟨1,0,0,0⟩).1 (aX s.toNat).2.1.toNat))).1=sn s A:=rfl
     simp only [hR]
     generalize sn s A=R
     rcases (Bool.eq_false_or_eq_true (R.w0%2==1)).symm with h2|h2
     ·have e:kR (pS s) R=R:=by unfold kR;rw [h2];rfl
      rw [e]
      exact (OT.ar h2).trans ((ah rfl).trans rfl)
     ·have e:kR (pS s) R=zR (pS s) R:=by unfold kR;rw [h2];rfl
      rw [e]
      refine (OT.ap h2).trans ((ah ?_).trans rfl)
      simp only [List.all_cons,List.all_nil,Bool.and_true,Bool.and_eq_true]
      exact ⟨rfl,hs,rfl,rfl,rfl,rfl⟩
 ·exact (OT.ap hz).trans (OT.ap (b:=bQ A) hz).symm
def yq:cj:=(gJ.aI og aih)
theorem WS:ac Tryz.prog 94 yq:=arX
theorem WR:aG yq:=aA
def Cz:Env:=ay 94 yq ry
theorem zu:aR Tryz.prog Cz:=ag WS mG
theorem Cy:ax Cz:=ae WR Cv
theorem aau:aW Tryz.prog te Cz:=aK follows aq zu Cy
def ki:aw:=⟨[.val false .int,.val false .int],[],true,0,false⟩
abbrev PH:Type:=((Int)×(Int)×Unit)×(Unit)
def AW:az:=⟨[.val true .elem],[],false⟩
def W8:SV->Option az:=λ_=>some AW
def acq (a0:Int) (a1:Int):OT ki.Y:=
 let z0:UInt64:=i2u a1
 let z1:aa:= {w0:=z0,w1:=0,w2:=0,w3:=0}
 let z2:Nat:=pS a0
 let z3:aa:= {w0:=0-z0,w1:=0,w2:=0,w3:=0}
 (.br (decide ((0:Int)<=a1))
 (gd [sL ((a0,z1,()),())] (.ok ⟨AW,((ofP z2 z1,()),())⟩))
 (gd [lI ((a0,z3,()),())] (.ok ⟨AW,((zR z2 z3,()),())⟩)))
theorem aEG (x:PH) (Q:ki.Y->Prop):wpf te Cz av 1000 Tryz.f108 (ki.inp.inj x).tm (ki.inp.inj x).hp (fnK ki W8 Q) (λ_ _=>False)=(acq (x.1.1) (x.1.2.1)).wpR Q:=by kernel_rfl
theorem alC (pre:PH->Bool) (F:PH->OT ki.Y) (hF:∀ (x:PH) oy,pre x=true->(F x).run=some oy->(acq (x.1.1) (x.1.2.1)).run=some oy):ac Tryz.prog 108 (ki.aI pre F):=
 aD aq zu aau (f:=108) (fn:=Tryz.f108) (c:=aj Tryz.f108) (by kernel_rfl) (by kernel_rfl) (by kernel_rfl) (S:=ki) (k:=0) (by kernel_rfl) (λR hR=>af) (n:=1000) (sel:=W8) (λv o h=>by cases h;rfl) (pre:=pre) (F:=F) (T:=λx=>acq (x.1.1) (x.1.2.1)) (λx Q=>aEG x Q) hF
def aH0 (p:Nat) (n:Int):aa:=cond (decide (0<=n)) (ofP p ⟨i2u n,0,0,0⟩) (zR p ⟨0-i2u n,0,0,0⟩)
def JH (x:PH):Bool:=al x.1.1
def ash (x:PH):OT ki.Y:=.ok ⟨AW,((aH0 (pS x.1.1) x.1.2.1,()),())⟩
theorem azc:ac Tryz.prog 108 (ki.aI JH ash):=alC _ _ λx oy hp ho=>by
 rw [<-ho]
 clear ho
 obtain ⟨⟨s,n,⟨⟩⟩,⟨⟩⟩:=x
 have hs:al s=true:=hp
 show _=some (⟨AW,((aH0 (pS s) n,()),())⟩:ki.Y)
 unfold aH0
 rcases (Bool.eq_false_or_eq_true (decide ((0:Int)<=n))).symm with h|h
 ·rw [h]
  refine (OT.ar h).trans ((ah ?_).trans rfl)
  simp only [List.all_cons,List.all_nil,Bool.and_true]
  exact hs
 ·rw [h]
  refine (OT.ap h).trans ((ah ?_).trans rfl)
  simp only [List.all_cons,List.all_nil,Bool.and_true]
  exact hs
def D3:cj:=(ki.aI JH ash)
theorem acp:ac Tryz.prog 108 D3:=azc
theorem aco:aG D3:=aA
def FL:Env:=ay 108 D3 Cz
theorem wV:aR Tryz.prog FL:=ag acp zu
theorem G1:ax FL:=ae aco Cy
theorem M5:aW Tryz.prog te FL:=aK follows aq wV G1
def iq:aw:=⟨[.val false .int,.val false .int],[],true,0,false⟩
abbrev DQ:Type:=((Int)×(Int)×Unit)×(Unit)
def sF:Shape:=⟨38,[(0,.val false .int),(1,.val false .int),(4,.ptr 0 0 0)],[(0,.cells [.val false .u64,.val false .u64,.val false .u64,.val false .u64,.val false .u64,.val false .u64,.val false .u64,.val false .u64,.val false .bool])],0,true⟩
abbrev cp:Type:=((Int)×(Int)×(Unit)×Unit)×(((UInt64)×(UInt64)×(UInt64)×(UInt64)×(UInt64)×(UInt64)×(UInt64)×(UInt64)×(Bool)×Unit)×Unit)
def jw:Shape:=⟨38,[(4,.ptr 0 0 0)],[(0,.cells [.val false .u64,.val false .u64,.val false .u64,.val false .u64,.val false .u64,.val false .u64,.val false .u64,.val false .u64,.val false .bool])],0,true⟩
abbrev jX:Type:=((Unit)×Unit)×(((UInt64)×(UInt64)×(UInt64)×(UInt64)×(UInt64)×(UInt64)×(UInt64)×(UInt64)×(Bool)×Unit)×Unit)
def WC:SE->Option Shape:=fw [] (some jw)
def arN (a0:Int) (a1:Int) (c0_0:UInt64) (c0_1:UInt64) (c0_2:UInt64) (c0_3:UInt64) (c0_4:UInt64) (c0_5:UInt64) (c0_6:UInt64) (c0_7:UInt64) (c0_8:Bool):OT (Sum cp aE):=
 let z0:Nat:=pS a0
 let z1:aa:=aH0 z0 a1
 let z2:aa:=xl z0 z1 (bS a0)
 let z3:aa:=ofP z0 z2
 let z4:Bool:=inR (a1+(1:Int))
 let z5:aa:=kR z0 (sn a0 z3)
 let z6:=z5.w0
 let z7:=z5.w1
 let z8:=z5.w2
 let z9:=z5.w3
 let z10:=z1.w0
 let z11:=z1.w1
 let z12:=z1.w2
 let z13:=z1.w3
 (gd [JH ((a0,a1,()),()),oc ((a0,z1,()),()),og ((a0,z2,()),())] (.br (bQ z3)
 (gd [z4] (.ok (.inl ((a0,(a1+(1:Int),((),()))),((c0_0,(c0_1,(c0_2,(c0_3,(c0_4,(c0_5,(c0_6,(c0_7,(c0_8,()))))))))),())))))
 (.br (eqE (gN z0 z3 (dj (eg (aX (Int.toNat a0)).fst eJ).fst)) eJ)
  (.br (!(z6==(0:UInt64)&&(z7==(0:UInt64)&&(z8==(0:UInt64)&&(z9==(0:UInt64)&&true)))))
   (.br (!(z10==(0:UInt64)&&(z11==(0:UInt64)&&(z12==(0:UInt64)&&(z13==(0:UInt64)&&true)))))
    (.ok (.inr ⟨(.ret,jw),(((),()),((z10,(z11,(z12,(z13,(z6,(z7,(z8,(z9,(false,()))))))))),()))⟩))
    (gd [z4] (.ok (.inl ((a0,(a1+(1:Int),((),()))),((c0_0,(c0_1,(c0_2,(c0_3,(c0_4,(c0_5,(c0_6,(c0_7,(c0_8,()))))))))),()))))))
   (gd [z4] (.ok (.inl ((a0,(a1+(1:Int),((),()))),((c0_0,(c0_1,(c0_2,(c0_3,(c0_4,(c0_5,(c0_6,(c0_7,(c0_8,()))))))))),()))))))
  (gd [z4] (.ok (.inl ((a0,(a1+(1:Int),((),()))),((c0_0,(c0_1,(c0_2,(c0_3,(c0_4,(c0_5,(c0_6,(c0_7,(c0_8,()))))))))),()))))))))
def oa (s:cp):OT (Sum cp aE):=arN (s.1.1) (s.1.2.1) (s.2.1.1) (s.2.1.2.1) (s.2.1.2.2.1) (s.2.1.2.2.2.1) (s.2.1.2.2.2.2.1) (s.2.1.2.2.2.2.2.1) (s.2.1.2.2.2.2.2.2.1) (s.2.1.2.2.2.2.2.2.2.1) (s.2.1.2.2.2.2.2.2.2.2.1)
theorem arK (s:cp) (Q:Sum cp aE->Prop):wps te FL av 1000 (aU (aj Tryz.f65) 0) (sF.inj s) (bX sF WC (Q:Sum sF.T aE->Prop))=(oa s).wpR Q:=by kernel_rfl
def AK (g0_r:cp->jX) (s:cp):OT aE:=(.ok ⟨(.ret,jw),g0_r s⟩)
def Jl:az:=⟨[.val true (.prod .elem (.prod .elem .bool))],[],false⟩
def Po:SV->Option az:=λ_=>some Jl
def SC (ok0:cp->Bool) (g0_r:cp->jX) (a0:Int) (a1:Int):OT iq.Y:=
 let z0:(Int×Int×PUnit×PUnit)×(UInt64×UInt64×UInt64×UInt64×UInt64×UInt64×UInt64×UInt64×Bool×PUnit)×PUnit:=((a0,a1,(),()),((0:UInt64),(0:UInt64),(0:UInt64),(0:UInt64),(0:UInt64),(0:UInt64),(0:UInt64),(0:UInt64),false,()),())
 let z1:=(g0_r z0).snd.fst
 let z2:=z1.snd
 let z3:=z2.snd
 let z4:=z3.snd
 let z5:=z4.snd
 let z6:=z5.snd
 let z7:=z6.snd
 let z8:=z7.snd
 (gd [ok0 z0] (.ok ⟨Jl,((({w0:=z1.fst,w1:=z2.fst,w2:=z3.fst,w3:=z4.fst},{w0:=z5.fst,w1:=z6.fst,w2:=z7.fst,w3:=z8.fst},z8.snd.fst),()),())⟩))
theorem ayZ (ok0:cp->Bool) (g0_r:cp->jX) (x:DQ) (Q:iq.Y->Prop):wpf te FL (aO 0 (cg sF 0 ok0 (AK g0_r)) av) 1000 Tryz.f65 (iq.inp.inj x).tm (iq.inp.inj x).hp (fnK iq Po Q) (λ_ _=>False)=(SC ok0 g0_r (x.1.1) (x.1.2.1)).wpR Q:=by kernel_rfl
theorem abS (ok0:cp->Bool) (g0_r:cp->jX) (h0:∀ s:cp,ok0 s=true->∃ m e,ao (oa) m s=some e/\(AK g0_r s).run=some e) (pre:DQ->Bool) (F:DQ->OT iq.Y) (hF:∀ (x:DQ) oy,pre x=true->(F x).run=some oy->(SC ok0 g0_r (x.1.1) (x.1.2.1)).run=some oy):ac Tryz.prog 65 (iq.aI pre F):=
 aD aq wV M5 (f:=65) (fn:=Tryz.f65) (c:=aj Tryz.f65) (by kernel_rfl) (by kernel_rfl) (by kernel_rfl) (S:=iq) (k:=0) (by kernel_rfl) (λR hR=>(aB (c:=(aj Tryz.f65)) (by kernel_rfl) (id:=0) (by kernel_rfl) (aQ aq wV M5 (sh:=sF) hR (xs:=WC) (aC (by kernel_rfl) (by kernel_rfl) hR) aL af (n:=1000) (T:=oa) (λs Q=>arK s Q) (ok:=ok0) (f:=AK g0_r) h0) af)) (n:=1000) (sel:=Po) (λv o h=>by cases h;rfl) (pre:=pre) (F:=F) (T:=λx=>SC ok0 g0_r (x.1.1) (x.1.2.1)) (λx Q=>ayZ ok0 g0_r x Q) hF
def ak4 (s n:Int):aa:=aH0 (pS s) n
def abo (s n:Int):aa:=ofP (pS s) (xl (pS s) (ak4 s n) (bS s))
def aqO (s n:Int):aa:=kR (pS s) (sn s (abo s n))
def R9 (s n:Int):Option Pt:=cond (bQ (abo s n)) none (cond (eqE (gN (pS s) (abo s n) (dj (eg (aX s.toNat).1 eJ).1)) eJ)
 (cond (bQ (aqO s n)) none (cond (bQ (ak4 s n)) none (some (ak4 s n,aqO s n,false)))) none)
def qg (s:Int):Nat->Int->Option Pt
 |0,_=>none
 |k+1,n=>match R9 s n with
  |some P=>some P
  |none=>qg s k (n+1)
def abn (s n:Int) (c:C9):cp:=((s,n,(),()),(c,()))
theorem aqN {s n:Int} (hs:al s=true) (h0:0<=n) (h1:n<=1000000) (c:C9):
 (oa (abn s n c)).run=match R9 s n with
  |some P=>some (.inr ⟨(.ret,jw),(((),()),(bP P,()))⟩)
  |none=>some (.inl (abn s (n+1) c)):=by
 have hi:inR (n+1)=true:=aH (by omega)
 have hgd:∀ z:OT (Sum cp aE),(gd [inR (n+1)] z).run=z.run:=λz=>ah (by simp only [hi,List.all_cons,List.all_nil,Bool.and_true])
 refine (ah (by simp only [List.all_cons,List.all_nil,Bool.and_true,Bool.and_eq_true];exact ⟨hs,hs,hs⟩)).trans ?_
 unfold R9
 rcases (Bool.eq_false_or_eq_true (bQ (abo s n))).symm with h1|h1
 ·refine (OT.ar (b:=bQ (abo s n)) h1).trans ?_
  rcases (Bool.eq_false_or_eq_true (eqE (gN (pS s) (abo s n) (dj (eg (aX s.toNat).1 eJ).1)) eJ)).symm with h2|h2
  ·rw [h1,h2]
   exact (OT.ar h2).trans (hgd _)
  ·refine (OT.ap h2).trans ?_
   rcases (Bool.eq_false_or_eq_true (bQ (aqO s n))).symm with h3|h3
   ·refine (OT.ap (b:= !bQ (aqO s n)) (by rw [h3];rfl)).trans ?_
    rcases (Bool.eq_false_or_eq_true (bQ (ak4 s n))).symm with h4|h4
    ·rw [h1,h2,h3,h4]
     exact OT.ap (b:= !bQ (ak4 s n)) (by rw [h4];rfl)
    ·rw [h1,h2,h3,h4]
     exact (OT.ar (b:= !bQ (ak4 s n)) (by rw [h4];rfl)).trans (hgd _)
   ·rw [h1,h2,h3]
    exact (OT.ar (b:= !bQ (aqO s n)) (by rw [h3];rfl)).trans (hgd _)
 ·rw [h1]
  exact (OT.ap (b:=bQ (abo s n)) h1).trans (hgd _)
theorem V8 {s:Int} (hs:al s=true) (c:C9) {P:Pt}:∀ (k:Nat) (n:Int),0<=n->n+k<=1000000->qg s k n=some P->
 ∃ m,ao oa m (abn s n c)=some ⟨(.ret,jw),(((),()),(bP P,()))⟩
 |0,_,_,_,h=>by cases h
 |k+1,n,h0,h1,h=>by
  have hst:=aqN hs h0 (by omega) c
  unfold qg at h
  cases ho:R9 s n with
  |some Q=>
   rw [ho] at h hst
   obtain rfl:=Option.some.inj h
   exact ⟨1,aM hst⟩
  |none=>
   rw [ho] at h hst
   obtain ⟨m,hm⟩:=V8 hs c k (n+1) (by omega) (by omega) h
   exact ⟨m+1,aF hst hm⟩
def Af:Nat:=2000
def DP (s:cp):Bool:=al s.1.1&&decide (0<=s.1.2.1/\s.1.2.1<=2000)&&(qg s.1.1 Af s.1.2.1).isSome
def aBE (s n:Int):Pt:=(qg s Af n).getD cB
def WG (s:cp):jX:=(((),()),(bP (aBE s.1.1 s.1.2.1),()))
theorem arM:∀ s:cp,DP s=true->∃ m e,ao oa m s=some e/\(AK WG s).run=some e:=by
 rintro ⟨⟨s,n,⟨⟩,⟨⟩⟩,⟨c,⟨⟩⟩⟩ h
 simp only [DP,Bool.and_eq_true,decide_eq_true_eq] at h
 obtain ⟨⟨hs,h0,h1⟩,h2⟩:=h
 obtain ⟨P,hP⟩:=Option.isSome_iff_exists.1 h2
 obtain ⟨m,hm⟩:=V8 hs c Af n h0 (by show n+((2000:Nat):Int)<=_;omega) hP
 refine ⟨m,_,hm,?_⟩
 show some (⟨(.ret,jw),(((),()),(bP ((qg s Af n).getD cB),()))⟩:aE)=_
 rw [hP]
 rfl
def Pp (x:DQ):Bool:=al x.1.1&&decide (0<=x.1.2.1/\x.1.2.1<=2000)&&(qg x.1.1 Af x.1.2.1).isSome
def aid (x:DQ):OT iq.Y:=.ok ⟨Jl,((aBE x.1.1 x.1.2.1,()),())⟩
theorem arL:ac Tryz.prog 65 (iq.aI Pp aid):=abS DP WG arM _ _ λx oy hp ho=>by
 rw [<-ho]
 clear ho
 obtain ⟨⟨s,n,⟨⟩⟩,⟨⟩⟩:=x
 refine (ah ?_).trans rfl
 simp only [List.all_cons,List.all_nil,Bool.and_true]
 exact hp
def yn:cj:=(iq.aI Pp aid)
theorem WE:ac Tryz.prog 65 yn:=arL
theorem WD:aG yn:=aA
def Cu:Env:=ay 65 yn FL
theorem zr:aR Tryz.prog Cu:=ag WE wV
theorem Ct:ax Cu:=ae WD G1
theorem aas:aW Tryz.prog te Cu:=aK follows aq zr Ct
def ln:aw:=⟨[.val false (.list .u8)],[],true,0,false⟩
abbrev O4:Type:=((List (UInt8))×Unit)×(Unit)
def R6:az:=⟨[.own 0],[(0,.row .u8)],false⟩
def V1:SV->Option az:=λ_=>some R6
def abe (a0:List (UInt8)):OT ln.Y:=
 (gd [decide ((0+List.length a0)*1<=140737488355328)] (.ok ⟨R6,(((),()),([]++a0,()))⟩))
theorem aCC (x:O4) (Q:ln.Y->Prop):wpf te Cu av 1000 Tryz.f32 (ln.inp.inj x).tm (ln.inp.inj x).hp (fnK ln V1 Q) (λ_ _=>False)=(abe (x.1.1)).wpR Q:=by kernel_rfl
theorem ak1 (pre:O4->Bool) (F:O4->OT ln.Y) (hF:∀ (x:O4) oy,pre x=true->(F x).run=some oy->(abe (x.1.1)).run=some oy):ac Tryz.prog 32 (ln.aI pre F):=
 aD aq zr aas (f:=32) (fn:=Tryz.f32) (c:=aj Tryz.f32) (by kernel_rfl) (by kernel_rfl) (by kernel_rfl) (S:=ln) (k:=0) (by kernel_rfl) (λR hR=>af) (n:=1000) (sel:=V1) (λv o h=>by cases h;rfl) (pre:=pre) (F:=F) (T:=λx=>abe (x.1.1)) (λx Q=>aCC x Q) hF
def lm (x:O4):Bool:=decide (x.1.1.length<=140737488355328)
def apo (x:O4):OT ln.Y:=.ok ⟨R6,(((),()),(x.1.1,()))⟩
theorem awB:ac Tryz.prog 32 (ln.aI lm apo):=ak1 _ _ λx oy hp ho=>by
 rw [<-ho]
 have hp':x.1.1.length<=140737488355328:=of_decide_eq_true hp
 refine (ah ?_).trans rfl
 simp only [List.all_cons,List.all_nil,Bool.and_true]
 exact decide_eq_true (by omega)
def DA:cj:=(ln.aI lm apo)
theorem abd:ac Tryz.prog 32 DA:=awB
theorem abc:aG DA:=aA
def FB:Env:=ay 32 DA Cu
theorem wS:aR Tryz.prog FB:=ag abd zr
theorem GP:ax FB:=ae abc Ct
theorem MO:aW Tryz.prog te FB:=aK follows aq wS GP
def fV:aw:=⟨[.val false (.list .u8)],[],true,0,false⟩
abbrev wg:Type:=((List (UInt8))×Unit)×(Unit)
def pg:Shape:=⟨27,[(2,.ptr 0 0 0),(3,.ptr 1 0 0),(6,.val false (.list .u8)),(7,.val false .int),(8,.val false .int)],[(0,.row .u64),(1,.row .u64)],0,true⟩
abbrev bF:Type:=((Unit)×(Unit)×(List (UInt8))×(Int)×(Int)×Unit)×((List (UInt64))×(List (UInt64))×Unit)
def nu:Shape:=⟨27,[(2,.ptr 0 0 0),(3,.ptr 1 0 0)],[(0,.row .u64),(1,.row .u64)],0,true⟩
abbrev gx:Type:=((Unit)×(Unit)×Unit)×((List (UInt64))×(List (UInt64))×Unit)
def QM:SE->Option Shape:=fw [(0,nu)] none
def ang (a6:List (UInt8)) (a7:Int) (a8:Int) (c0:List (UInt64)) (c1:List (UInt64)):OT (Sum bF aE):=
 let z0:Int:=Int.tdiv a8 (8:Int)
 let z1:Bool:=inB z0 4
 let z2:Bool:=decide (Int.toNat z0+0<List.length c1)
 let z3:Int:=(8:Int)*Int.tmod a8 (8:Int)
 (.br (decide (a8<a7))
 (gd [inB a8 (List.length a6),true&&inR z0,z1,z2,inR z3,decide ((0:Int)<=z3),z1,z2,inR (a8+(1:Int))] (.ok (.inl (((),((),(a6,(a7,(a8+(1:Int),()))))),(c0,(List.set c1 (Int.toNat z0+0) (List.getD c1 (Int.toNat z0+0) (0:UInt64)|||bR (UInt8.toUInt64 (List.getD a6 (Int.toNat a8) (0:UInt8))) z3),()))))))
 (.ok (.inr ⟨(.exit 0,nu),(((),((),())),(c0,(c1,())))⟩)))
def ph (s:bF):OT (Sum bF aE):=ang (s.1.2.2.1) (s.1.2.2.2.1) (s.1.2.2.2.2.1) (s.2.1) (s.2.2.1)
theorem anc (s:bF) (Q:Sum bF aE->Prop):wps te FB av 1000 (aU (aj Tryz.f101) 0) (pg.inj s) (bX pg QM (Q:Sum pg.T aE->Prop))=(ph s).wpR Q:=by kernel_rfl
def we (g0_0:bF->gx) (s:bF):OT aE:=(.ok ⟨(.exit 0,nu),g0_0 s⟩)
def wc:az:=⟨[.val true .elem],[],false⟩
def Lt:SV->Option az:=λ_=>some wc
def tH (ok0:bF->Bool) (g0_0:bF->gx) (a0:List (UInt8)):OT fV.Y:=
 let z0:(PUnit×PUnit×List UInt8×Int×Int×PUnit)×List UInt64×List UInt64×PUnit:=(((),(),a0,(↑(List.length a0):Int),(0:Int),()),[(0:UInt64),(0:UInt64),(0:UInt64),(0:UInt64)],[(0:UInt64),(0:UInt64),(0:UInt64),(0:UInt64)],())
 let z1:=(g0_0 z0).snd
 let z2:=z1.snd.fst
 let z3:=z1.fst
 let z4:List UInt64:=lay z3 z2 4 (0:UInt64)
 (gd [ok0 z0,decide (4<=List.length z2),decide ((4/1:Nat)+0<=List.length z3),decide (4<=List.length z4)] (.ok ⟨wc,(({w0:=List.getD z4 0 0,w1:=List.getD z4 1 0,w2:=List.getD z4 2 0,w3:=List.getD z4 3 0},()),())⟩))
theorem at9 (ok0:bF->Bool) (g0_0:bF->gx) (x:wg) (Q:fV.Y->Prop):wpf te FB (aO 0 (cg pg 0 ok0 (we g0_0)) av) 1000 Tryz.f101 (fV.inp.inj x).tm (fV.inp.inj x).hp (fnK fV Lt Q) (λ_ _=>False)=(tH ok0 g0_0 (x.1.1)).wpR Q:=by kernel_rfl
theorem YO (ok0:bF->Bool) (g0_0:bF->gx) (h0:∀ s:bF,ok0 s=true->∃ m e,ao (ph) m s=some e/\(we g0_0 s).run=some e) (pre:wg->Bool) (F:wg->OT fV.Y) (hF:∀ (x:wg) oy,pre x=true->(F x).run=some oy->(tH ok0 g0_0 (x.1.1)).run=some oy):ac Tryz.prog 101 (fV.aI pre F):=
 aD aq wS MO (f:=101) (fn:=Tryz.f101) (c:=aj Tryz.f101) (by kernel_rfl) (by kernel_rfl) (by kernel_rfl) (S:=fV) (k:=0) (by kernel_rfl) (λR hR=>(aB (c:=(aj Tryz.f101)) (by kernel_rfl) (id:=0) (by kernel_rfl) (aQ aq wS MO (sh:=pg) hR (xs:=QM) (aC (by kernel_rfl) (by kernel_rfl) hR) aL af (n:=1000) (T:=ph) (λs Q=>anc s Q) (ok:=ok0) (f:=we g0_0) h0) af)) (n:=1000) (sel:=Lt) (λv o h=>by cases h;rfl) (pre:=pre) (F:=F) (T:=λx=>tH ok0 g0_0 (x.1.1)) (λx Q=>at9 ok0 g0_0 x Q) hF
def TB (b:List UInt8) (k:Nat) (l:List UInt64):List UInt64:=l.set (k/8) (l.getD (k/8) 0|||bR (UInt8.toUInt64 (b.getD k 0)) (8*((k%8:Nat):Int)))
def aGK (b:List UInt8) (n:Nat):List UInt64:=upto (TB b) [0,0,0,0] n
def HB (b:List UInt8):aa:=elemOf (aGK b 32)
theorem yN (b:List UInt8):∀ n,(aGK b n).length=4
 |0=>rfl
 |n+1=>(List.length_set ..).trans (yN b n)
def Lu (s:bF):Bool:=decide (s.1.2.2.1.length=32/\s.1.2.2.2.1=32/\s.1.2.2.2.2.1=0/\s.2.2.1= [0,0,0,0])
def QN (s:bF):gx:=(((),(),()),(s.2.1,aGK s.1.2.2.1 32,()))
theorem aE2 (i:Nat):Int.tdiv (i:Int) 8=((i/8:Nat):Int):=by rw [Int.tdiv_eq_ediv_of_nonneg (by omega)];omega
theorem aE3 (i:Nat):Int.tmod (i:Int) 8=((i%8:Nat):Int):=by rw [Int.tmod_eq_emod_of_nonneg (by omega)];omega
theorem anf:∀ s:bF,Lu s=true->∃ m e,ao ph m s=some e/\(we QN s).run=some e:=by
 rintro ⟨⟨⟨⟩,⟨⟩,b,n,i,⟨⟩⟩,⟨c0,c1,⟨⟩⟩⟩ h
 have h':=of_decide_eq_true h
 dsimp only at h'
 obtain ⟨hb,rfl,rfl,rfl⟩:=h'
 have:=(aP (T:=ph) (λi o=>((((),(),b,(32:Int),(i:Int),()),(c0,o,())):bF)) (TB b)
  (λo=>(⟨(.exit 0,nu),(((),(),()),(c0,o,()))⟩:aE)) 32 [0,0,0,0] (λ_ o=>o.length=4) rfl (λi o hi ho=>⟨?_,(List.length_set ..).trans ho⟩) (λo ho=> ?_)).1
 ·obtain ⟨m,hm⟩:=this
  exact ⟨m,_,hm,rfl⟩
 ·have t1:=aE2 i
  have t2:=aE3 i
  refine (OT.ap (decide_eq_true (by dsimp only;omega))).trans ((ah ?_).trans ?_)
  ·simp only [t1,t2,ho,hb,Int.toNat_natCast,List.all_cons,List.all_nil,Bool.and_true,Bool.true_and,Bool.and_eq_true]
   exact ⟨aN (by omega),aH (by omega),aN (by omega),decide_eq_true (by omega),aH (by omega),decide_eq_true (by omega),aN (by omega),decide_eq_true (by omega),aH (by omega)⟩
  ·simp only [OT.cL,t1,t2,Int.toNat_natCast,Nat.add_zero]
   rfl
 ·exact OT.ar (decide_eq_false (by dsimp only;omega))
def jH (x:wg):Bool:=decide (x.1.1.length=32)
def YQ (x:wg):OT fV.Y:=.ok ⟨wc,((HB x.1.1,()),())⟩
abbrev YN (b:List UInt8):bF:=(((),(),b,(b.length:Int),0,()),([0,0,0,0],[0,0,0,0],()))
theorem YP {ok0:bF->Bool} {g0:bF->gx} {b:List UInt8} {L:List UInt64} (hok:ok0 (YN b)=true)
 (hg:g0 (YN b)=(((),(),()),([0,0,0,0],L,()))) (hL:L.length=4):(tH ok0 g0 b).run=some ⟨wc,((elemOf L,()),())⟩:=by
 have e:lay [0,0,0,0] L 4 0=L:=xv rfl hL
 unfold tH
 simp only [hg]
 refine (ah ?_).trans ?_
 ·simp only [e,hL,List.all_cons,List.all_nil,Bool.and_true,Bool.and_eq_true]
  exact ⟨hok,rfl,rfl,rfl⟩
 ·rw [e]
  rfl
theorem ane:ac Tryz.prog 101 (fV.aI jH YQ):=YO Lu QN anf _ _ λx oy hp ho=>by
 rw [<-ho]
 clear ho
 obtain ⟨⟨b,⟨⟩⟩,⟨⟩⟩:=x
 have hb:b.length=32:=of_decide_eq_true hp
 exact YP (b:=b) (L:=aGK b 32) (decide_eq_true ⟨hb,by show ((b.length:Nat):Int)=32;omega,rfl,rfl⟩) rfl (yN b 32)
def tG:cj:=(fV.aI jH YQ)
theorem Un:ac Tryz.prog 101 tG:=ane
theorem Um:aG tG:=aA
def uQ:Env:=ay 101 tG FB
theorem uP:aR Tryz.prog uQ:=ag Un wS
theorem xS:ax uQ:=ae Um GP
theorem VD:aW Tryz.prog te uQ:=aK follows aq uP xS
def ko:aw:=⟨[.val false .int,.val false (.list .u8)],[],true,0,false⟩
abbrev QG:Type:=((Int)×(List (UInt8))×Unit)×(Unit)
def iX:az:=⟨[.val true .elem,.val false .int],[],false⟩
def Yy:SV->Option az:=λ_=>some iX
def Lh (a0:Int) (a1:List (UInt8)):OT ko.Y:=
 let z0:Nat:=List.length a1
 let z1:Int:=(↑z0:Int)
 let z2:aa:= {w0:=0,w1:=0,w2:=0,w3:=0}
 let z3:List UInt8:=List.drop 0 (List.take 32 a1)
 let z4:List UInt8:=List.drop 32 a1
 let z5:aa:=(aX (Int.toNat a0)).fst
 (.br (al a0)
 (.br (!z1==(64:Int))
  (.ok ⟨iX,((z2,((21:Int),())),())⟩)
  (gd [dz (0:Int) (32:Int) z0,jH ((z3,()),()),dz (32:Int) z1 z0,jH ((z4,()),())] (.br (nj z5)
   (.ok ⟨iX,((z2,((10:Int),())),())⟩)
   (.ok ⟨iX,((ayU (HB z3) (HB z4) z5,((0:Int),())),())⟩))))
 (.ok ⟨iX,((z2,((20:Int),())),())⟩))
theorem aFr (x:QG) (Q:ko.Y->Prop):wpf te uQ av 1000 Tryz.f69 (ko.inp.inj x).tm (ko.inp.inj x).hp (fnK ko Yy Q) (λ_ _=>False)=(Lh (x.1.1) (x.1.2.1)).wpR Q:=by kernel_rfl
theorem amY (pre:QG->Bool) (F:QG->OT ko.Y) (hF:∀ (x:QG) oy,pre x=true->(F x).run=some oy->(Lh (x.1.1) (x.1.2.1)).run=some oy):ac Tryz.prog 69 (ko.aI pre F):=
 aD aq uP VD (f:=69) (fn:=Tryz.f69) (c:=aj Tryz.f69) (by kernel_rfl) (by kernel_rfl) (by kernel_rfl) (S:=ko) (k:=0) (by kernel_rfl) (λR hR=>af) (n:=1000) (sel:=Yy) (λv o h=>by cases h;rfl) (pre:=pre) (F:=F) (T:=λx=>Lh (x.1.1) (x.1.2.1)) (λx Q=>aFr x Q) hF
def HD (b:List UInt8):Bool:=(b.length:Int)==64
def VZ (s:Int) (b:List UInt8):aa:=ayU (HB (b.take 32)) (HB (b.drop 32)) (aX s.toNat).1
def Yz (_:QG):Bool:=true
def atV (x:QG):OT ko.Y:=.br (al x.1.1) (.br (HD x.1.2.1) (.ok ⟨iX,((VZ x.1.1 x.1.2.1,((0:Int),())),())⟩) (.ok ⟨iX,((⟨0,0,0,0⟩,((21:Int),())),())⟩)) (.ok ⟨iX,((⟨0,0,0,0⟩,((20:Int),())),())⟩)
theorem K2 {b:List UInt8}:HD b=true ↔ b.length=64:=by
 unfold HD
 rw [beq_iff_eq]
 omega
theorem aiN {s:Int} (h:al s=true):nj (aX s.toNat).1=false:=by
 rcases ck h with rfl|rfl|rfl|rfl<;>rfl
theorem amZ {s:Int} {b:List UInt8} {W:aa} (hW:ayU (HB (List.drop 0 (b.take 32))) (HB (b.drop 32)) (aX s.toNat).1=W):(Lh s b).run=(OT.br (al s) (.br (HD b) (.ok ⟨iX,((W,((0:Int),())),())⟩) (.ok ⟨iX,((⟨0,0,0,0⟩,((21:Int),())),())⟩)) (.ok ⟨iX,((⟨0,0,0,0⟩,((20:Int),())),())⟩):OT ko.Y).run:=by
 unfold Lh
 simp only [hW]
 rcases (Bool.eq_false_or_eq_true (al s)).symm with hs|hs
 ·exact (OT.ar hs).trans (OT.ar (b:=al s) hs).symm
 ·refine (OT.ap hs).trans (Eq.trans ?_ (OT.ap (b:=al s) hs).symm)
  rcases (Bool.eq_false_or_eq_true (HD b)).symm with hl|hl
  ·exact (OT.ap (b:= !HD b) (by rw [hl];rfl)).trans (OT.ar (b:=HD b) hl).symm
  ·have hb:b.length=64:=K2.1 hl
   refine (OT.ar (b:= !HD b) (by rw [hl];rfl)).trans (Eq.trans ?_ (OT.ap (b:=HD b) hl).symm)
   refine (ah ?_).trans (OT.ar (aiN hs))
   simp only [List.all_cons,List.all_nil,Bool.and_true,Bool.and_eq_true]
   exact ⟨fv (by omega),decide_eq_true (by show (List.drop 0 (b.take 32)).length=32;rw [List.drop_zero,List.length_take];omega),fv (by omega),decide_eq_true (by show (List.drop 32 b).length=32;rw [List.length_drop];omega)⟩
theorem az6:ac Tryz.prog 69 (ko.aI Yz atV):=amY _ _ λx oy hp ho=>by
 rw [<-ho]
 clear ho
 obtain ⟨⟨s,b,⟨⟩⟩,⟨⟩⟩:=x
 exact amZ rfl
def ET:cj:=(ko.aI Yz atV)
theorem adP:ac Tryz.prog 69 ET:=az6
theorem adO:aG ET:=aA
def Nl:Env:=ay 69 ET uQ
theorem FW:aR Tryz.prog Nl:=ag adP uP
theorem Hf:ax Nl:=ae adO xS
theorem afs:aW Tryz.prog te Nl:=aK follows aq FW Hf
def fc:aw:=⟨[.val false .int,.val false (.list .u8)],[],true,0,false⟩
abbrev wo:Type:=((Int)×(List (UInt8))×Unit)×(Unit)
def dv:az:=⟨[.val true .elem,.val false .int],[],false⟩
def LP:SV->Option az:=λ_=>some dv
def tS (a0:Int) (a1:List (UInt8)):OT fc.Y:=
 let z0:aa:= {w0:=0,w1:=0,w2:=0,w3:=0}
 let z1:Bool:=jH ((a1,()),())
 let z2:aa:=HB a1
 (.br (al a0)
 (.br (!(↑(List.length a1):Int)==(32:Int))
  (.ok ⟨dv,((z0,((21:Int),())),())⟩)
  (gd [z1] (.br (!Nat.blt (aa.nat z2) (aa.nat (aX (Int.toNat a0)).fst))
   (.ok ⟨dv,((z0,((21:Int),())),())⟩)
   (gd [z1] (.ok ⟨dv,((z2,((0:Int),())),())⟩)))))
 (.ok ⟨dv,((z0,((20:Int),())),())⟩))
theorem auv (x:wo) (Q:fc.Y->Prop):wpf te Nl av 1000 Tryz.f61 (fc.inp.inj x).tm (fc.inp.inj x).hp (fnK fc LP Q) (λ_ _=>False)=(tS (x.1.1) (x.1.2.1)).wpR Q:=by kernel_rfl
theorem Y5 (pre:wo->Bool) (F:wo->OT fc.Y) (hF:∀ (x:wo) oy,pre x=true->(F x).run=some oy->(tS (x.1.1) (x.1.2.1)).run=some oy):ac Tryz.prog 61 (fc.aI pre F):=
 aD aq FW afs (f:=61) (fn:=Tryz.f61) (c:=aj Tryz.f61) (by kernel_rfl) (by kernel_rfl) (by kernel_rfl) (S:=fc) (k:=0) (by kernel_rfl) (λR hR=>af) (n:=1000) (sel:=LP) (λv o h=>by cases h;rfl) (pre:=pre) (F:=F) (T:=λx=>tS (x.1.1) (x.1.2.1)) (λx Q=>auv x Q) hF
def fA (b:List UInt8):Bool:=(b.length:Int)==32
theorem o6 {b:List UInt8}:fA b=true ↔ b.length=32:=by
 unfold fA
 rw [beq_iff_eq]
 omega
def LQ (_:wo):Bool:=true
def Y7 (x:wo):OT fc.Y:=.br (al x.1.1) (.br (fA x.1.2.1) (.br (Nat.blt (HB x.1.2.1).nat (pS x.1.1)) (.ok ⟨dv,((HB x.1.2.1,((0:Int),())),())⟩) (.ok ⟨dv,((⟨0,0,0,0⟩,((21:Int),())),())⟩))
 (.ok ⟨dv,((⟨0,0,0,0⟩,((21:Int),())),())⟩)) (.ok ⟨dv,((⟨0,0,0,0⟩,((20:Int),())),())⟩)
theorem Y6 {s:Int} {b:List UInt8} {N:aa} (hN:HB b=N):(tS s b).run=(OT.br (al s) (.br (fA b) (.br (Nat.blt N.nat (pS s)) (.ok ⟨dv,((N,((0:Int),())),())⟩) (.ok ⟨dv,((⟨0,0,0,0⟩,((21:Int),())),())⟩))
 (.ok ⟨dv,((⟨0,0,0,0⟩,((21:Int),())),())⟩)) (.ok ⟨dv,((⟨0,0,0,0⟩,((20:Int),())),())⟩):OT fc.Y).run:=by
 unfold tS
 simp only [hN]
 rcases (Bool.eq_false_or_eq_true (al s)).symm with hs|hs
 ·exact (OT.ar hs).trans (OT.ar (b:=al s) hs).symm
 ·refine (OT.ap hs).trans (Eq.trans ?_ (OT.ap (b:=al s) hs).symm)
  rcases (Bool.eq_false_or_eq_true (fA b)).symm with hl|hl
  ·exact (OT.ap (b:= !fA b) (by rw [hl];rfl)).trans (OT.ar (b:=fA b) hl).symm
  ·have hp:jH ((b,()),())=true:=decide_eq_true (o6.1 hl)
   refine (OT.ar (b:= !fA b) (by rw [hl];rfl)).trans (Eq.trans ?_ (OT.ap (b:=fA b) hl).symm)
   rw [hp]
   refine (ah rfl).trans ?_
   rcases (Bool.eq_false_or_eq_true (Nat.blt N.nat (pS s))).symm with h|h
   ·exact (OT.ap (b:= !Nat.blt N.nat (pS s)) (by rw [h];rfl)).trans (OT.ar (b:=Nat.blt N.nat (pS s)) h).symm
   ·exact (OT.ar (b:= !Nat.blt N.nat (pS s)) (by rw [h];rfl)).trans ((ah rfl).trans (OT.ap (b:=Nat.blt N.nat (pS s)) h).symm)
theorem anH:ac Tryz.prog 61 (fc.aI LQ Y7):=Y5 _ _ λx oy hp ho=>by
 rw [<-ho]
 clear ho
 obtain ⟨⟨s,b,⟨⟩⟩,⟨⟩⟩:=x
 exact Y6 rfl
def tR:cj:=(fc.aI LQ Y7)
theorem Uy:ac Tryz.prog 61 tR:=anH
theorem Ux:aG tR:=aA
def NG:Env:=ay 61 tR Nl
theorem aaH:aR Tryz.prog NG:=ag Uy FW
theorem OV:ax NG:=ae Ux Hf
abbrev auk:aw:=nw
def tP (x:Y1):Bool:=al x.1.1
def aul (x:Y1):OT nw.Y:=.ok ⟨E3,((gN (pS x.1.1) x.1.2.1 x.1.2.2.1,()),())⟩
theorem aAp:ac Tryz.prog 137 (auk.aI tP aul):=js (S:=nw) aun λx oy hp ho=>⟨rfl,(OT.ap (b:=al x.1.1) hp).trans ho⟩
def E1:cj:=(auk.aI tP aul)
theorem aea:ac Tryz.prog 137 E1:=aAp
theorem ad9:aG E1:=aA
def uS:Env:=ay 137 E1 NG
theorem lb:aR Tryz.prog uS:=ag aea aaH
theorem Hl:ax uS:=ae ad9 OV
theorem rH:aW Tryz.prog te uS:=aK follows aq lb Hl
end Go.Proofs.YtohjofabochgfaaGreat
