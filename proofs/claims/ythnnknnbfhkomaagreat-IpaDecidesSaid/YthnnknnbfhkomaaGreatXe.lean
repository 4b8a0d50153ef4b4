/- A symbolic machine for Go code over plain data, and functions of the program as it shows them. No statement is proved in this file. -/
import Derived.KernelRfl
import Derived.Tactics
import Derived.Tactics2
import Derived.Laws.Pointers
import Derived.RangeFuncNested
import Derived.RangeFuncBound
import Derived.RangeFuncCalls
import Derived.RangeFuncLeaves
import Derived.OrdersIn
import Derived.TacticsIn
import Derived.Shelf.Abstract
import Derived.WalkKit
import Derived.OwnWalkIn
import Derived.TacticsInMore
import Derived.LoopNIn
import Derived.LoopIn
import Derived.Test.YthnnknnbfhkomaaGreatXd
set_option linter.unusedSimpArgs false
set_option linter.unusedVariables false
set_option linter.unusedSectionVars false
namespace Go.Proofs.YthnnknnbfhkomaaGreat
section
open Sx Go
set_option maxRecDepth 100000
def ob:af:=⟨[aB,.val false (.list Cz)],[],true,0,false⟩
abbrev Qn:Type:=Ym
def aDT:Shape:=⟨45,[dC,jy,(26,nH),(27,aB),(28,aB)],[kV,(1,.cells [aB,.own 2]),zo],0,true⟩
abbrev dF:Type:=(Unit×Unit×cY×jv)×jY×aii
def mg:Shape:=⟨45,[dC,(5,aB)],[kV],0,true⟩
abbrev uX:Type:=oK×jY×Unit
def AN:Shape:=⟨45,[dC,jy],[kV,(1,.cells [aB,.own 2]),zo],0,true⟩
abbrev Dc:Type:=mK×jY×aii
def aDV (a26:cY) (a27:Int) (a28:Int) (c0_0:UInt64) (c0_1:UInt64) (c0_2:UInt64) (c0_3:UInt64) (c0_4:UInt64) (c0_5:UInt64) (c0_6:UInt64) (c0_7:UInt64) (c0_8:Bool) (c1_0:Int) (c2:cY):OT (Sum dF aT):=
 let z0:ab:= {w0:=0,w1:=0,w2:=0,w3:=0}
 let z1:Fm:=List.getD a26 (Int.toNat a28) (z0,z0,z0,false)
 let z2:=z1.snd
 (.br (decide (a28<a27))
 (gd [inB a28 (List.length a26)] (.br (onB c1_0 z2)
  (.br (Uc c2)
   (gd [inR (a28+(1:Int))] (.ok (.inl (((),(),a26,a27,a28+(1:Int),()),(c0_0,c0_1,c0_2,c0_3,c0_4,c0_5,c0_6,c0_7,c0_8,()),(c1_0,(),()),c2++ [(FC c1_0 z1.fst,z2)],()))))
   (.ok (.inr ⟨(.ret,mg),(((),(50:Int),()),((0:UInt64),(0:UInt64),(0:UInt64),(0:UInt64),(0:UInt64),(0:UInt64),(0:UInt64),(0:UInt64),false,()),())⟩)))
  (.ok (.inr ⟨(.ret,mg),(((),(41:Int),()),((0:UInt64),(0:UInt64),(0:UInt64),(0:UInt64),(0:UInt64),(0:UInt64),(0:UInt64),(0:UInt64),false,()),())⟩))))
 (.ok (.inr ⟨(.exit 1,AN),(((),(),()),(c0_0,c0_1,c0_2,c0_3,c0_4,c0_5,c0_6,c0_7,c0_8,()),(c1_0,(),()),c2,())⟩)))
def Im (s:dF):OT (Sum dF aT):=aDV s.1.2.2.1 s.1.2.2.2.1 s.1.2.2.2.2.1 s.2.1.1 s.2.1.2.1 s.2.1.2.2.1 s.2.1.2.2.2.1 s.2.1.2.2.2.2.1 s.2.1.2.2.2.2.2.1 s.2.1.2.2.2.2.2.2.1 s.2.1.2.2.2.2.2.2.2.1 s.2.1.2.2.2.2.2.2.2.2.1 s.2.2.1.1 s.2.2.2.1
def aqD (g1_r:dF->uX) (c1_r:dF->Bool) (g1_1:dF->Dc) (s:dF):OT aT:=(.br (c1_r s) (.ok ⟨(.ret,mg),g1_r s⟩) (.ok ⟨(.exit 1,AN),g1_1 s⟩))
def iZ:aH:=⟨K8,[],false⟩
section
variable (ok1:dF->Bool) (g1_r:dF->uX) (c1_r:dF->Bool) (g1_1:dF->Dc)
def aqE (a0:Int) (a1:cY):OT ob.Y:=
 let z0:Int:=(↑(List.length a1):Int)
 let z1:ab:= {w0:=0,w1:=0,w2:=0,w3:=0}
 let z2:cM:=(z1,z1,false)
 let z3:dF:=(((),(),a1,z0,(0:Int),()),((0:UInt64),(0:UInt64),(0:UInt64),(0:UInt64),(0:UInt64),(0:UInt64),(0:UInt64),(0:UInt64),false,()),(a0,(),()),[],())
 let z4:uX:=g1_r z3
 let z5:=z4.snd.fst
 let z6:=z5.snd
 let z7:=z6.snd
 let z8:=z7.snd
 let z9:=z8.snd
 let z10:=z9.snd
 let z11:=z10.snd
 let z12:=z11.snd
 let z13:=(g1_1 z3).snd.snd
 let z14:=z13.fst.fst
 let z15:=z13.snd.fst
 (.br (ac a0)
 (.br (decide ((100000:Int)<z0))
  (.ok ⟨iZ,((z2,(50:Int),()),())⟩)
  (gd [ok1 z3] (.br (c1_r z3)
   (.ok ⟨iZ,((({w0:=z5.fst,w1:=z6.fst,w2:=z7.fst,w3:=z8.fst},{w0:=z9.fst,w1:=z10.fst,w2:=z11.fst,w3:=z12.fst},z12.snd.fst),z4.fst.snd.fst,()),())⟩)
   (gd [C7 (((),()),(z14,(),()),z15,())] (.ok ⟨iZ,((wc z14 z15,(0:Int),()),())⟩)))))
 (.ok ⟨iZ,((z2,(40:Int),()),())⟩))
theorem aqC (h1:aY Im ok1 (aqD g1_r c1_r g1_1)) (pre:Qn->Bool) (F:Qn->OT ob.Y) (hF:∀ (x:Qn) oy,pre x=true->(F x).run=some oy->(aqE ok1 g1_r c1_r g1_1 x.1.1 x.1.2.1).run=some oy):aa ag 84 (ob.aw pre F):=
 cC Ep 84 Tryz.f84 ob [iZ] (js Ep 1 aDT [(1,AN)] (some mg) none Im bw h1 bw) (λx=>aqE ok1 g1_r c1_r g1_1 x.1.1 x.1.2.1) hF
end
def rE (c:Int) (l:List Tm):List Tm:=l.map λt=>(FC c t.1,t.2)
def cH (c:Int) (l:List Tm):Bool:=l.all λt=>onB c t.2
def Ql (s:dF):Bool:=decide (s.1.2.2.2.1=(s.1.2.2.1.length:Int)/\s.1.2.2.2.2.1=0/\s.2.2.2.1= []/\s.1.2.2.1.length<=100000)
def Qm (_:dF):uX:=(((),(41:Int),()),bN eJ,())
def abn (s:dF):Bool:= !cH s.2.2.1.1 s.1.2.2.1
def abm (s:dF):Dc:=(((),(),()),s.2.1,(s.2.2.1.1,(),()),rE s.2.2.1.1 s.1.2.2.1,())
def TN (c:Int) (l:List Tm) (c0:C9) (k:Int) (o:List Tm):dF:=(((),(),l,(l.length:Int),k,()),c0,(c,(),()),o,())
theorem afJ (c:Int) (l:List Tm) (c0:C9) (hl:l.length<=100000):∀ d k:Nat,k+d=l.length->
 ∃ m,cx Im m (TN c l c0 (k:Int) (rE c (l.take k)))=some (cond (cH c (l.drop k)) ⟨(.exit 1,AN),(((),(),()),c0,(c,(),()),rE c l,())⟩ ⟨(.ret,mg),(((),(41:Int),()),bN eJ,())⟩)
 |0,k,h=>by
  rw [List.drop_eq_nil_of_le (by omega),List.take_of_length_le (by omega)]
  exact ⟨1,aO (OT.al (bn (by dsimp only [TN];omega)))⟩
 |d+1,k,h=>by
  have hk:k<l.length:=by omega
  have e1:l.drop k=l[k]::l.drop (k+1):=oW hk
  have e2:l.take (k+1)=l.take k++ [l[k]]:=(List.take_append_getElem hk).symm
  have e3:l.getD k kK=l[k]:=by rw [ju,ui hk];rfl
  have hgd:∀ z:OT (Sum dF aT),(gd [inB (k:Int) l.length] z).run=z.run:=λz=>ae (by rw [aR (by omega)];rfl)
  have ea:cH c (l.drop k)=(onB c l[k].2&&cH c (l.drop (k+1))):=by rw [e1];rfl
  rw [ea]
  have hr:Uc (rE c (l.take k))=true:=aj (by rw [rE,List.length_map,fI];omega)
  have first:∀ e:aT ⊕ Unit,(Im (TN c l c0 (k:Int) (rE c (l.take k)))).run=(OT.br (onB c (l.getD k kK).2) (.br (Uc (rE c (l.take k))) (gd [inR ((k:Int)+1)] (.ok (.inl (TN c l c0 ((k:Int)+1) (rE c (l.take k)++ [(FC c (l.getD k kK).1,(l.getD k kK).2)])))))
   (.ok (.inr ⟨(.ret,mg),(((),(50:Int),()),bN eJ,())⟩))) (.ok (.inr ⟨(.ret,mg),(((),(41:Int),()),bN eJ,())⟩)):OT (Sum dF aT)).run:=λ_=>
   (OT.ak (aj (by dsimp only [TN];omega))).trans ((hgd _).trans rfl)
  have first:=first (.inr ())
  rw [e3] at first
  rcases (bX (onB c l[k].2)).symm with hb|hb
  ·rw [hb]
   exact ⟨1,aO (first.trans (OT.al hb))⟩
  ·rw [hb]
   obtain ⟨m,hm⟩:=afJ c l c0 hl d (k+1) (by omega)
   refine ⟨m+1,aS ?_ hm⟩
   refine first.trans ((OT.ak hb).trans ((OT.ak hr).trans ((ae ?_).trans ?_)))
   ·simp only [ax,aA,aC]
    exact aL (by omega)
   ·rw [e2]
    simp only [rE,List.map_append,List.map_cons,List.map_nil]
    rfl
theorem aDU:aY Im Ql (aqD Qm abn abm):=by
 rintro ⟨⟨⟨⟩,⟨⟩,l,n,k,⟨⟩⟩,⟨c0,⟨c,⟨⟩,⟨⟩⟩,o,⟨⟩⟩⟩ h
 have h':=bh h
 dsimp only at h'
 obtain ⟨rfl,rfl,rfl,hl⟩:=h'
 obtain ⟨m,hm⟩:=afJ c l c0 hl l.length 0 (by omega)
 refine ⟨m,_,hm,?_⟩
 show (OT.br (!cH c l) _ _:OT aT).run=some (cond (cH c l) _ _)
 cases cH c l<;>rfl
def Qk (_:Qn):Bool:=true
def aqF (x:Qn):OT ob.Y:=.br (ac x.1.1) (.br (decide (x.1.2.1.length<=100000)) (.br (cH x.1.1 x.1.2.1) (.ok ⟨iZ,((wc x.1.1 (rE x.1.1 x.1.2.1),(0:Int),()),())⟩)
 (.ok ⟨iZ,((eJ,(41:Int),()),())⟩)) (.ok ⟨iZ,((eJ,(50:Int),()),())⟩)) (.ok ⟨iZ,((eJ,(40:Int),()),())⟩)
theorem abl:aa ag 84 (ob.aw Qk aqF):=aqC Ql Qm abn abm aDU _ _ λx oy hp ho=>by
 rw [<-ho]
 clear ho
 obtain ⟨⟨c,l,⟨⟩⟩,⟨⟩⟩:=x
 show (aqE Ql Qm abn abm c l).run=(OT.br (ac c) (.br (decide (l.length<=100000)) (.br (cH c l) (.ok ⟨iZ,((wc c (rE c l),(0:Int),()),())⟩)
  (.ok ⟨iZ,((eJ,(41:Int),()),())⟩)) (.ok ⟨iZ,((eJ,(50:Int),()),())⟩)) (.ok ⟨iZ,((eJ,(40:Int),()),())⟩):OT ob.Y).run
 rcases (bX (ac c)).symm with hs|hs
 ·exact (OT.al hs).trans (OT.al (b:=ac c) hs).symm
 ·refine (OT.ak hs).trans (Eq.trans ?_ (OT.ak (b:=ac c) hs).symm)
  by_cases hl:l.length<=100000
  ·refine (OT.al (bn (by omega))).trans (Eq.trans ?_ (OT.ak (b:=decide (l.length<=100000)) (aj hl)).symm)
   refine (ae ?_).trans ?_
   ·simp only [ax,aA,aC]
    exact aj ⟨rfl,rfl,rfl,hl⟩
   ·rcases (bX (cH c l)).symm with ha|ha
    ·exact (OT.ak (b:= !cH c l) (by rw [ha];rfl)).trans (OT.al (b:=cH c l) ha).symm
    ·refine (OT.al (b:= !cH c l) (by rw [ha];rfl)).trans (Eq.trans ?_ (OT.ak (b:=cH c l) ha).symm)
     refine (ae ?_).trans rfl
     simp only [ax,aA,aC]
     refine aj ?_
     show (rE c l).length<=_
     rw [rE,List.length_map]
     omega
  ·exact (OT.ak (aj (by omega))).trans (OT.al (b:=decide (l.length<=100000)) (bn hl)).symm
def Il:bi:=(ob.aw Qk aqF)
theorem alq:aa ag 84 Il:=abl
theorem alp:au Il:=aq
def aBU:Env:=ap 84 Il aiU
theorem aiV:bI ag te aBU:=aP follows Ep alq alp
abbrev An:Type:=ail
abbrev aas:Type:=oK×jY×Unit
abbrev aat:Type:=(Int×cY×mK)×tZ
abbrev Ui:Type:=ail
abbrev aar:Type:=mK×tZ
section
variable (ok0:An->Bool) (g0_r:An->aas) (c0_r:An->Bool) (g0_0:An->aat) (ok2:Ui->Bool) (g2_2:Ui->aar)
end
abbrev aAw:Ty:=.prod .int (.prod .int (.prod (.list (.prod .elem (.prod .elem .bool))) (.prod (.prod .elem (.prod .elem .bool)) (.prod .elem (.prod .elem .bool)))))
def aHC:CSh:=.cells [.val false .int,.val false .int,.val false (.list (.prod .elem (.prod .elem .bool))),.val false .u64,.val false .u64,.val false .u64,.val false .u64,.val false .u64,.val false .u64,.val false .u64,.val false .u64,.val false .bool,.val false .u64,.val false .u64,.val false .u64,.val false .u64,.val false .u64,.val false .u64,.val false .u64,.val false .u64,.val false .bool]
def mZ:af:=⟨[wH,dW],[(0,aHC)],false,1,true⟩
abbrev HN:Type:=(cM×bQ)×K7×Unit
def sb:aH:=⟨mO,[Ys],false⟩
def af0 (a0:cM) (c0_0:Int) (c0_1:Int) (c0_2:cB) (c0_3:UInt64) (c0_4:UInt64) (c0_5:UInt64) (c0_6:UInt64) (c0_7:UInt64) (c0_8:UInt64) (c0_9:UInt64) (c0_10:UInt64) (c0_11:Bool) (c0_12:UInt64) (c0_13:UInt64) (c0_14:UInt64) (c0_15:UInt64) (c0_16:UInt64) (c0_17:UInt64) (c0_18:UInt64) (c0_19:UInt64) (c0_20:Bool):OT mZ.Y:=
 (.br (a0.snd.snd)
 (.ok ⟨sb,((true,()),(c0_0,c0_1,c0_2,c0_3,c0_4,c0_5,c0_6,c0_7,c0_8,c0_9,c0_10,c0_11,c0_12,c0_13,c0_14,c0_15,c0_16,c0_17,c0_18,c0_19,c0_20,()),())⟩)
 (.ok ⟨sb,((!onB c0_0 a0,()),(c0_0,c0_1,c0_2,c0_3,c0_4,c0_5,c0_6,c0_7,c0_8,c0_9,c0_10,c0_11,c0_12,c0_13,c0_14,c0_15,c0_16,c0_17,c0_18,c0_19,c0_20,()),())⟩))
theorem aaL (pre:HN->Bool) (F:HN->OT mZ.Y) (hF:∀ (x:HN) oy,pre x=true->(F x).run=some oy->(af0 x.1.1 x.2.1.1 x.2.1.2.1 x.2.1.2.2.1 x.2.1.2.2.2.1 x.2.1.2.2.2.2.1 x.2.1.2.2.2.2.2.1 x.2.1.2.2.2.2.2.2.1 x.2.1.2.2.2.2.2.2.2.1 x.2.1.2.2.2.2.2.2.2.2.1 x.2.1.2.2.2.2.2.2.2.2.2.1 x.2.1.2.2.2.2.2.2.2.2.2.2.1 x.2.1.2.2.2.2.2.2.2.2.2.2.2.1 x.2.1.2.2.2.2.2.2.2.2.2.2.2.2.1 x.2.1.2.2.2.2.2.2.2.2.2.2.2.2.2.1 x.2.1.2.2.2.2.2.2.2.2.2.2.2.2.2.2.1 x.2.1.2.2.2.2.2.2.2.2.2.2.2.2.2.2.2.1 x.2.1.2.2.2.2.2.2.2.2.2.2.2.2.2.2.2.2.1 x.2.1.2.2.2.2.2.2.2.2.2.2.2.2.2.2.2.2.2.1 x.2.1.2.2.2.2.2.2.2.2.2.2.2.2.2.2.2.2.2.2.1 x.2.1.2.2.2.2.2.2.2.2.2.2.2.2.2.2.2.2.2.2.2.1 x.2.1.2.2.2.2.2.2.2.2.2.2.2.2.2.2.2.2.2.2.2.2.1).run=some oy):aa ag 78 (mZ.aw pre F):=
 cC aiV 78 Tryz.f78 mZ [sb] bw (λx=>af0 x.1.1 x.2.1.1 x.2.1.2.1 x.2.1.2.2.1 x.2.1.2.2.2.1 x.2.1.2.2.2.2.1 x.2.1.2.2.2.2.2.1 x.2.1.2.2.2.2.2.2.1 x.2.1.2.2.2.2.2.2.2.1 x.2.1.2.2.2.2.2.2.2.2.1 x.2.1.2.2.2.2.2.2.2.2.2.1 x.2.1.2.2.2.2.2.2.2.2.2.2.1 x.2.1.2.2.2.2.2.2.2.2.2.2.2.1 x.2.1.2.2.2.2.2.2.2.2.2.2.2.2.1 x.2.1.2.2.2.2.2.2.2.2.2.2.2.2.2.1 x.2.1.2.2.2.2.2.2.2.2.2.2.2.2.2.2.1 x.2.1.2.2.2.2.2.2.2.2.2.2.2.2.2.2.2.1 x.2.1.2.2.2.2.2.2.2.2.2.2.2.2.2.2.2.2.1 x.2.1.2.2.2.2.2.2.2.2.2.2.2.2.2.2.2.2.2.1 x.2.1.2.2.2.2.2.2.2.2.2.2.2.2.2.2.2.2.2.2.1 x.2.1.2.2.2.2.2.2.2.2.2.2.2.2.2.2.2.2.2.2.2.1 x.2.1.2.2.2.2.2.2.2.2.2.2.2.2.2.2.2.2.2.2.2.2.1) hF
abbrev aBF:Type:=Int×(Int×(List Pt×(UInt64×(UInt64×(UInt64×(UInt64×(UInt64×(UInt64×(UInt64×(UInt64×(Bool×(UInt64×(UInt64×(UInt64×(UInt64×(UInt64×(UInt64×(UInt64×(UInt64×(Bool×Unit))))))))))))))))))))
def Qe:Pt:=(⟨0,0,0,0⟩,⟨0,0,0,0⟩,false)
def SN (c:Int) (P:Pt):Bool:=cond P.2.2 true (!onB c P)
def MH (_:HN):Bool:=true
def af1 (x:HN):OT mZ.Y:=.ok ⟨sb,((SN x.2.1.1 x.1.1,()),x.2)⟩
theorem apG:aa ag 78 (mZ.aw MH af1):=aaL _ _ λx oy hp ho=>by
 rw [<-ho]
 clear ho
 obtain ⟨⟨P,⟨⟩,⟨⟩⟩,⟨i,⟨⟩⟩⟩:=x
 show _=some (⟨sb,((SN i.1 P,()),i,())⟩:mZ.Y)
 unfold SN
 rcases (bX P.2.2).symm with h|h
 ·rw [h]
  exact (OT.al h).trans rfl
 ·rw [h]
  exact (OT.ak h).trans rfl
def xv:bi:=(mZ.aw MH af1)
theorem UD:aa ag 78 xv:=apG
theorem UC:au xv:=aq
def aiQ:Env:=ap 78 xv aBU
theorem Eo:bI ag te aiQ:=aP follows aiV UD UC
def km:af:=⟨[wG,.fn 78 [0]],[(0,aHC)],false,1,true⟩
abbrev Ay:Type:=(cB×bQ)×K7×Unit
def akY:Shape:=⟨19,[(0,wG),(1,.fn 78 [0]),ry,(8,aB)],[Ys],1,true⟩
abbrev bU:Type:=(cB×Unit×jv)×K7×Unit
def m5:Shape:=⟨19,[(4,aB)],[Ys],1,true⟩
abbrev lj:Type:=eE×K7×Unit
def m6:Shape:=⟨19,[],[Ys],1,true⟩
abbrev pD:Type:=Unit×K7×Unit
def ak1 (a0:cB) (a7:Int) (a8:Int) (c0_0:Int) (c0_1:Int) (c0_2:cB) (c0_3:UInt64) (c0_4:UInt64) (c0_5:UInt64) (c0_6:UInt64) (c0_7:UInt64) (c0_8:UInt64) (c0_9:UInt64) (c0_10:UInt64) (c0_11:Bool) (c0_12:UInt64) (c0_13:UInt64) (c0_14:UInt64) (c0_15:UInt64) (c0_16:UInt64) (c0_17:UInt64) (c0_18:UInt64) (c0_19:UInt64) (c0_20:Bool):OT (Sum bU aT):=
 let z0:ab:= {w0:=0,w1:=0,w2:=0,w3:=0}
 (.br (decide (a8<a7))
 (gd [inB a8 (List.length a0)] (.br (SN c0_0 (List.getD a0 (Int.toNat a8) (z0,z0,false)))
  (.ok (.inr ⟨(.ret,m5),((a8,()),(c0_0,c0_1,c0_2,c0_3,c0_4,c0_5,c0_6,c0_7,c0_8,c0_9,c0_10,c0_11,c0_12,c0_13,c0_14,c0_15,c0_16,c0_17,c0_18,c0_19,c0_20,()),())⟩))
  (gd [inR (a8+(1:Int))] (.ok (.inl ((a0,(),a7,a8+(1:Int),()),(c0_0,c0_1,c0_2,c0_3,c0_4,c0_5,c0_6,c0_7,c0_8,c0_9,c0_10,c0_11,c0_12,c0_13,c0_14,c0_15,c0_16,c0_17,c0_18,c0_19,c0_20,()),()))))))
 (.ok (.inr ⟨(.exit 0,m6),((),(c0_0,c0_1,c0_2,c0_3,c0_4,c0_5,c0_6,c0_7,c0_8,c0_9,c0_10,c0_11,c0_12,c0_13,c0_14,c0_15,c0_16,c0_17,c0_18,c0_19,c0_20,()),())⟩)))
def uO (s:bU):OT (Sum bU aT):=ak1 s.1.1 s.1.2.2.1 s.1.2.2.2.1 s.2.1.1 s.2.1.2.1 s.2.1.2.2.1 s.2.1.2.2.2.1 s.2.1.2.2.2.2.1 s.2.1.2.2.2.2.2.1 s.2.1.2.2.2.2.2.2.1 s.2.1.2.2.2.2.2.2.2.1 s.2.1.2.2.2.2.2.2.2.2.1 s.2.1.2.2.2.2.2.2.2.2.2.1 s.2.1.2.2.2.2.2.2.2.2.2.2.1 s.2.1.2.2.2.2.2.2.2.2.2.2.2.1 s.2.1.2.2.2.2.2.2.2.2.2.2.2.2.1 s.2.1.2.2.2.2.2.2.2.2.2.2.2.2.2.1 s.2.1.2.2.2.2.2.2.2.2.2.2.2.2.2.2.1 s.2.1.2.2.2.2.2.2.2.2.2.2.2.2.2.2.2.1 s.2.1.2.2.2.2.2.2.2.2.2.2.2.2.2.2.2.2.1 s.2.1.2.2.2.2.2.2.2.2.2.2.2.2.2.2.2.2.2.1 s.2.1.2.2.2.2.2.2.2.2.2.2.2.2.2.2.2.2.2.2.1 s.2.1.2.2.2.2.2.2.2.2.2.2.2.2.2.2.2.2.2.2.2.1 s.2.1.2.2.2.2.2.2.2.2.2.2.2.2.2.2.2.2.2.2.2.2.1
def MM (g0_r:bU->lj) (c0_r:bU->Bool) (g0_0:bU->pD) (s:bU):OT aT:=(.br (c0_r s) (.ok ⟨(.ret,m5),g0_r s⟩) (.ok ⟨(.exit 0,m6),g0_0 s⟩))
def jF:aH:=⟨ic,[Ys],false⟩
section
variable (ok0:bU->Bool) (g0_r:bU->lj) (c0_r:bU->Bool) (g0_0:bU->pD)
def UO (a0:cB) (c0_0:Int) (c0_1:Int) (c0_2:cB) (c0_3:UInt64) (c0_4:UInt64) (c0_5:UInt64) (c0_6:UInt64) (c0_7:UInt64) (c0_8:UInt64) (c0_9:UInt64) (c0_10:UInt64) (c0_11:Bool) (c0_12:UInt64) (c0_13:UInt64) (c0_14:UInt64) (c0_15:UInt64) (c0_16:UInt64) (c0_17:UInt64) (c0_18:UInt64) (c0_19:UInt64) (c0_20:Bool):OT km.Y:=
 let z0:bU:=((a0,(),(↑(List.length a0):Int),(0:Int),()),(c0_0,c0_1,c0_2,c0_3,c0_4,c0_5,c0_6,c0_7,c0_8,c0_9,c0_10,c0_11,c0_12,c0_13,c0_14,c0_15,c0_16,c0_17,c0_18,c0_19,c0_20,()),())
 let z1:lj:=g0_r z0
 let z2:=z1.snd.fst
 let z3:=z2.snd
 let z4:=z3.snd
 let z5:=z4.snd
 let z6:=z5.snd
 let z7:=z6.snd
 let z8:=z7.snd
 let z9:=z8.snd
 let z10:=z9.snd
 let z11:=z10.snd
 let z12:=z11.snd
 let z13:=z12.snd
 let z14:=z13.snd
 let z15:=z14.snd
 let z16:=z15.snd
 let z17:=z16.snd
 let z18:=z17.snd
 let z19:=z18.snd
 let z20:=z19.snd
 let z21:=z20.snd
 let z22:=(g0_0 z0).snd.fst
 let z23:=z22.snd
 let z24:=z23.snd
 let z25:=z24.snd
 let z26:=z25.snd
 let z27:=z26.snd
 let z28:=z27.snd
 let z29:=z28.snd
 let z30:=z29.snd
 let z31:=z30.snd
 let z32:=z31.snd
 let z33:=z32.snd
 let z34:=z33.snd
 let z35:=z34.snd
 let z36:=z35.snd
 let z37:=z36.snd
 let z38:=z37.snd
 let z39:=z38.snd
 let z40:=z39.snd
 let z41:=z40.snd
 (gd [ok0 z0] (.br (c0_r z0)
 (.ok ⟨jF,((z1.fst.fst,()),(z2.fst,z3.fst,z4.fst,z5.fst,z6.fst,z7.fst,z8.fst,z9.fst,z10.fst,z11.fst,z12.fst,z13.fst,z14.fst,z15.fst,z16.fst,z17.fst,z18.fst,z19.fst,z20.fst,z21.fst,z21.snd.fst,()),())⟩)
 (.ok ⟨jF,(((-1:Int),()),(z22.fst,z23.fst,z24.fst,z25.fst,z26.fst,z27.fst,z28.fst,z29.fst,z30.fst,z31.fst,z32.fst,z33.fst,z34.fst,z35.fst,z36.fst,z37.fst,z38.fst,z39.fst,z40.fst,z41.fst,z41.snd.fst,()),())⟩)))
theorem UN (h0:aY uO ok0 (MM g0_r c0_r g0_0)) (pre:Ay->Bool) (F:Ay->OT km.Y) (hF:∀ (x:Ay) oy,pre x=true->(F x).run=some oy->(UO ok0 g0_r c0_r g0_0 x.1.1 x.2.1.1 x.2.1.2.1 x.2.1.2.2.1 x.2.1.2.2.2.1 x.2.1.2.2.2.2.1 x.2.1.2.2.2.2.2.1 x.2.1.2.2.2.2.2.2.1 x.2.1.2.2.2.2.2.2.2.1 x.2.1.2.2.2.2.2.2.2.2.1 x.2.1.2.2.2.2.2.2.2.2.2.1 x.2.1.2.2.2.2.2.2.2.2.2.2.1 x.2.1.2.2.2.2.2.2.2.2.2.2.2.1 x.2.1.2.2.2.2.2.2.2.2.2.2.2.2.1 x.2.1.2.2.2.2.2.2.2.2.2.2.2.2.2.1 x.2.1.2.2.2.2.2.2.2.2.2.2.2.2.2.2.1 x.2.1.2.2.2.2.2.2.2.2.2.2.2.2.2.2.2.1 x.2.1.2.2.2.2.2.2.2.2.2.2.2.2.2.2.2.2.1 x.2.1.2.2.2.2.2.2.2.2.2.2.2.2.2.2.2.2.2.1 x.2.1.2.2.2.2.2.2.2.2.2.2.2.2.2.2.2.2.2.2.1 x.2.1.2.2.2.2.2.2.2.2.2.2.2.2.2.2.2.2.2.2.2.1 x.2.1.2.2.2.2.2.2.2.2.2.2.2.2.2.2.2.2.2.2.2.2.1).run=some oy):aa ag 126 (km.aw pre F):=
 cC Eo 126 Tryz.f126 km [jF] (js Eo 0 akY [(0,m6)] (some m5) none uO bw h0 bw) (λx=>UO ok0 g0_r c0_r g0_0 x.1.1 x.2.1.1 x.2.1.2.1 x.2.1.2.2.1 x.2.1.2.2.2.1 x.2.1.2.2.2.2.1 x.2.1.2.2.2.2.2.1 x.2.1.2.2.2.2.2.2.1 x.2.1.2.2.2.2.2.2.2.1 x.2.1.2.2.2.2.2.2.2.2.1 x.2.1.2.2.2.2.2.2.2.2.2.1 x.2.1.2.2.2.2.2.2.2.2.2.2.1 x.2.1.2.2.2.2.2.2.2.2.2.2.2.1 x.2.1.2.2.2.2.2.2.2.2.2.2.2.2.1 x.2.1.2.2.2.2.2.2.2.2.2.2.2.2.2.1 x.2.1.2.2.2.2.2.2.2.2.2.2.2.2.2.2.1 x.2.1.2.2.2.2.2.2.2.2.2.2.2.2.2.2.2.1 x.2.1.2.2.2.2.2.2.2.2.2.2.2.2.2.2.2.2.1 x.2.1.2.2.2.2.2.2.2.2.2.2.2.2.2.2.2.2.2.1 x.2.1.2.2.2.2.2.2.2.2.2.2.2.2.2.2.2.2.2.2.1 x.2.1.2.2.2.2.2.2.2.2.2.2.2.2.2.2.2.2.2.2.2.1 x.2.1.2.2.2.2.2.2.2.2.2.2.2.2.2.2.2.2.2.2.2.2.1) hF
end
def tx (l:List Pt) (i:aBF):Nat->Nat->Int
 |0,_=> -1
 |n+1,k=>cond (SN i.1 (l.getD k Qe)) (k:Int) (tx l i n (k+1))
def HS (s:bU):Bool:=decide (s.1.2.2.1=(s.1.1.length:Int)/\s.1.2.2.2.1=0/\s.1.1.length<=140737488355328)
def kN (l:List Pt) (i:aBF):Int:=tx l i l.length 0
def HT (s:bU):lj:=((kN s.1.1 s.2.1,()),s.2)
def MN (s:bU):Bool:=decide (0<=kN s.1.1 s.2.1)
def ML (s:bU):pD:=((),s.2)
def HU (l:List Pt) (i:aBF) (k:Int):bU:=((l,(),(l.length:Int),k,()),i,())
theorem NE (l:List Pt) (i:aBF):∀ n k,tx l i n k= -1\/0<=tx l i n k
 |0,_=>.inl rfl
 |n+1,k=>by
  unfold tx
  cases SN i.1 (l.getD k Qe)
  ·exact NE l i n (k+1)
  ·right
   show (0:Int)<=(k:Int)
   omega
theorem UQ (l:List Pt) (i:aBF) (hl:l.length<=140737488355328):∀ n k:Nat,k+n=l.length->
 ∃ m,cx uO m (HU l i (k:Int))=some (cond (decide (0<=tx l i n k)) ⟨(.ret,m5),((tx l i n k,()),i,())⟩ ⟨(.exit 0,m6),((),i,())⟩)
 |0,k,h=>⟨1,aO (OT.al (bn (by dsimp only [HU];omega)))⟩
 |n+1,k,h=>by
  have hin:inB (k:Int) l.length=true:=aR (by omega)
  have hgd:∀ z:OT (Sum bU aT),(gd [inB (k:Int) l.length] z).run=z.run:=λz=>ae (by rw [hin];rfl)
  unfold tx
  rcases (bX (SN i.1 (l.getD k Qe))).symm with hb|hb
  ·obtain ⟨m,hm⟩:=UQ l i hl n (k+1) (by omega)
   rw [hb]
   refine ⟨m+1,aS ?_ hm⟩
   refine (OT.ak (aj (by dsimp only [HU];omega))).trans ((hgd _).trans ((OT.al hb).trans ((ae ?_).trans rfl)))
   simp only [ax,aA,aC]
   exact aL (by dsimp only [HU];omega)
  ·rw [hb]
   have e:decide ((0:Int)<=cond true (k:Int) (tx l i n (k+1)))=true:=aj (by show (0:Int)<=(k:Int);omega)
   rw [e]
   refine ⟨1,aO ?_⟩
   exact (OT.ak (aj (by dsimp only [HU];omega))).trans ((hgd _).trans ((OT.ak hb).trans rfl))
theorem ak0:aY uO HS (MM HT MN ML):=by
 rintro ⟨⟨l,⟨⟩,n,k,⟨⟩⟩,⟨i,⟨⟩⟩⟩ h
 have h':=bh h
 dsimp only at h'
 obtain ⟨rfl,rfl,hl⟩:=h'
 obtain ⟨m,hm⟩:=UQ l i hl l.length 0 (by omega)
 refine ⟨m,_,hm,?_⟩
 show (OT.br (decide (0<=kN l i)) _ _:OT aT).run=some (cond (decide (0<=kN l i)) _ _)
 cases decide (0<=kN l i)<;>rfl
def xD (x:Ay):Bool:=decide (x.1.1.length<=140737488355328)
def UP (x:Ay):OT km.Y:=.ok ⟨jF,((kN x.1.1 x.2.1,()),x.2)⟩
theorem akZ:aa ag 126 (km.aw xD UP):=UN HS HT MN ML ak0 _ _ λx oy hp ho=>by
 rw [<-ho]
 clear ho
 obtain ⟨⟨l,⟨⟩,⟨⟩⟩,⟨i,⟨⟩⟩⟩:=x
 have hl:l.length<=140737488355328:=bh hp
 refine (ae ?_).trans ?_
 ·simp only [ax,aA,aC]
  exact aj ⟨rfl,rfl,hl⟩
 ·show (OT.br (decide (0<=kN l i)) (.ok ⟨jF,((kN l i,()),i,())⟩) (.ok ⟨jF,(((-1:Int),()),i,())⟩):OT km.Y).run=some ⟨jF,((kN l i,()),i,())⟩
  rcases NE l i l.length 0 with h|h
  ·have h:kN l i= -1:=h
   rw [h]
   rfl
  ·exact OT.ak (aj h)
def sr:bi:=(km.aw xD UP)
theorem PZ:aa ag 126 sr:=akZ
theorem PY:au sr:=aq
def YJ:Env:=ap 126 sr aiQ
theorem Lj:bI ag te YJ:=aP follows Eo PZ PY
def pF:af:=⟨[wG,.fn 78 [0]],[(0,aHC)],false,1,true⟩
abbrev H4:Type:=(cB×bQ)×K7×Unit
def H3:aH:=⟨mO,[Ys],false⟩
def af8 (a0:cB) (c0_0:Int) (c0_1:Int) (c0_2:cB) (c0_3:UInt64) (c0_4:UInt64) (c0_5:UInt64) (c0_6:UInt64) (c0_7:UInt64) (c0_8:UInt64) (c0_9:UInt64) (c0_10:UInt64) (c0_11:Bool) (c0_12:UInt64) (c0_13:UInt64) (c0_14:UInt64) (c0_15:UInt64) (c0_16:UInt64) (c0_17:UInt64) (c0_18:UInt64) (c0_19:UInt64) (c0_20:Bool):OT pF.Y:=
 let z0:aBr:=(c0_0,c0_1,c0_2,c0_3,c0_4,c0_5,c0_6,c0_7,c0_8,c0_9,c0_10,c0_11,c0_12,c0_13,c0_14,c0_15,c0_16,c0_17,c0_18,c0_19,c0_20,())
 (gd [xD ((a0,(),()),z0,())] (.ok ⟨H3,((decide ((0:Int)<=kN a0 z0),()),(c0_0,c0_1,c0_2,c0_3,c0_4,c0_5,c0_6,c0_7,c0_8,c0_9,c0_10,c0_11,c0_12,c0_13,c0_14,c0_15,c0_16,c0_17,c0_18,c0_19,c0_20,()),())⟩))
theorem aaY (pre:H4->Bool) (F:H4->OT pF.Y) (hF:∀ (x:H4) oy,pre x=true->(F x).run=some oy->(af8 x.1.1 x.2.1.1 x.2.1.2.1 x.2.1.2.2.1 x.2.1.2.2.2.1 x.2.1.2.2.2.2.1 x.2.1.2.2.2.2.2.1 x.2.1.2.2.2.2.2.2.1 x.2.1.2.2.2.2.2.2.2.1 x.2.1.2.2.2.2.2.2.2.2.1 x.2.1.2.2.2.2.2.2.2.2.2.1 x.2.1.2.2.2.2.2.2.2.2.2.2.1 x.2.1.2.2.2.2.2.2.2.2.2.2.2.1 x.2.1.2.2.2.2.2.2.2.2.2.2.2.2.1 x.2.1.2.2.2.2.2.2.2.2.2.2.2.2.2.1 x.2.1.2.2.2.2.2.2.2.2.2.2.2.2.2.2.1 x.2.1.2.2.2.2.2.2.2.2.2.2.2.2.2.2.2.1 x.2.1.2.2.2.2.2.2.2.2.2.2.2.2.2.2.2.2.1 x.2.1.2.2.2.2.2.2.2.2.2.2.2.2.2.2.2.2.2.1 x.2.1.2.2.2.2.2.2.2.2.2.2.2.2.2.2.2.2.2.2.1 x.2.1.2.2.2.2.2.2.2.2.2.2.2.2.2.2.2.2.2.2.2.1 x.2.1.2.2.2.2.2.2.2.2.2.2.2.2.2.2.2.2.2.2.2.2.1).run=some oy):aa ag 79 (pF.aw pre F):=
 cC Lj 79 Tryz.f79 pF [H3] bw (λx=>af8 x.1.1 x.2.1.1 x.2.1.2.1 x.2.1.2.2.1 x.2.1.2.2.2.1 x.2.1.2.2.2.2.1 x.2.1.2.2.2.2.2.1 x.2.1.2.2.2.2.2.2.1 x.2.1.2.2.2.2.2.2.2.1 x.2.1.2.2.2.2.2.2.2.2.1 x.2.1.2.2.2.2.2.2.2.2.2.1 x.2.1.2.2.2.2.2.2.2.2.2.2.1 x.2.1.2.2.2.2.2.2.2.2.2.2.2.1 x.2.1.2.2.2.2.2.2.2.2.2.2.2.2.1 x.2.1.2.2.2.2.2.2.2.2.2.2.2.2.2.1 x.2.1.2.2.2.2.2.2.2.2.2.2.2.2.2.2.1 x.2.1.2.2.2.2.2.2.2.2.2.2.2.2.2.2.2.1 x.2.1.2.2.2.2.2.2.2.2.2.2.2.2.2.2.2.2.1 x.2.1.2.2.2.2.2.2.2.2.2.2.2.2.2.2.2.2.2.1 x.2.1.2.2.2.2.2.2.2.2.2.2.2.2.2.2.2.2.2.2.1 x.2.1.2.2.2.2.2.2.2.2.2.2.2.2.2.2.2.2.2.2.2.1 x.2.1.2.2.2.2.2.2.2.2.2.2.2.2.2.2.2.2.2.2.2.2.1) hF
def aus (l:List Pt) (i:aBF):Bool:=decide (0<=kN l i)
def C0 (x:H4):Bool:=decide (x.1.1.length<=140737488355328)
def af9 (x:H4):OT pF.Y:=.ok ⟨H3,((aus x.1.1 x.2.1,()),x.2)⟩
theorem ap1:aa ag 79 (pF.aw C0 af9):=aaY _ _ λx oy hp ho=>by
 rw [<-ho]
 clear ho
 refine (ae ?_).trans rfl
 simp only [ax,aA,aC]
 exact hp
def xH:bi:=(pF.aw C0 af9)
theorem UZ:aa ag 79 xH:=ap1
theorem UY:au xH:=aq
def aiS:Env:=ap 79 xH YJ
theorem Ow:bI ag te aiS:=aP follows Lj UZ UY
def ng:af:=⟨[.val true aAw],[],true,0,false⟩
abbrev H6:Type:=rn×Unit
def gl:aH:=⟨ic,[],false⟩
def F4 (a0:kP):OT ng.Y:=
 let z0:aBr:=(a0.fst,a0.snd.fst,a0.snd.snd.fst,a0.snd.snd.snd.fst.fst.w0,a0.snd.snd.snd.fst.fst.w1,a0.snd.snd.snd.fst.fst.w2,a0.snd.snd.snd.fst.fst.w3,a0.snd.snd.snd.fst.snd.fst.w0,a0.snd.snd.snd.fst.snd.fst.w1,a0.snd.snd.snd.fst.snd.fst.w2,a0.snd.snd.snd.fst.snd.fst.w3,a0.snd.snd.snd.fst.snd.snd,a0.snd.snd.snd.snd.fst.w0,a0.snd.snd.snd.snd.fst.w1,a0.snd.snd.snd.snd.fst.w2,a0.snd.snd.snd.snd.fst.w3,a0.snd.snd.snd.snd.snd.fst.w0,a0.snd.snd.snd.snd.snd.fst.w1,a0.snd.snd.snd.snd.snd.fst.w2,a0.snd.snd.snd.snd.snd.fst.w3,a0.snd.snd.snd.snd.snd.snd,())
 (.br (ac a0.fst)
 (.br (decide (a0.snd.fst<(0:Int)))
  (.ok ⟨gl,(((60:Int),()),())⟩)
  (.br (decide ((5:Int)<a0.snd.fst))
   (.ok ⟨gl,(((60:Int),()),())⟩)
   (gd [decide ((0:Int)<=a0.snd.fst)] (.br (!(↑(List.length a0.snd.snd.fst):Int)==ab6 (1:Int) a0.snd.fst)
    (.ok ⟨gl,(((90:Int),()),())⟩)
    (gd [C0 ((a0.snd.snd.fst,(),()),z0,())] (.br (aus a0.snd.snd.fst z0)
     (.ok ⟨gl,(((90:Int),()),())⟩)
     (.br (SN a0.fst a0.snd.snd.snd.fst)
      (.ok ⟨gl,(((90:Int),()),())⟩)
      (.br (SN a0.fst a0.snd.snd.snd.snd)
       (.ok ⟨gl,(((90:Int),()),())⟩)
       (.ok ⟨gl,(((0:Int),()),())⟩)))))))))
 (.ok ⟨gl,(((40:Int),()),())⟩))
theorem aa3 (pre:H6->Bool) (F:H6->OT ng.Y) (hF:∀ (x:H6) oy,pre x=true->(F x).run=some oy->(F4 x.1.1).run=some oy):aa ag 25 (ng.aw pre F):=
 cC Ow 25 Tryz.f25 ng [gl] bw (λx=>F4 x.1.1) hF
abbrev rG:Type:=Int×(Int×(List Pt×(Pt×Pt)))
theorem aic (l:List Pt) (i:aBF):∀ n k:Nat,k+n=l.length->decide (0<=tx l i n k)=(l.drop k).any (SN i.1)
 |0,k,h=>by
  rw [List.drop_eq_nil_of_le (by omega)]
  rfl
 |n+1,k,h=>by
  have hk:k<l.length:=by omega
  have e1:l.drop k=l[k]::l.drop (k+1):=oW hk
  have e3:l.getD k Qe=l[k]:=by rw [ju,ui hk];rfl
  rw [e1,List.any_cons]
  unfold tx
  rw [e3]
  cases SN i.1 l[k]
  ·rw [bo,Bool.false_or]
   exact aic l i n (k+1) (by omega)
  ·rw [aV,Bool.true_or]
   exact aj (by omega)
theorem aE3 (l:List Pt) (i:aBF):aus l i=l.any (SN i.1):=aic l i l.length 0 (by omega)
def gA (p:rG):Int:=cond (ac p.1) (cond (decide (p.2.1<0)) 60 (cond (decide (5<p.2.1)) 60 (cond (!((p.2.2.1.length:Int)==ab6 1 p.2.1)) 90 (cond (p.2.2.1.any (SN p.1)) 90 (cond (SN p.1 p.2.2.2.1) 90 (cond (SN p.1 p.2.2.2.2) 90 0)))))) 40
def ix (x:H6):Bool:=decide (x.1.1.2.2.1.length<=140737488355328)
def aga (x:H6):OT ng.Y:=.ok ⟨gl,((gA x.1.1,()),())⟩
theorem ap7:aa ag 25 (ng.aw ix aga):=aa3 _ _ λx oy hp ho=>by
 rw [<-ho]
 clear ho
 obtain ⟨⟨p,⟨⟩⟩,⟨⟩⟩:=x
 show (F4 p).run=some (⟨gl,((gA p,()),())⟩:ng.Y)
 have hp:decide (p.2.2.1.length<=140737488355328)=true:=hp
 unfold F4 gA
 simp only [aE3]
 rcases (bX (ac p.1)).symm with h1|h1
 ·rw [h1];exact (OT.al rfl).trans rfl
 ·rw [h1]
  refine (OT.ak rfl).trans ?_
  by_cases h2:p.2.1<0
  ·rw [aj h2];exact (OT.ak rfl).trans rfl
  ·rw [bn h2]
   refine (OT.al rfl).trans ?_
   by_cases h3:5<p.2.1
   ·rw [aj h3];exact (OT.ak rfl).trans rfl
   ·rw [bn h3]
    refine (OT.al rfl).trans ((ae (by rw [aj (show 0<=p.2.1 by omega)];rfl)).trans ?_)
    rcases (bX (!((p.2.2.1.length:Int)==ab6 1 p.2.1))).symm with h4|h4
    ·rw [h4]
     refine (OT.al rfl).trans ((ae ?_).trans ?_)
     ·simp only [ax,aA,aC]
      exact hp
     ·rcases (bX (p.2.2.1.any (SN p.1))).symm with h5|h5
      ·rw [h5]
       refine (OT.al rfl).trans ?_
       rcases (bX (SN p.1 p.2.2.2.1)).symm with h6|h6
       ·rw [h6]
        refine (OT.al rfl).trans ?_
        rcases (bX (SN p.1 p.2.2.2.2)).symm with h7|h7
        ·rw [h7];exact (OT.al rfl).trans rfl
        ·rw [h7];exact (OT.ak rfl).trans rfl
       ·rw [h6];exact (OT.ak rfl).trans rfl
      ·rw [h5];exact (OT.ak rfl).trans rfl
    ·rw [h4];exact (OT.ak rfl).trans rfl
def xK:bi:=(ng.aw ix aga)
theorem U2:aa ag 25 xK:=ap7
theorem U1:au xK:=aq
def aiT:Env:=ap 25 xK aiS
theorem Oy:bI ag te aiT:=aP follows Ow U2 U1
def xG:af:=⟨[wG],[],true,0,false⟩
abbrev UX:Type:=K1×Unit
def P7:aH:=⟨[.own 0],[(0,.row B4)],false⟩
def apZ (a0:cB):OT xG.Y:=
 (gd [decide ((0+List.length a0)*72<=140737488355328)] (.ok ⟨P7,(((),()),[]++a0,())⟩))
theorem ak9 (pre:UX->Bool) (F:UX->OT xG.Y) (hF:∀ (x:UX) oy,pre x=true->(F x).run=some oy->(apZ x.1.1).run=some oy):aa ag 47 (xG.aw pre F):=
 cC Oy 47 Tryz.f47 xG [P7] bw (λx=>apZ x.1.1) hF
def H2 (x:UX):Bool:=decide (x.1.1.length*72<=140737488355328)
def ap0 (x:UX):OT xG.Y:=.ok ⟨P7,(((),()),x.1.1,())⟩
theorem axm:aa ag 47 (xG.aw H2 ap0):=ak9 _ _ λx oy hp ho=>by
 rw [<-ho]
 have hp':x.1.1.length*72<=140737488355328:=bh hp
 refine (ae ?_).trans rfl
 simp only [ax,aA,aC,av]
 exact aj (by omega)
def CZ:bi:=(xG.aw H2 ap0)
theorem aaX:aa ag 47 CZ:=axm
theorem aaW:au CZ:=aq
def au6:Env:=ap 47 CZ aiT
theorem YM:bI ag te au6:=aP follows Oy aaX aaW
def pE:af:=⟨[.val true aAw],[],false,0,false⟩
abbrev HZ:Type:=rn×Unit
def HY:aH:=⟨[Yq],[],false⟩
def af6 (a0:kP):OT pE.Y:=
 (gd [H2 ((a0.snd.snd.fst,()),())] (.ok ⟨HY,((a0,()),())⟩))
theorem aaV (pre:HZ->Bool) (F:HZ->OT pE.Y) (hF:∀ (x:HZ) oy,pre x=true->(F x).run=some oy->(af6 x.1.1).run=some oy):aa ag 18 (pE.aw pre F):=
 cC YM 18 Tryz.f18 pE [HY] bw (λx=>af6 x.1.1) hF
def lJ (x:HZ):Bool:=decide (x.1.1.2.2.1.length*72<=140737488355328)
def af7 (x:HZ):OT pE.Y:=.ok ⟨HY,((x.1.1,()),())⟩
theorem apY:aa ag 18 (pE.aw lJ af7):=aaV _ _ λx oy hp ho=>by
 rw [<-ho]
 clear ho
 obtain ⟨⟨⟨c,k,G,W,U⟩,⟨⟩⟩,⟨⟩⟩:=x
 refine (ae ?_).trans rfl
 simp only [ax,aA,aC]
 exact hp
def xF:bi:=(pE.aw lJ af7)
theorem UW:aa ag 18 xF:=apY
theorem UU:au xF:=aq
def aiR:Env:=ap 18 xF au6
theorem v8:bI ag te aiR:=aP follows YM UW UU
def fB:af:=⟨[.val true aAw,jt,dY],[],true,0,false⟩
abbrev pI:Type:=(kP×az×oN)×Unit
def ala:Shape:=⟨54,[rA,jy,(9,.own 2),(30,jt),(31,aB),(32,aB)],[Ys,(1,Yw),zo],0,true⟩
abbrev dO:Type:=(Unit×Unit×Unit×az×jv)×aih
def m9:Shape:=⟨54,[rA,jy,(9,.own 2)],[Ys,(1,Yw),zo],0,true⟩
abbrev pH:Type:=nC×aih
def ald (a30:az) (a31:Int) (a32:Int) (c0_0:Int) (c0_1:Int) (c0_2:cB) (c0_3:UInt64) (c0_4:UInt64) (c0_5:UInt64) (c0_6:UInt64) (c0_7:UInt64) (c0_8:UInt64) (c0_9:UInt64) (c0_10:UInt64) (c0_11:Bool) (c0_12:UInt64) (c0_13:UInt64) (c0_14:UInt64) (c0_15:UInt64) (c0_16:UInt64) (c0_17:UInt64) (c0_18:UInt64) (c0_19:UInt64) (c0_20:Bool) (c1_0:UInt64) (c1_1:UInt64) (c1_2:UInt64) (c1_3:UInt64) (c1_4:UInt64) (c1_5:UInt64) (c1_6:UInt64) (c1_7:UInt64) (c1_8:Bool) (c2:cY):OT (Sum dO aT):=
 let z0:Nat:=Int.toNat a32
 let z1:ab:= {w0:=0,w1:=0,w2:=0,w3:=0}
 (.br (decide (a32<a31))
 (gd [inB a32 (List.length a30),inB a32 (List.length c0_2),decide ((List.length c2+1)*104<=140737488355328),inR (a32+(1:Int))] (.ok (.inl (((),(),(),a30,a31,a32+(1:Int),()),(c0_0,c0_1,c0_2,c0_3,c0_4,c0_5,c0_6,c0_7,c0_8,c0_9,c0_10,c0_11,c0_12,c0_13,c0_14,c0_15,c0_16,c0_17,c0_18,c0_19,c0_20,()),(c1_0,c1_1,c1_2,c1_3,c1_4,c1_5,c1_6,c1_7,c1_8,()),c2++ [(List.getD a30 z0 z1,List.getD c0_2 z0 (z1,z1,false))],()))))
 (.ok (.inr ⟨(.exit 0,m9),(((),(),(),()),(c0_0,c0_1,c0_2,c0_3,c0_4,c0_5,c0_6,c0_7,c0_8,c0_9,c0_10,c0_11,c0_12,c0_13,c0_14,c0_15,c0_16,c0_17,c0_18,c0_19,c0_20,()),(c1_0,c1_1,c1_2,c1_3,c1_4,c1_5,c1_6,c1_7,c1_8,()),c2,())⟩)))
def uS (s:dO):OT (Sum dO aT):=ald s.1.2.2.2.1 s.1.2.2.2.2.1 s.1.2.2.2.2.2.1 s.2.1.1 s.2.1.2.1 s.2.1.2.2.1 s.2.1.2.2.2.1 s.2.1.2.2.2.2.1 s.2.1.2.2.2.2.2.1 s.2.1.2.2.2.2.2.2.1 s.2.1.2.2.2.2.2.2.2.1 s.2.1.2.2.2.2.2.2.2.2.1 s.2.1.2.2.2.2.2.2.2.2.2.1 s.2.1.2.2.2.2.2.2.2.2.2.2.1 s.2.1.2.2.2.2.2.2.2.2.2.2.2.1 s.2.1.2.2.2.2.2.2.2.2.2.2.2.2.1 s.2.1.2.2.2.2.2.2.2.2.2.2.2.2.2.1 s.2.1.2.2.2.2.2.2.2.2.2.2.2.2.2.2.1 s.2.1.2.2.2.2.2.2.2.2.2.2.2.2.2.2.2.1 s.2.1.2.2.2.2.2.2.2.2.2.2.2.2.2.2.2.2.1 s.2.1.2.2.2.2.2.2.2.2.2.2.2.2.2.2.2.2.2.1 s.2.1.2.2.2.2.2.2.2.2.2.2.2.2.2.2.2.2.2.2.1 s.2.1.2.2.2.2.2.2.2.2.2.2.2.2.2.2.2.2.2.2.2.1 s.2.1.2.2.2.2.2.2.2.2.2.2.2.2.2.2.2.2.2.2.2.2.1 s.2.2.1.1 s.2.2.1.2.1 s.2.2.1.2.2.1 s.2.2.1.2.2.2.1 s.2.2.1.2.2.2.2.1 s.2.2.1.2.2.2.2.2.1 s.2.2.1.2.2.2.2.2.2.1 s.2.2.1.2.2.2.2.2.2.2.1 s.2.2.1.2.2.2.2.2.2.2.2.1 s.2.2.2.1
def MR (g0_0:dO->pH) (s:dO):OT aT:=(.ok ⟨(.exit 0,m9),g0_0 s⟩)
def cW:aH:=⟨K8,[],false⟩
section
variable (ok0:dO->Bool) (g0_0:dO->pH)
def H5 (a0:kP) (a1:az) (a2:ab):OT fB.Y:=
 let z0:Int:=gA a0
 let z1:ab:= {w0:=0,w1:=0,w2:=0,w3:=0}
 let z2:cM:=(z1,z1,false)
 let z3:Int:=(↑(List.length a1):Int)
 let z4:dO:=(((),(),(),a1,z3,(0:Int),()),(a0.fst,a0.snd.fst,a0.snd.snd.fst,a0.snd.snd.snd.fst.fst.w0,a0.snd.snd.snd.fst.fst.w1,a0.snd.snd.snd.fst.fst.w2,a0.snd.snd.snd.fst.fst.w3,a0.snd.snd.snd.fst.snd.fst.w0,a0.snd.snd.snd.fst.snd.fst.w1,a0.snd.snd.snd.fst.snd.fst.w2,a0.snd.snd.snd.fst.snd.fst.w3,a0.snd.snd.snd.fst.snd.snd,a0.snd.snd.snd.snd.fst.w0,a0.snd.snd.snd.snd.fst.w1,a0.snd.snd.snd.snd.fst.w2,a0.snd.snd.snd.snd.fst.w3,a0.snd.snd.snd.snd.snd.fst.w0,a0.snd.snd.snd.snd.snd.fst.w1,a0.snd.snd.snd.snd.snd.fst.w2,a0.snd.snd.snd.snd.snd.fst.w3,a0.snd.snd.snd.snd.snd.snd,()),((0:UInt64),(0:UInt64),(0:UInt64),(0:UInt64),(0:UInt64),(0:UInt64),(0:UInt64),(0:UInt64),false,()),[(a2,a0.snd.snd.snd.fst)],())
 let z5:=(g0_0 z4).snd
 let z6:=z5.fst.fst
 let z7:=z5.snd.snd.fst
 (gd [ix ((a0,()),())] (.br (!z0==(0:Int))
 (.ok ⟨cW,((z2,z0,()),())⟩)
 (.br (decide ((↑(List.length a0.snd.snd.fst):Int)<z3))
  (.ok ⟨cW,((z2,(50:Int),()),())⟩)
  (gd [ok0 z4] (.br (ac z6)
   (.br (decide (List.length z7<=100000))
    (.br (cH z6 z7)
     (.ok ⟨cW,((wc z6 (rE z6 z7),(0:Int),()),())⟩)
     (.ok ⟨cW,((z2,(41:Int),()),())⟩))
    (.ok ⟨cW,((z2,(50:Int),()),())⟩))
   (.ok ⟨cW,((z2,(40:Int),()),())⟩))))))
theorem U0 (h0:aY uS ok0 (MR g0_0)) (pre:pI->Bool) (F:pI->OT fB.Y) (hF:∀ (x:pI) oy,pre x=true->(F x).run=some oy->(H5 ok0 g0_0 x.1.1 x.1.2.1 x.1.2.2.1).run=some oy):aa ag 80 (fB.aw pre F):=
 cC v8 80 Tryz.f80 fB [cW] (js v8 0 ala [(0,m9)] none none uS bw h0 bw) (λx=>H5 ok0 g0_0 x.1.1 x.1.2.1 x.1.2.2.1) hF
end
theorem Km {p:rG} (h:(gA p==0)=true):p.2.2.1.length<=32:=by
 unfold gA at h
 cases h1:ac p.1
 ·rw [h1] at h;cases h
 ·rw [h1] at h
  by_cases h2:p.2.1<0
  ·rw [aj h2] at h;cases h
  ·rw [bn h2] at h
   by_cases h3:5<p.2.1
   ·rw [aj h3] at h;cases h
   ·rw [bn h3] at h
    cases h4:(p.2.2.1.length:Int)==ab6 1 p.2.1
    ·rw [h4] at h;cases h
    ·rw [beq_iff_eq] at h4
     have h6:ab6 1 p.2.1<=32:=by
      have:p.2.1=0\/p.2.1=1\/p.2.1=2\/p.2.1=3\/p.2.1=4\/p.2.1=5:=by omega
      rcases this with e|e|e|e|e|e<;>rw [e]<;>decide
     omega
def Bx (G:List Pt) (l:az) (k:Nat) (o:List Tm):List Tm:=o++ [(l.getD k ⟨0,0,0,0⟩,G.getD k Qe)]
def adt (p:rG) (l:az) (b:ab):List Tm:=upto (Bx p.2.2.1 l) [(b,p.2.2.2.1)] l.length
theorem NV (G:List Pt) (l:az) (t:Tm):∀ n,(upto (Bx G l) [t] n).length=n+1
 |0=>rfl
 |n+1=>by
  show (upto (Bx G l) [t] n++ [_]).length=_
  rw [bR,NV G l t n]
  rfl
def xI (s:dO):Bool:=decide (s.1.2.2.2.2.1=(s.1.2.2.2.1.length:Int)/\s.1.2.2.2.2.2.1=0/\s.1.2.2.2.1.length<=s.2.1.2.2.1.length/\s.2.1.2.2.1.length<=32/\s.2.2.2.1.length=1)
def C1 (s:dO):pH:=(((),(),(),()),s.2.1,s.2.2.1,upto (Bx s.2.1.2.2.1 s.1.2.2.2.1) s.2.2.2.1 s.1.2.2.2.1.length,())
theorem alc:aY uS xI (MR C1):=by
 rintro ⟨⟨⟨⟩,⟨⟩,⟨⟩,l,n,i,⟨⟩⟩,⟨q,t,o,⟨⟩⟩⟩ h
 have h':=bh h
 dsimp only at h'
 obtain ⟨rfl,rfl,hl,hG,ho⟩:=h'
 obtain ⟨u,rfl⟩:∃ u,o= [u]:=by
  match o,ho with
  | [u],_=>exact ⟨u,rfl⟩
 have:=(aW (T:=uS) (λk o=>((((),(),(),l,(l.length:Int),(k:Int),()),q,t,o,()):dO)) (Bx q.2.2.1 l)
  (λo=>(⟨(.exit 0,m9),(((),(),(),()),q,t,o,())⟩:aT)) l.length [u] (λk o=>o.length=k+1) rfl (λk o hk hq=>⟨?_,?_⟩) (λo _=> ?_)).1
 ·obtain ⟨m,hm⟩:=this
  exact ⟨m,_,hm,rfl⟩
 ·have hq:o.length=k+1:=hq
  refine (OT.ak (aj (by dsimp only;omega))).trans ((ae ?_).trans rfl)
  simp only [ax,aA,aC,av]
  exact ⟨aR (by omega),aR (by omega),aj (by omega),aL (by omega)⟩
 ·show (o++ [_]).length=_
  rw [bR,show o.length=k+1 from hq]
  rfl
 ·exact OT.al (bn (by dsimp only;omega))
def ay9 (p:rG) (l:az) (b:ab):Pt×Int:=cond (!(gA p==0)) (Qe,gA p) (cond (decide ((p.2.2.1.length:Int)<(l.length:Int))) (Qe,50)
 (cond (ac p.1) (cond (decide ((adt p l b).length<=100000)) (cond (cH p.1 (adt p l b)) (wc p.1 (rE p.1 (adt p l b)),0) (Qe,41)) (Qe,50)) (Qe,40)))
def aa0 (x:pI):Bool:=decide (x.1.1.2.2.1.length<=140737488355328)
def ap2 (x:pI):OT fB.Y:=.ok ⟨cW,(((ay9 x.1.1 x.1.2.1 x.1.2.2.1).1,(ay9 x.1.1 x.1.2.1 x.1.2.2.1).2,()),())⟩
theorem alb:aa ag 80 (fB.aw aa0 ap2):=U0 xI C1 alc _ _ λx oy hp ho=>by
 rw [<-ho]
 clear ho
 obtain ⟨⟨p,l,b,⟨⟩⟩,⟨⟩⟩:=x
 show (H5 xI C1 p l b).run=some (⟨cW,(((ay9 p l b).1,(ay9 p l b).2,()),())⟩:fB.Y)
 have hp:ix ((p,()),())=true:=hp
 unfold ay9
 refine (ae (by rw [hp];rfl)).trans ?_
 rcases (bX (!(gA p==0))).symm with h1|h1
 ·rw [h1]
  refine (OT.al rfl).trans ?_
  by_cases h2:(p.2.2.1.length:Int)<(l.length:Int)
  ·rw [aj h2]
   exact (OT.ak rfl).trans rfl
  ·rw [bn h2]
   have h0:(gA p==0)=true:=by
    cases hq:gA p==0
    ·rw [hq] at h1;cases h1
    ·rfl
   have hG:=Km h0
   refine (OT.al rfl).trans ((ae ?_).trans ?_)
   ·simp only [ax,aA,aC]
    exact aj ⟨rfl,rfl,by show l.length<=p.2.2.1.length;omega,hG,rfl⟩
   ·show (OT.br (ac p.1) (.br (decide ((adt p l b).length<=100000)) (.br (cH p.1 (adt p l b)) (.ok ⟨cW,((wc p.1 (rE p.1 (adt p l b)),(0:Int),()),())⟩) (.ok ⟨cW,((Qe,(41:Int),()),())⟩)) (.ok ⟨cW,((Qe,(50:Int),()),())⟩)) (.ok ⟨cW,((Qe,(40:Int),()),())⟩):OT fB.Y).run=_
    generalize adt p l b=t
    cases ac p.1<;>cases decide (t.length<=100000)<;>cases cH p.1 t<;>rfl
 ·rw [h1]
  exact (OT.ak rfl).trans rfl
def aa9:rG:=(0,0,[],Qe,Qe)
def o9:af:=⟨[jt],[],true,0,false⟩
abbrev Hb:Type:=fq×Unit
def Ha:aH:=⟨[.own 0],[(0,ft)],false⟩
def aeM (a0:az):OT o9.Y:=
 (gd [decide ((0+List.length a0)*32<=140737488355328)] (.ok ⟨Ha,(((),()),[]++a0,())⟩))
theorem ZE (pre:Hb->Bool) (F:Hb->OT o9.Y) (hF:∀ (x:Hb) oy,pre x=true->(F x).run=some oy->(aeM x.1.1).run=some oy):aa ag 28 (o9.aw pre F):=
 cC v8 28 Tryz.f28 o9 [Ha] bw (λx=>aeM x.1.1) hF
def gH (x:Hb):Bool:=decide (x.1.1.length*32<=140737488355328)
def aeN (x:Hb):OT o9.Y:=.ok ⟨Ha,(((),()),x.1.1,())⟩
theorem aon:aa ag 28 (o9.aw gH aeN):=ZE _ _ λx oy hp ho=>by
 rw [<-ho]
 have hp':x.1.1.length*32<=140737488355328:=bh hp
 refine (ae ?_).trans rfl
 simp only [ax,aA,aC]
 exact aj (by omega)
def wR:bi:=(o9.aw gH aeN)
theorem S9:aa ag 28 wR:=aon
theorem S8:au wR:=aq
def SA:Env:=ap 28 wR aiR
theorem Em:bI ag te SA:=aP follows v8 S9 S8
abbrev apg:Type:=(az×Unit×kU)×aih
abbrev aph:Type:=nC×aih
section
variable (ok0:apg->Bool) (g0_0:apg->aph)
end
abbrev T7:Type:=(aG×Int×UInt64×eE)×Unit
abbrev aal:Type:=mJ×Unit
section
variable (ok0:T7->Bool) (g0_0:T7->aal)
end
abbrev MB:Type:=(aG×UInt64×Bool×BR)×oO
abbrev Uh:Type:=(aG×UInt64×Bool×nC)×oL
abbrev MA:Type:=(aG×BR)×oO
abbrev Ug:Type:=K2×oO
abbrev Mz:Type:=K4×ao×ao×ao×ao×List (List Int)×Unit
abbrev Uf:Type:=nC×oL
abbrev My:Type:=(Unit×kU)×oL
abbrev Ue:Type:=mH
section
variable (ok0:MB->Bool) (g0_0:MB->Uh) (ok2:MA->Bool) (g2_2:MA->Ug) (ok4:Mz->Bool) (g4_4:Mz->Uf) (ok6:My->Bool) (g6_6:My->Ue)
end
abbrev afT:Type:=(Int×aG×oK)×tY
abbrev akr:Type:=(Int×aG×oK)×tY
abbrev afS:Type:=(Int×kU)×ao×df
abbrev akq:Type:=bQ×df
section
variable (ok0:afT->Bool) (g0_0:afT->akr) (ok2:afS->Bool) (g2_2:afS->akq)
end
def jl:af:=⟨[jt],[],true,0,false⟩
abbrev adm:Type:=fq×Unit
def tE:aH:=⟨[.own 0],[(0,ft)],false⟩
def NP:SV->Option aH:=λ_=>some tE
def RI (a0:az):OT jl.Y:=
 (gd [decide (((0:Nat)+List.length a0)*(32:Nat)<=(140737488355328:Nat))] (.ok ⟨tE,(((),()),[]++a0,())⟩))
def asV:OT jl.Y:=.ok ⟨tE,(((),()),[],())⟩
theorem ayZ (x:adm) (Q:jl.Y->Prop):wpf te SA fC 1000 Tryz.f95 (jl.inp.inj x).tm (jl.inp.inj x).hp (fnK jl NP Q) (λ_ _=>False)=
 Bool.rec (motive:=λ_=>Prop) ((RI x.1.1).wpR Q) (asV.wpR Q/\(RI x.1.1).wpR Q) (List.isEmpty x.1.1):=by kernel_rfl
def vB (x:adm):Bool:=decide (x.1.1.length*32<=140737488355328)
def ahr (x:adm):OT jl.Y:=.ok ⟨tE,(((),()),x.1.1,())⟩
theorem asU:aa ag 95 (jl.aw vB ahr):=by
 refine ayM aki Em.ok Em.any (f:=95) (fn:=Tryz.f95) (c:=mw Tryz.f95) (by kernel_rfl) (by kernel_rfl) (by kernel_rfl) (S:=jl) (k:=0) (by kernel_rfl) (Λ:=fC) (λR hR=>AX) (n:=1000) λx oy hp hr=>⟨fnK jl NP (λz=>z=oy),λ_ _=>False,?_,λv hp hq=> ?_,λ_ _ hq=>hq.elim⟩
 ·refine (ayZ x _).mpr ?_
  cases hr
  have hp':x.1.1.length*32<=140737488355328:=bh hp
  have h1:(RI x.1.1).wpR (λz=>z=⟨tE,(((),()),x.1.1,())⟩):=by
   rw [OT.Ez]
   refine OT.iH (ae ?_) rfl
   simp only [ax,aA,aC]
   exact aj (by omega)
  cases hb:List.isEmpty x.1.1
  ·exact h1
  ·refine ⟨?_,h1⟩
   rw [List.isEmpty_iff.1 hb]
   rfl
 ·unfold fnK at hq
  split at hq
  ·rename_i o ho
   split at hq
   ·rename_i y hy
    subst hq
    exact ⟨by cases ho;rfl,hy⟩
   ·exact hq.elim
  ·exact hq.elim
def yS:bi:=(jl.aw vB ahr)
theorem W7:aa ag 95 yS:=asU
theorem W6:au yS:=aq
def ajd:Env:=ap 95 yS SA
theorem OH:bI ag te ajd:=aP follows Em W7 W6
def pd:af:=⟨[jt],[],true,0,false⟩
abbrev Hh:Type:=fq×Unit
def Hg:aH:=⟨oQ,[(0,.cells [mL]),(1,ft)],false⟩
def aeR (a0:az):OT pd.Y:=
 (gd [vB ((a0,()),())] (.ok ⟨Hg,(((),()),((),()),a0,())⟩))
theorem ZS (pre:Hh->Bool) (F:Hh->OT pd.Y) (hF:∀ (x:Hh) oy,pre x=true->(F x).run=some oy->(aeR x.1.1).run=some oy):aa ag 36 (pd.aw pre F):=
 cC OH 36 Tryz.f36 pd [Hg] bw (λx=>aeR x.1.1) hF
def ux (x:Hh):Bool:=decide (x.1.1.length*32<=140737488355328)
def aeS (x:Hh):OT pd.Y:=.ok ⟨Hg,(((),()),((),()),x.1.1,())⟩
theorem aoC:aa ag 36 (pd.aw ux aeS):=ZS _ _ λx oy hp ho=>by
 rw [<-ho]
 have hp':x.1.1.length*32<=140737488355328:=bh hp
 refine (ae ?_).trans rfl
 simp only [ax,aA,aC]
 exact aj hp'
def wY:bi:=(rO [] 0 (pd.aw ux aeS))
theorem Tp:aa ag 36 wY:=(uz aoC)
theorem To:au wY:=(mR aq)
def aiL:Env:=ap 36 wY ajd
theorem En:bI ag te aiL:=aP follows OH Tp To
def xd:af:=⟨oQ,[(0,B3)],false,1,true⟩
abbrev TA:Type:=bQ×fq×Unit
def FV:aH:=⟨jz,[(0,B3)],false⟩
def aoG (c0_0:az):OT xd.Y:=
 let z0:Nat:=List.length c0_0
 let z1:Int:=(↑z0:Int)
 let z2:ab:= {w0:=0,w1:=0,w2:=0,w3:=0}
 (.br (z1==(0:Int))
 (.ok ⟨FV,((z2,(81:Int),()),(c0_0,()),())⟩)
 (gd [inB (0:Int) z0,cj (1:Int) z1 z0] (.ok ⟨FV,((List.getD c0_0 0 z2,(0:Int),()),(List.drop 1 c0_0,()),())⟩)))
theorem akh (pre:TA->Bool) (F:TA->OT xd.Y) (hF:∀ (x:TA) oy,pre x=true->(F x).run=some oy->(aoG x.2.1.1).run=some oy):aa ag 90 (xd.aw pre F):=
 cC En 90 Tryz.f90 xd [FV] bw (λx=>aoG x.2.1.1) hF
def ay (l:az):mI:=match l with
 | []=>(⟨0,0,0,0⟩,81,[])
 |x::r=>(x,0,r)
def nZ (x:TA):Bool:=decide (x.2.1.1.length<=140737488355328)
def aoH (x:TA):OT xd.Y:=.ok ⟨FV,(((ay x.2.1.1).1,(ay x.2.1.1).2.1,()),((ay x.2.1.1).2.2,()),())⟩
theorem av9:aa ag 90 (xd.aw nZ aoH):=akh _ _ λx oy hp ho=>by
 rw [<-ho]
 clear ho
 obtain ⟨⟨⟨⟩,⟨⟩⟩,⟨⟨l,⟨⟩⟩,⟨⟩⟩⟩:=x
 have hl:l.length<=140737488355328:=bh hp
 cases l with
 |nil=>rfl
 |cons y r=>
  have h0:(((y::r).length:Int)==0)=false:=by simp;omega
  refine (OT.al h0).trans ((ae ?_).trans rfl)
  simp only [List.length_cons] at hl⊢
  simp only [ax,aA,aC,av]
  exact ⟨aR (by omega),cA (by omega)⟩
def Cx:bi:=(xd.aw nZ aoH)
theorem Z3:aa ag 90 Cx:=av9
theorem Z0:au Cx:=aq
def pe:af:=⟨[.ptr 0 0 1],[(0,ub)],false,1,true⟩
abbrev Hi:Type:=bQ×jw×Unit
def zZ:aH:=⟨jz,[(0,ub)],false⟩
def aeU (c0_0:Int) (c0_1:az):OT pe.Y:=
 let z0:Nat:=List.length c0_1
 let z1:Int:=(↑z0:Int)
 let z2:ab:= {w0:=0,w1:=0,w2:=0,w3:=0}
 (.br (z1==(0:Int))
 (.ok ⟨zZ,((z2,(81:Int),()),(c0_0,c0_1,()),())⟩)
 (gd [inB (0:Int) z0,cj (1:Int) z1 z0] (.ok ⟨zZ,((List.getD c0_1 0 z2,(0:Int),()),(c0_0,List.drop 1 c0_1,()),())⟩)))
theorem ZZ (pre:Hi->Bool) (F:Hi->OT pe.Y) (hF:∀ (x:Hi) oy,pre x=true->(F x).run=some oy->(aeU x.2.1.1 x.2.1.2.1).run=some oy):aa ag 90 (pe.aw pre F):=
 cC En 90 Tryz.f90 pe [zZ] bw (λx=>aeU x.2.1.1 x.2.1.2.1) hF
def Cw (x:Hi):Bool:=decide (x.2.1.2.1.length<=140737488355328)
def aeV (x:Hi):OT pe.Y:=.ok ⟨zZ,(((ay x.2.1.2.1).1,(ay x.2.1.2.1).2.1,()),(x.2.1.1,(ay x.2.1.2.1).2.2,()),())⟩
theorem aoF:aa ag 90 (pe.aw Cw aeV):=ZZ _ _ λx oy hp ho=>by
 rw [<-ho]
 clear ho
 obtain ⟨⟨⟨⟩,⟨⟩⟩,⟨⟨s,l,⟨⟩⟩,⟨⟩⟩⟩:=x
 have hl:l.length<=140737488355328:=bh hp
 cases l with
 |nil=>rfl
 |cons y r=>
  have h0:(((y::r).length:Int)==0)=false:=by simp;omega
  refine (OT.al h0).trans ((ae ?_).trans rfl)
  simp only [List.length_cons] at hl⊢
  simp only [ax,aA,aC,av]
  exact ⟨aR (by omega),cA (by omega)⟩
def xb:bi:=(atE Cx (pe.aw Cw aeV))
theorem Tz:aa ag 90 xb:=(azh Z3 aoF)
theorem Tx:au xb:=(anj Z0 aq)
def aiM:Env:=ap 90 xb aiL
theorem Ou:bI ag te aiM:=aP follows En Tz Tx
def wW:af:=⟨[dW,Yp,iE],[(0,ub)],false,1,true⟩
abbrev Th:Type:=(Unit×UInt8×df)×jw×Unit
def Pa:aH:=⟨[],[(0,ub)],false⟩
def aou (a1:UInt8) (a2:aG) (c0_0:Int) (c0_1:az):OT wW.Y:=
 (.ok ⟨Pa,((),(c0_0,c0_1,()),())⟩)
theorem aka (pre:Th->Bool) (F:Th->OT wW.Y) (hF:∀ (x:Th) oy,pre x=true->(F x).run=some oy->(aou x.1.2.1 x.1.2.2.1 x.2.1.1 x.2.1.2.1).run=some oy):aa ag 221 (wW.aw pre F):=
 cC Ou 221 Tryz.f221 wW [Pa] bw (λx=>aou x.1.2.1 x.1.2.2.1 x.2.1.1 x.2.1.2.1) hF
def Tg (_:Th):Bool:=true
def aov (x:Th):OT wW.Y:=.ok ⟨Pa,((),(x.2.1.1,x.2.1.2.1,()),())⟩
theorem av5:aa ag 221 (wW.aw Tg aov):=aka _ _ λx oy hp ho=>ho
def Cs:bi:=(Cy 2 (wW.aw Tg aov))
theorem ZM:aa ag 221 Cs:=(Ms av5)
theorem ZL:au Cs:=(ED aq)
def auY:Env:=ap 221 Cs aiM
theorem YC:bI ag te auY:=aP follows Ou ZM ZL
def pf:af:=⟨oQ,[(0,ub)],false,1,true⟩
abbrev Hj:Type:=bQ×jw×Unit
def Aa:aH:=⟨jz,[(0,ub)],false⟩
def aeW (c0_0:Int) (c0_1:az):OT pf.Y:=
 let z0:mI:=ay c0_1
 let z1:ab:= {w0:=0,w1:=0,w2:=0,w3:=0}
 let z2:=z0.snd
 let z3:=z2.fst
 let z4:=z2.snd
 (gd [Cw (((),()),(c0_0,c0_1,()),())] (.br (ac c0_0)
 (.ok ⟨Aa,((fp (pS c0_0) z0.fst z1,z3,()),(c0_0,z4,()),())⟩)
 (.ok ⟨Aa,((z1,z3,()),(c0_0,z4,()),())⟩)))
theorem Z4 (pre:Hj->Bool) (F:Hj->OT pf.Y) (hF:∀ (x:Hj) oy,pre x=true->(F x).run=some oy->(aeW x.2.1.1 x.2.1.2.1).run=some oy):aa ag 220 (pf.aw pre F):=
 cC YC 220 Tryz.f220 pf [Aa] bw (λx=>aeW x.2.1.1 x.2.1.2.1) hF
def uy (x:Hj):Bool:=ac x.2.1.1&&decide (x.2.1.2.1.length<=140737488355328)
def aeX (x:Hj):OT pf.Y:=.ok ⟨Aa,((fp (pS x.2.1.1) (ay x.2.1.2.1).1 ⟨0,0,0,0⟩,(ay x.2.1.2.1).2.1,()),(x.2.1.1,(ay x.2.1.2.1).2.2,()),())⟩
theorem aoI:aa ag 220 (pf.aw uy aeX):=Z4 _ _ λx oy hp ho=>by
 rw [<-ho]
 clear ho
 obtain ⟨⟨⟨⟩,⟨⟩⟩,⟨⟨s,l,⟨⟩⟩,⟨⟩⟩⟩:=x
 have hp':(ac s&&decide (l.length<=140737488355328))=true:=hp
 rw [av] at hp'
 refine (ae ?_).trans ((OT.ak hp'.1).trans rfl)
 simp only [ax,aA,aC]
 exact hp'.2
def xe:bi:=(pf.aw uy aeX)
theorem TC:aa ag 220 xe:=aoI
theorem TB:au xe:=aq
def aiN:Env:=ap 220 xe auY
theorem Ov:bI ag te aiN:=aP follows YC TC TB
def xa:af:=⟨[aB,Yv],[],true,0,false⟩
abbrev Tv:Type:=(Int×wE×Unit)×Unit
def iK:aH:=⟨[.fh,aB],[],false⟩
def zY:aH:=⟨[.ifp 165 0,aB],[aiu,(1,ft)],false⟩
def zX:aH:=⟨[.ifp 171 0,aB],[(0,.cells [aB,oV]),(1,.cells [aB,aI,aI,aI,aI,aI,aI,aI,aI,.own 2,aI]),zp],false⟩
def ZX (a0:Int) (a1:wE):OT xa.Y:=
 let z0:Bool:=decide ((100000:Int)<(↑(List.length a1.snd):Int))
 let z1:Bool:=vB ((a1.snd,()),())
 let z2:Int:=bm a0 (1:Int)
 (.br (decide (a0<(0:Int)))
 (.ok ⟨iK,(((),(40:Int),()),())⟩)
 (.br (decide ((3:Int)<a0))
  (.ok ⟨iK,(((),(40:Int),()),())⟩)
  (.br (!a1.fst==(0:Int))
   (.br (!a1.fst==(1:Int))
    (.ok ⟨iK,(((),(80:Int),()),())⟩)
    (.br (z0)
     (.ok ⟨iK,(((),(81:Int),()),())⟩)
     (.br (a1.fst==(1:Int))
      (gd [z1] (.ok ⟨zY,(((),(0:Int),()),(z2,(),()),a1.snd,())⟩))
      (.ok ⟨zX,(((),(0:Int),()),(z2,(),()),((64:Int),(7640891576939301192:UInt64),(13503953896175478587:UInt64),(4354685564936845355:UInt64),(11912009170470909681:UInt64),(5840696475078001361:UInt64),(11170449401992604703:UInt64),(7924071207369364504:UInt64),(3427420097777323800:UInt64),(),(0:UInt64),()),[],())⟩))))
   (.br (z0)
    (.ok ⟨iK,(((),(81:Int),()),())⟩)
    (.br (a1.fst==(1:Int))
     (gd [z1] (.ok ⟨zY,(((),(0:Int),()),(z2,(),()),a1.snd,())⟩))
     (.ok ⟨zX,(((),(0:Int),()),(z2,(),()),((64:Int),(7640891576939301192:UInt64),(13503953896175478587:UInt64),(4354685564936845355:UInt64),(11912009170470909681:UInt64),(5840696475078001361:UInt64),(11170449401992604703:UInt64),(7924071207369364504:UInt64),(3427420097777323800:UInt64),(),(0:UInt64),()),[],())⟩))))))
theorem akf (pre:Tv->Bool) (F:Tv->OT xa.Y) (hF:∀ (x:Tv) oy,pre x=true->(F x).run=some oy->(ZX x.1.1 x.1.2.1).run=some oy):aa ag 54 (xa.aw pre F):=
 cC Ov 54 Tryz.f54 xa [iK,zY,zX] bw (λx=>ZX x.1.1 x.1.2.1) hF
def ci (c mode:Int) (n:Nat):Int:=cond (ac c) (cond ((mode==0)||(mode==1)) (cond (decide ((100000:Int)<(n:Int))) 81 0) 80) 40
def Pk:Ol:=(64,7640891576939301192,13503953896175478587,4354685564936845355,11912009170470909681,5840696475078001361,11170449401992604703,7924071207369364504,3427420097777323800,(),0,())
def Tu (_:Tv):Bool:=true
def iL (x:Tv):OT xa.Y:=.br (ci x.1.1 x.1.2.1.1 x.1.2.1.2.length==0)
 (.br (x.1.2.1.1==1) (.ok ⟨zY,(((),(0:Int),()),(bm x.1.1 1,(),()),x.1.2.1.2,())⟩) (.ok ⟨zX,(((),(0:Int),()),(bm x.1.1 1,(),()),Pk,[],())⟩))
 (.ok ⟨iK,(((),ci x.1.1 x.1.2.1.1 x.1.2.1.2.length,()),())⟩)
theorem av8:aa ag 54 (xa.aw Tu iL):=akf _ _ λx oy _ ho=>by
 rw [<-ho]
 clear ho
 obtain ⟨⟨c,⟨mode,l⟩,⟨⟩⟩,⟨⟩⟩:=x
 unfold ZX
 cases hs:ac c
 ·have he:ci c mode l.length=40:=by unfold ci;rw [hs];rfl
  have hF:(iL ((c,(mode,l),()),())).run=some ⟨iK,(((),(40:Int),()),())⟩:=by
   unfold iL
   rw [he]
   rfl
  rw [hF]
  by_cases h1:c<0
  ·exact OT.ak (aj h1)
  ·refine (OT.al (bn h1)).trans (OT.ak (aj ?_))
   by_cases h2:3<c
   ·exact h2
   ·have:ac c=true:=by
     simp only [ac,av,decide_eq_true_eq]
     omega
    rw [this] at hs;cases hs
 ·have hc:0<=c/\c<4:=by simpa [ac] using hs
  refine (OT.al (bn (by dsimp only;omega))).trans ((OT.al (bn (by dsimp only;omega))).trans ?_)
  by_cases h0:mode=0
  ·subst h0
   refine (OT.al rfl).trans ?_
   cases hl:decide ((100000:Int)<(l.length:Int))
   ·have he:ci c 0 l.length=0:=by unfold ci;rw [hs,hl];rfl
    have hF:(iL ((c,(0,l),()),())).run=some ⟨zX,(((),(0:Int),()),(bm c 1,(),()),Pk,[],())⟩:=by
     unfold iL
     rw [he]
     rfl
    rw [hF]
    exact (OT.al rfl).trans ((OT.al rfl).trans rfl)
   ·have he:ci c 0 l.length=81:=by unfold ci;rw [hs,hl];rfl
    have hF:(iL ((c,(0,l),()),())).run=some ⟨iK,(((),(81:Int),()),())⟩:=by
     unfold iL
     rw [he]
     rfl
    rw [hF]
    exact (OT.ak rfl).trans rfl
  ·by_cases h1:mode=1
   ·subst h1
    refine (OT.ak rfl).trans ((OT.al rfl).trans ?_)
    cases hl:decide ((100000:Int)<(l.length:Int))
    ·have he:ci c 1 l.length=0:=by unfold ci;rw [hs,hl];rfl
     have hF:(iL ((c,(1,l),()),())).run=some ⟨zY,(((),(0:Int),()),(bm c 1,(),()),l,())⟩:=by
      unfold iL
      rw [he]
      rfl
     rw [hF]
     refine (OT.al rfl).trans ((OT.ak rfl).trans ((ae ?_).trans rfl))
     have hl':¬(100000:Int)<(l.length:Int):=of_decide_eq_false hl
     simp only [ax,aA,aC]
     exact aj (show l.length*32<=140737488355328 by omega)
    ·have he:ci c 1 l.length=81:=by unfold ci;rw [hs,hl];rfl
     have hF:(iL ((c,(1,l),()),())).run=some ⟨iK,(((),(81:Int),()),())⟩:=by
      unfold iL
      rw [he]
      rfl
     rw [hF]
     exact (OT.ak rfl).trans rfl
   ·have b0:(mode==0)=false:=by simpa using h0
    have b1:(mode==1)=false:=by simpa using h1
    have he:ci c mode l.length=80:=by unfold ci;rw [hs,b0,b1];rfl
    have hF:(iL ((c,(mode,l),()),())).run=some ⟨iK,(((),(80:Int),()),())⟩:=by
     unfold iL
     rw [he]
     rfl
    rw [hF]
    exact (OT.ak (by simp [b0])).trans ((OT.ak (by simp [b1])).trans rfl)
def Cu:bi:=(xa.aw Tu iL)
theorem ZW:aa ag 54 Cu:=av8
theorem ZV:au Cu:=aq
def auZ:Env:=ap 54 Cu aiN
theorem B6:bI ag te auZ:=aP follows Ov ZW ZV
def ld:af:=⟨[aB,Yv],[],true,0,false⟩
abbrev wV:Type:=(Int×wE×Unit)×Unit
def zS:aH:=⟨Ft,auQ,false⟩
def Hd:aH:=⟨Ft,aBC,false⟩
def zR:aH:=⟨[.rI,aB],[],false⟩
def Td:aH:=⟨Ft,[(0,.cells [aB,.fh,mL]),nD],false⟩
def O8 (a0:Int) (a1:wE):OT ld.Y:=
 let z0:Int:=ci a0 a1.fst (List.length a1.snd)
 let z1:Int:=bm a0 (1:Int)
 (.br (z0==(0:Int))
 (.br (a1.fst==(1:Int))
  (.ok ⟨zS,(((),(0:Int),()),(a0,(),(),()),(z1,(),()),[],a1.snd,())⟩)
  (.ok ⟨Hd,(((),(0:Int),()),(a0,(),(),()),(z1,(),()),[],((64:Int),(7640891576939301192:UInt64),(13503953896175478587:UInt64),(4354685564936845355:UInt64),(11912009170470909681:UInt64),(5840696475078001361:UInt64),(11170449401992604703:UInt64),(7924071207369364504:UInt64),(3427420097777323800:UInt64),(),(0:UInt64),()),[],())⟩))
 (.br (!z0==(0:Int))
  (.ok ⟨zR,(((),z0,()),())⟩)
  (.ok ⟨Td,(((),(0:Int),()),(a0,(),(),()),[],())⟩)))
theorem ZJ (pre:wV->Bool) (F:wV->OT ld.Y) (hF:∀ (x:wV) oy,pre x=true->(F x).run=some oy->(O8 x.1.1 x.1.2.1).run=some oy):aa ag 34 (ld.aw pre F):=
 cC B6 34 Tryz.f34 ld [zS,Hd,zR,Td] bw (λx=>O8 x.1.1 x.1.2.1) hF
def aj8 (_:wV):Bool:=true
def O9 (x:wV):OT ld.Y:=.br (ci x.1.1 x.1.2.1.1 x.1.2.1.2.length==0)
 (.br (x.1.2.1.1==1) (.ok ⟨zS,(((),(0:Int),()),(x.1.1,(),(),()),(bm x.1.1 1,(),()),[],x.1.2.1.2,())⟩)
  (.ok ⟨Hd,(((),(0:Int),()),(x.1.1,(),(),()),(bm x.1.1 1,(),()),[],Pk,[],())⟩))
 (.ok ⟨zR,(((),ci x.1.1 x.1.2.1.1 x.1.2.1.2.length,()),())⟩)
theorem aot:aa ag 34 (ld.aw aj8 O9):=ZJ _ _ λx oy _ ho=>by
 rw [<-ho]
 clear ho
 obtain ⟨⟨c,⟨mode,l⟩,⟨⟩⟩,⟨⟩⟩:=x
 unfold O8 O9
 by_cases he:(ci c mode l.length==0)=true
 ·refine (OT.ak he).trans (Eq.trans ?_ (OT.ak he).symm)
  by_cases hm:(mode==1)=true
  ·exact (OT.ak hm).trans (OT.ak hm).symm
  ·have hm:=Bool.eq_false_iff.2 hm
   exact (OT.al hm).trans (OT.al hm).symm
 ·have he:=Bool.eq_false_iff.2 he
  exact (OT.al he).trans ((OT.ak (by show (!(ci c mode l.length==0))=true;rw [he];rfl)).trans (OT.al he).symm)
def xg:af:=⟨oQ,ue,false,3,true⟩
abbrev TJ:Type:=bQ×Ok
def Pj:aH:=⟨jz,ue,false⟩
def ao1 (c0_0:Int) (c1_0:Int) (c1_1:az) (c2:aG):OT xg.Y:=
 let z0:mI:=ay c1_1
 let z1:=z0.snd
 (gd [uy (((),()),(c1_0,c1_1,()),())] (.ok ⟨Pj,((fp (pS c1_0) z0.fst {w0:=0,w1:=0,w2:=0,w3:=0},z1.fst,()),(c0_0,(),(),()),(c1_0,z1.snd,()),c2,())⟩))
theorem akj (pre:TJ->Bool) (F:TJ->OT xg.Y) (hF:∀ (x:TJ) oy,pre x=true->(F x).run=some oy->(ao1 x.2.1.1 x.2.2.1.1 x.2.2.1.2.1 x.2.2.2.1).run=some oy):aa ag 65 (xg.aw pre F):=
 cC B6 65 Tryz.f65 xg [Pj] bw (λx=>ao1 x.2.1.1 x.2.2.1.1 x.2.2.1.2.1 x.2.2.2.1) hF
def rP (x:TJ):Bool:=ac x.2.2.1.1&&decide (x.2.2.1.2.1.length<=140737488355328)
def ao2 (x:TJ):OT xg.Y:=.ok ⟨Pj,((fp (pS x.2.2.1.1) (ay x.2.2.1.2.1).1 ⟨0,0,0,0⟩,(ay x.2.2.1.2.1).2.1,()),(x.2.1.1,(),(),()),(x.2.2.1.1,(ay x.2.2.1.2.1).2.2,()),x.2.2.2.1,())⟩
theorem awR:aa ag 65 (xg.aw rP ao2):=akj _ _ λx oy hp ho=>by
 rw [<-ho]
 clear ho
 obtain ⟨⟨⟨⟩,⟨⟩⟩,⟨⟨c,⟨⟩,⟨⟩,⟨⟩⟩,⟨s,l,⟨⟩⟩,o,⟨⟩⟩⟩:=x
 refine (ae ?_).trans rfl
 simp only [ax,aA,aC]
 exact hp
def CA:bi:=(xg.aw rP ao2)
theorem Z7:aa ag 65 CA:=awR
theorem Z6:au CA:=aq
def He:af:=⟨[dW,Yp,iE],ue,false,2,true⟩
abbrev aox:Type:=(Unit×UInt8×df)×Ok
def ZO:aH:=⟨[],ue,false⟩
def aAe (a1:UInt8) (a2:aG) (c0_0:Int) (c1_0:Int) (c1_1:az) (c2:aG):OT He.Y:=
 (gd [decide ((List.length c2+List.length a2)*1<=140737488355328)] (.ok ⟨ZO,((),(c0_0,(),(),()),(c1_0,c1_1,()),c2++a2,())⟩))
theorem aow (pre:aox->Bool) (F:aox->OT He.Y) (hF:∀ (x:aox) oy,pre x=true->(F x).run=some oy->(aAe x.1.2.1 x.1.2.2.1 x.2.1.1 x.2.2.1.1 x.2.2.1.2.1 x.2.2.2.1).run=some oy):aa ag 136 (He.aw pre F):=
 cC B6 136 Tryz.f136 He [ZO] bw (λx=>aAe x.1.2.1 x.1.2.2.1 x.2.1.1 x.2.2.1.1 x.2.2.1.2.1 x.2.2.2.1) hF
def pb (x:aox):Bool:=decide (x.2.2.2.1.length+x.1.2.2.1.length<=140737488355328)
def aAf (x:aox):OT He.Y:=.ok ⟨ZO,((),(x.2.1.1,(),(),()),(x.2.2.1.1,x.2.2.1.2.1,()),x.2.2.2.1++x.1.2.2.1,())⟩
theorem aCE:aa ag 136 (He.aw pb aAf):=aow _ _ λx oy hp ho=>by
 rw [<-ho]
 clear ho
 obtain ⟨⟨⟨⟩,m,b,⟨⟩⟩,⟨⟨c,⟨⟩,⟨⟩,⟨⟩⟩,⟨s,l,⟨⟩⟩,o,⟨⟩⟩⟩:=x
 have hp':o.length+b.length<=140737488355328:=bh hp
 refine (ae ?_).trans rfl
 simp only [ax,aA,aC]
 exact aj (by omega)
def zU:bi:=(Cy 2 (He.aw pb aAf))
theorem Mp:aa ag 136 zU:=(Ms aCE)
theorem Mo:au zU:=(ED aq)
def aBQ:Env:=ap 136 zU auZ
theorem SB:bI ag te aBQ:=aP follows B6 Mp Mo
def iJ:af:=⟨[dW,dY],ue,false,2,true⟩
abbrev zT:Type:=(Unit×oN)×Ok
def jB:aH:=⟨[],ue,false⟩
def Tj (a1:ab) (c0_0:Int) (c1_0:Int) (c1_1:az) (c2:aG):OT iJ.Y:=
 let z0:Int:=bm c0_0 (1:Int)
 let z1:aG:=SM (ofN (ab.nat a1%ab.nat (numOf (Int.toNat z0)).fst))
 let z2:(Int×BQ)×K5×Fo:=((c0_0,(),(),()),(c1_0,c1_1,()),c2,())
 (.br (ac z0)
 (gd [pb (((),(2:UInt8),z1,()),z2)] (.ok ⟨jB,((),(c0_0,(),(),()),(c1_0,c1_1,()),c2++z1,())⟩))
 (gd [pb (((),(2:UInt8),[],()),z2)] (.ok ⟨jB,((),(c0_0,(),(),()),(c1_0,c1_1,()),c2++ [],())⟩)))
theorem Ti (pre:zT->Bool) (F:zT->OT iJ.Y) (hF:∀ (x:zT) oy,pre x=true->(F x).run=some oy->(Tj x.1.2.1 x.2.1.1 x.2.2.1.1 x.2.2.1.2.1 x.2.2.2.1).run=some oy):aa ag 94 (iJ.aw pre F):=
 cC SB 94 Tryz.f94 iJ [jB] bw (λx=>Tj x.1.2.1 x.2.1.1 x.2.2.1.1 x.2.2.1.2.1 x.2.2.2.1) hF
def LC (c:Int) (v:ab):aG:=SM (ofN (v.nat%(numOf (bm c 1).toNat).1.nat))
def pa (x:zT):Bool:=ac (bm x.2.1.1 1)&&decide (x.2.2.2.1.length<=140737488350000)
def Tk (x:zT):OT iJ.Y:=.ok ⟨jB,((),(x.2.1.1,(),(),()),(x.2.2.1.1,x.2.2.1.2.1,()),x.2.2.2.1++LC x.2.1.1 x.1.2.1,())⟩
theorem ZN (c s:Int) (l:az) (o b:aG) (k:Bool) (hk:k=true) (hb:b.length=32) (ho:o.length<=140737488350000):
 (OT.br k (gd [pb (((),(2:UInt8),b,()),(c,(),(),()),(s,l,()),o,())] (.ok ⟨jB,((),(c,(),(),()),(s,l,()),o++b,())⟩))
  (gd [pb (((),(2:UInt8),[],()),(c,(),(),()),(s,l,()),o,())] (.ok ⟨jB,((),(c,(),(),()),(s,l,()),o++ [],())⟩)):OT iJ.Y).run
 =(OT.ok ⟨jB,((),(c,(),(),()),(s,l,()),o++b,())⟩:OT iJ.Y).run:=by
 refine (OT.ak hk).trans (ae ?_)
 simp only [ax,aA,aC]
 exact aj (by dsimp only;omega)
theorem akb:aa ag 94 (iJ.aw pa Tk):=Ti _ _ λx oy hp ho=>by
 rw [<-ho]
 clear ho
 obtain ⟨⟨⟨⟩,v,⟨⟩⟩,⟨⟨c,⟨⟩,⟨⟩,⟨⟩⟩,⟨s,l,⟨⟩⟩,o,⟨⟩⟩⟩:=x
 have hp':(ac (bm c 1)&&decide (o.length<=140737488350000))=true:=hp
 rw [av] at hp'
 have ho':=bh hp'.2
 exact ZN c s l o (LC c v) (ac (bm c 1)) hp'.1 (qD _) ho'
def rM:bi:=(iJ.aw pa Tk)
theorem Pc:aa ag 94 rM:=akb
theorem Pb:au rM:=aq
def ph:af:=⟨oQ,ue,false,3,true⟩
abbrev Hn:Type:=bQ×Ok
def Hm:aH:=⟨[.own 3],[auM,kD,zp,(3,jA)],false⟩
def afF (c0_0:Int) (c1_0:Int) (c1_1:az) (c2:aG):OT ph.Y:=
 (gd [fe ((c2,()),())] (.ok ⟨Hm,(((),()),(c0_0,(),(),()),(c1_0,c1_1,()),c2,c2,())⟩))
theorem Z8 (pre:Hn->Bool) (F:Hn->OT ph.Y) (hF:∀ (x:Hn) oy,pre x=true->(F x).run=some oy->(afF x.2.1.1 x.2.2.1.1 x.2.2.1.2.1 x.2.2.2.1).run=some oy):aa ag 37 (ph.aw pre F):=
 cC SB 37 Tryz.f37 ph [Hm] bw (λx=>afF x.2.1.1 x.2.2.1.1 x.2.2.1.2.1 x.2.2.2.1) hF
def CB (x:Hn):Bool:=fe ((x.2.2.2.1,()),())
def afG (x:Hn):OT ph.Y:=.ok ⟨Hm,(((),()),(x.2.1.1,(),(),()),(x.2.2.1.1,x.2.2.1.2.1,()),x.2.2.2.1,x.2.2.2.1,())⟩
theorem ao3:aa ag 37 (ph.aw CB afG):=Z8 _ _ λx oy hp ho=>by
 rw [<-ho]
 clear ho
 obtain ⟨⟨⟨⟩,⟨⟩⟩,⟨⟨c,⟨⟩,⟨⟩,⟨⟩⟩,⟨s,l,⟨⟩⟩,o,⟨⟩⟩⟩:=x
 refine ae ?_
 simp only [ax,aA,aC]
 exact hp
def xh:bi:=(ph.aw CB afG)
theorem TL:aa ag 37 xh:=ao3
theorem TK:au xh:=aq
def DC:bi:=CA
theorem acv:aa ag 65 DC:=Z7
theorem acu:au DC:=Z6
def Jw:bi:=zU
theorem al6:aa ag 136 Jw:=Mp
theorem al5:au Jw:=Mo
def aBX:Env:=ap 136 Jw aBQ
theorem azU:bI ag te aBX:=aP follows SB al6 al5
def s5:bi:=rM
theorem Q8:aa ag 94 s5:=Pc
theorem Q7:au s5:=Pb
def YX:Env:=ap 94 s5 aBX
theorem ael:bI ag te YX:=aP follows azU Q8 Q7
def yH:bi:=xh
theorem Wk:aa ag 37 yH:=TL
theorem Wj:au yH:=TK
def ai6:Env:=ap 37 yH YX
theorem Eu:bI ag te ai6:=aP follows ael Wk Wj
def jZ:af:=⟨[dW,wH],ue,false,2,true⟩
abbrev wZ:Type:=(Unit×rp)×Ok
def ke:aH:=⟨ic,ue,false⟩
def FT (a1:cM) (c0_0:Int) (c1_0:Int) (c1_1:az) (c2:aG):OT jZ.Y:=
 let z0:aG:=Gr c0_0 a1
 (.br (!onB c0_0 a1)
 (.ok ⟨ke,(((41:Int),()),(c0_0,(),(),()),(c1_0,c1_1,()),c2,())⟩)
 (gd [pb (((),(1:UInt8),z0,()),(c0_0,(),(),()),(c1_0,c1_1,()),c2,())] (.ok ⟨ke,(((0:Int),()),(c0_0,(),(),()),(c1_0,c1_1,()),c2++z0,())⟩)))
theorem ZT (pre:wZ->Bool) (F:wZ->OT jZ.Y) (hF:∀ (x:wZ) oy,pre x=true->(F x).run=some oy->(FT x.1.2.1 x.2.1.1 x.2.2.1.1 x.2.2.1.2.1 x.2.2.2.1).run=some oy):aa ag 92 (jZ.aw pre F):=
 cC Eu 92 Tryz.f92 jZ [ke] bw (λx=>FT x.1.2.1 x.2.1.1 x.2.2.1.1 x.2.2.1.2.1 x.2.2.2.1) hF
theorem awX {b:List UInt8} (y:ab) (h:b.length=32):(aae b y).length=32:=by
 unfold aae
 rw [dm]
 exact h
theorem asS {c:Int} {P:Pt} (h:onB c P=true):(Gr c P).length=32:=by
 have e:=qD (ofP (pS c) P.1)
 unfold Gr
 generalize SM (ofP (pS c) P.1)=B at e
 rw [h,aV]
 exact awX _ e
def Ct (x:wZ):Bool:=decide (x.2.2.2.1.length<=140737488350000)
def av7 (x:wZ):OT jZ.Y:=.br (onB x.2.1.1 x.1.2.1) (.ok ⟨ke,(((0:Int),()),(x.2.1.1,(),(),()),(x.2.2.1.1,x.2.2.1.2.1,()),x.2.2.2.1++Gr x.2.1.1 x.1.2.1,())⟩)
 (.ok ⟨ke,(((41:Int),()),(x.2.1.1,(),(),()),(x.2.2.1.1,x.2.2.1.2.1,()),x.2.2.2.1,())⟩)
theorem ZU {c s:Int} {P:Pt} {l:List ab} {o B:List UInt8} (hB:Gr c P=B) (hl:onB c P=true->B.length=32) (ho:o.length<=140737488350000):(FT P c s l o).run=(OT.br (onB c P) (.ok ⟨ke,(((0:Int),()),(c,(),(),()),(s,l,()),o++B,())⟩)
 (.ok ⟨ke,(((41:Int),()),(c,(),(),()),(s,l,()),o,())⟩):OT jZ.Y).run:=by
 unfold FT
 simp only [hB]
 rcases (bX (onB c P)).symm with h|h
 ·exact (OT.ak (b:= !onB c P) (by rw [h];rfl)).trans (OT.al (b:=onB c P) h).symm
 ·refine (OT.al (b:= !onB c P) (by rw [h];rfl)).trans (Eq.trans ((ae ?_).trans rfl) (OT.ak (b:=onB c P) h).symm)
  simp only [ax,aA,aC]
  exact aj (by have:=hl h;show o.length+B.length<=_;omega)
theorem aoD:aa ag 92 (jZ.aw Ct av7):=ZT _ _ λx oy hp ho=>by
 rw [<-ho]
 clear ho
 obtain ⟨⟨⟨⟩,P,⟨⟩⟩,⟨⟨c,⟨⟩,⟨⟩,⟨⟩⟩,⟨s,l,⟨⟩⟩,o,⟨⟩⟩⟩:=x
 have key:=ZU (c:=c) (s:=s) (P:=P) (l:=l) (o:=o) (B:=Gr c P) (Eq.refl (Gr c P)) asS (bh hp)
 exact key
def mv:af:=⟨[Yv],[],false,0,false⟩
abbrev Bw:Type:=(wE×Unit)×Unit
def D1:aH:=⟨[Yv],[],false⟩
def Xf (a0:wE):OT mv.Y:=
 (gd [gH ((a0.snd,()),())] (.ok ⟨D1,((a0,()),())⟩))
theorem Xe (pre:Bw->Bool) (F:Bw->OT mv.Y) (hF:∀ (x:Bw) oy,pre x=true->(F x).run=some oy->(Xf x.1.1).run=some oy):aa ag 16 (mv.aw pre F):=
 cC Eu 16 Tryz.f16 mv [D1] bw (λx=>Xf x.1.1) hF
def jS (x:Bw):Bool:=decide (x.1.1.2.length*32<=140737488355328)
def Xg (x:Bw):OT mv.Y:=.ok ⟨D1,((x.1.1,()),())⟩
theorem amX:aa ag 16 (mv.aw jS Xg):=Xe _ _ λx oy hp ho=>by
 rw [<-ho]
 clear ho
 refine (ae ?_).trans rfl
 simp only [ax,aA,aC]
 exact hp
def tI:bi:=(JH 0 1 (mv.aw jS Xg))
theorem RM:aa ag 16 tI:=(JG amX)
theorem RL:au tI:=(yJ aq)
def Lt:Env:=ap 16 tI ai6
theorem ri:bI ag te Lt:=aP follows Eu RM RL
abbrev HM:Type:=Yn
abbrev PO:Type:=mH
section
variable (ok0:HM->Bool) (g0_0:HM->PO)
end
abbrev HL:Type:=aio×oL
abbrev PN:Type:=aik
section
variable (ok0:HL->Bool) (g0_0:HL->PN)
end
abbrev MG:Type:=(Unit×Unit×Int×UInt64×eE)×ao×List Int×Unit
abbrev UB:Type:=kU×ao×List Int×Unit
section
variable (ok2:MG->Bool) (g2_2:MG->UB)
end
abbrev UA:Type:=BR×ao×ao×List Int×tY
abbrev aaK:Type:=mH
section
variable (ok0:UA->Bool) (g0_0:UA->aaK)
end
end
section
namespace Sx
open Go
def JF (k:Nat) (s:bi):bi:=⟨true,λd args hp=>match args.getD k .fY with
 |.own c e=>match dZ hp c e with
  |some (.row t xs)=>(s.f d args (cG hp [(c,⟨e,.frz t xs⟩)])).map (Out.after [(c,⟨e,.frz t xs⟩)])
  |some _=>s.f d args hp
  |none=>.fail
 |_=>s.f d args hp⟩
theorem JE {P:Program} {f:FuncId} {s:bi} {k:Nat} (h:aa P f s):aa P f (JF k s):=by
 refine ⟨λR w d args vs out hm hr hrun=> ?_⟩
 simp only [JF] at hrun
 split at hrun
 ·rename_i c e hce
  split at hrun
  ·rename_i t xs hc
   obtain ⟨out',h1,rfl⟩:=OT.run_map hrun
   obtain ⟨R1,ha⟩:=Ny hm (bP hc)
   rw [<-show R1.hp=cG R.hp [(c,⟨e,.frz t xs⟩)] from ha.hp] at h1
   have hr1:SV.bx R1 args vs:=SV.eH ha.ext _ _ hr
   have hpost:∀ en w',ik R1 out' en w'->ik R (Out.after [(c,⟨e,.frz t xs⟩)] out') en w':=λen w' hp=>by
    cases out' with
    |ret q=>
     obtain ⟨v,R',h2,h3,h4⟩:=hp
     exact ⟨v,R',h2,ha.trans h3,h4⟩
    |pan q u=>
     obtain ⟨v,R',h2,h3,h4⟩:=hp
     exact ⟨v,R',h2,ha.trans h3,h4⟩
   rcases h.calls R1 w d _ vs out' ha.mem hr1 h1 with ⟨fn,f1,f2,f3,hcl⟩|⟨v,w',hv,hp⟩
   ·exact .inl ⟨fn,f1,f2,f3,hcl.mono hpost⟩
   ·exact .inr ⟨v,w',hv,hpost _ _ hp⟩
  ·exact h.calls R w d args vs out hm hr hrun
  ·cases hrun
 ·exact h.calls R w d args vs out hm hr hrun
theorem yI {s:bi} {k:Nat} (h:au s):au (JF k s):=λd args hp hp' out hg hrun=>by
 simp only [JF] at hrun⊢
 split at hrun
 ·split at hrun
  ·rename_i t xs hc
   rw [bM hg hc]
   simp only
   obtain ⟨out',h1,rfl⟩:=OT.run_map hrun
   refine Df (h d _ _ _ out' ⟨λn ch hn=> ?_,λn hn hn0=> ?_⟩ h1)
   ·simp only [cG] at hn⊢
    split
    ·rename_i h2;rw [if_pos h2] at hn;exact hn
    ·rename_i h2;rw [if_neg h2] at hn;exact hg.mj _ _ hn
   ·simp only [cG] at hn0⊢
    split
    ·rename_i h2;rw [if_pos h2] at hn0;cases hn0
    ·rename_i h2;rw [if_neg h2] at hn0;exact hg.free _ hn hn0
  ·rename_i b hnr hc
   rw [bM hg hc]
   cases b<;>first|exact h _ _ _ _ _ hg hrun|exact absurd rfl (hnr _ _)
  ·cases hrun
 ·exact h _ _ _ _ _ hg hrun
end Sx
end
section
open Sx Go
set_option maxRecDepth 100000
def pg:af:=⟨oQ,ue,false,3,true⟩
abbrev Hl:Type:=bQ×Ok
def Hk:aH:=⟨ic,ue,false⟩
def afD (c0_0:Int) (c1_0:Int) (c1_1:az) (c2:aG):OT pg.Y:=
 (.ok ⟨Hk,((c0_0,()),(c0_0,(),(),()),(c1_0,c1_1,()),c2,())⟩)
theorem Z5 (pre:Hl->Bool) (F:Hl->OT pg.Y) (hF:∀ (x:Hl) oy,pre x=true->(F x).run=some oy->(afD x.2.1.1 x.2.2.1.1 x.2.2.1.2.1 x.2.2.2.1).run=some oy):aa ag 59 (pg.aw pre F):=
 cC ri 59 Tryz.f59 pg [Hk] bw (λx=>afD x.2.1.1 x.2.2.1.1 x.2.2.1.2.1 x.2.2.2.1) hF
def Mt (_:Hl):Bool:=true
def afE (x:Hl):OT pg.Y:=.ok ⟨Hk,((x.2.1.1,()),x.2)⟩
theorem ao0:aa ag 59 (pg.aw Mt afE):=Z5 _ _ λx oy hp ho=>by
 rw [<-ho]
 rfl
def xf:bi:=(pg.aw Mt afE)
theorem TH:aa ag 59 xf:=ao0
theorem TG:au xf:=aq
def yG:bi:=xf
theorem Wi:aa ag 59 yG:=TH
theorem Wh:au yG:=TG
def ap6 (c:Code):Array Oper:=match c with
 |.seq (.region _ ops _) _=>ops
 |_=> #[]
def ap5 (c:Code):Array Oper:=match c with
 |.seq _ (.seq (.region _ ops _) _)=>ops
 |_=> #[]
theorem aDA:(Tryz.f133).body=some (.seq (.region 0 (ap6 (mw Tryz.f133)) false) (.seq (.region 1 (ap5 (mw Tryz.f133)) false) .ret)):=by kernel_rfl
theorem aDz (x:SV): [x]++List.replicate ((Tryz.f133).ntmps- [x].length) SV.undef= [x,.undef,.undef,.undef,.undef,.undef,.undef,.undef,.undef]:=by kernel_rfl
theorem ap3 (hp:Hp) (c e:Nat):LO te hp 37 (.own c e)=(match eR hp c e with|some n=>.ok (.int n)|none=>.fail):=by kernel_rfl
theorem ap4 (hp:Hp) (c e:Nat) (n:Int):pn te hp 37 (.own c e) none (some (.int n)) (some (.int n))=.br (Ic none (some (.int n)) (some (.int n))) (if (eR hp c e).isSome then .ok .emp else .fail) (match (none:Option SV),some (SV.int n),eR hp c e with
 |none,some (.int h),some m=>if dN hp c e=some 1 then .br (decide (h=(m:Int))&&decide (n=(m:Int))) (.ok (.clip c e)) (.guard (decide (0<=h)&&decide (h<=n)&&decide (n<=(m:Int))) (.ok (.part c e 0 h.toNat))) else .fail
 |_,_,_=>.fail):=by kernel_rfl
noncomputable def aDB (k:Nat):Oper:=(ap6 (mw Tryz.f133)).toList.getD k default
noncomputable def xJ (k:Nat):Oper:=(ap5 (mw Tryz.f133)).toList.getD k default
theorem axq:(ap6 (mw Tryz.f133)).toList= [aDB 0]:=by kernel_rfl
theorem axo:(ap5 (mw Tryz.f133)).toList= [xJ 0,xJ 1,xJ 2,xJ 3,xJ 4,xJ 5,xJ 6]:=by kernel_rfl
theorem axn (hp:Hp) (c e:Nat) (xs:aG) (K:SV->Hp->Prop) (hx:dZ hp c e=some (.row .u8 xs)) (hl:0<xs.length) (hK:K (.clip c e) hp):
 wpf te Lt fC 1000 Tryz.f133 [.own c e] hp K (λ_ _=>False):=by
 have e1:eR hp c e=some xs.length:=by simp [eR,hx]
 have e2:dN hp c e=some 1:=by simp only [dN,hx];rfl
 have h1:LO te hp 37 (.own c e)=.ok (.int xs.length):=by rw [ap3,e1]
 have h2:(pn te hp 37 (.own c e) none (some (.int xs.length)) (some (.int xs.length))).run=some (.clip c e):=by
  rw [ap4,e1]
  simp only [e2,if_true]
  refine (OT.al ?_).trans (OT.ak (by simp))
  simp only [Ic,Bool.and_self,decide_eq_false_iff_not]
  omega
 unfold wpf
 rw [aDA]
 dsimp only
 rw [aDz,aCm (n:=997),lP,axq]
 refine gi (.emp) (by kernel_rfl) (by kernel_rfl) (tm':= [.own c e,.undef,.emp,.undef,.undef,.undef,.undef,.undef,.undef]) (by kernel_rfl) ?_
 dsimp only [gV]
 rw [lP,axo]
 refine gi (.own c e) (by kernel_rfl) (by kernel_rfl) (tm':= [.own c e,.undef,.emp,.own c e,.undef,.undef,.undef,.undef,.undef]) (by kernel_rfl) ?_
 refine gi (.own c e) (by kernel_rfl) (by kernel_rfl) (tm':= [.own c e,.undef,.emp,.own c e,.own c e,.undef,.undef,.undef,.undef]) (by kernel_rfl) ?_
 refine gi (.int xs.length) (by kernel_rfl) (Eq.trans (b:=(iQ (LO te hp 37 (.own c e))).run) (by kernel_rfl) (by rw [h1];rfl)) (tm':= [.own c e,.undef,.emp,.own c e,.own c e,.int xs.length,.undef,.undef,.undef]) (by kernel_rfl) ?_
 refine gi (.own c e) (by kernel_rfl) (by kernel_rfl) (tm':= [.own c e,.undef,.emp,.own c e,.own c e,.int xs.length,.own c e,.undef,.undef]) (by kernel_rfl) ?_
 refine gi (.int xs.length) (by kernel_rfl) (Eq.trans (b:=(iQ (LO te hp 37 (.own c e))).run) (by kernel_rfl) (by rw [h1];rfl)) (tm':= [.own c e,.undef,.emp,.own c e,.own c e,.int xs.length,.own c e,.int xs.length,.undef]) (by kernel_rfl) ?_
 refine gi (.clip c e) (by kernel_rfl) (Eq.trans (b:=(iQ (pn te hp 37 (.own c e) none (some (.int xs.length)) (some (.int xs.length)))).run) (by kernel_rfl) (Df h2)) (tm':= [.own c e,.undef,.emp,.own c e,.own c e,.int xs.length,.own c e,.int xs.length,.clip c e]) (by kernel_rfl) ?_
 refine gi (.clip c e) (by kernel_rfl) (by kernel_rfl) (tm':= [.own c e,.undef,.clip c e,.own c e,.own c e,.int xs.length,.own c e,.int xs.length,.clip c e]) (by kernel_rfl) ?_
 exact hK
theorem axp:aa ag 133 vF:=
 aEM aki ri.ok ri.any (f:=133) (fn:=Tryz.f133) (c:=mw Tryz.f133) (by kernel_rfl) (by kernel_rfl) (by kernel_rfl) (λR=>AX) (n:=1000) axn
def C2:bi:=vF
theorem aa2:aa ag 133 C2:=axp
theorem aa1:au C2:=ath
def au7:Env:=ap 133 C2 Lt
theorem B7:bI ag te au7:=aP follows ri aa2 aa1
def kn:af:=⟨[aB,aB,iE],[],true,0,false⟩
abbrev AB:Type:=(Int×Int×df)×Unit
def ak3:Shape:=⟨87,[ig,(1,aB),jx,Ek,(38,aB)],[kV,nD],0,true⟩
abbrev cV:Type:=(Int×Int×kU)×jY×df
def m8:Shape:=⟨87,[ig,jx,Ek],[kV,nD],0,true⟩
abbrev iU:Type:=kC×jY×df
def ak8 (a0:Int) (a1:Int) (a38:Int) (c0_0:UInt64) (c0_1:UInt64) (c0_2:UInt64) (c0_3:UInt64) (c0_4:UInt64) (c0_5:UInt64) (c0_6:UInt64) (c0_7:UInt64) (c0_8:Bool) (c1:aG):OT (Sum cV aT):=
 (.br (decide (a38<(4:Int)))
 (gd [inR ((8:Int)*a38),decide ((0:Int)<=(8:Int)*a38),decide ((List.length c1+1)*1<=140737488355328),inR (a38+(1:Int))] (.ok (.inl ((a0,a1,(),(),a38+(1:Int),()),(c0_0,c0_1,c0_2,c0_3,c0_4,c0_5,c0_6,c0_7,c0_8,()),c1++ [i2b (aGb a1 ((8:Int)*a38))],()))))
 (.ok (.inr ⟨(.exit 1,m8),((a0,(),(),()),(c0_0,c0_1,c0_2,c0_3,c0_4,c0_5,c0_6,c0_7,c0_8,()),c1,())⟩)))
def uR (s:cV):OT (Sum cV aT):=ak8 s.1.1 s.1.2.1 s.1.2.2.2.2.1 s.2.1.1 s.2.1.2.1 s.2.1.2.2.1 s.2.1.2.2.2.1 s.2.1.2.2.2.2.1 s.2.1.2.2.2.2.2.1 s.2.1.2.2.2.2.2.2.1 s.2.1.2.2.2.2.2.2.2.1 s.2.1.2.2.2.2.2.2.2.2.1 s.2.2.1
def MO (g1_1:cV->iU) (s:cV):OT aT:=(.ok ⟨(.exit 1,m8),g1_1 s⟩)
def ak2:Shape:=⟨87,[ig,jx,Ek,(50,aB)],[kV,nD],0,true⟩
abbrev bC:Type:=(Int×kU)×jY×df
def gk:Shape:=⟨87,[jx,ry],[kV],0,true⟩
abbrev gN:Type:=oK×jY×Unit
def m7:Shape:=⟨87,[jx],[kV],0,true⟩
abbrev iT:Type:=bQ×jY×Unit
def ak7 (a0:Int) (a50:Int) (c0_0:UInt64) (c0_1:UInt64) (c0_2:UInt64) (c0_3:UInt64) (c0_4:UInt64) (c0_5:UInt64) (c0_6:UInt64) (c0_7:UInt64) (c0_8:Bool) (c1:aG):OT (Sum bC aT):=
 let z0:Nat:=List.length c1
 let z1:aG:=c1++ [i2b a50]
 let z2:Bool:=ac a0
 let z3:Nat:=ab.nat (numOf (Int.toNat a0)).fst
 let z4:BP:=aht a0 (SM (ofN (ab.nat (aCo a0 (Sc [(115:UInt8),(105:UInt8),(103:UInt8),(105:UInt8),(108:UInt8),(45:UInt8),(103:UInt8),(101:UInt8),(110:UInt8),(101:UInt8),(114:UInt8),(97:UInt8),(116:UInt8),(111:UInt8),(114:UInt8),(115:UInt8)] (64:Int) z1))%z3)))
 let z5:=z4.fst
 let z6:=z5.snd
 let z7:=z6.snd
 let z8:=z5.fst
 let z9:=z6.fst
 let z10:Bool:=inR (a50+(1:Int))
 let z11:BP:=aht a0 []
 let z12:=z11.fst
 let z13:=z12.snd
 let z14:=z13.snd
 let z15:Bool:= !z14
 let z16:=z12.fst
 let z17:=z16.w0
 let z18:=z16.w1
 let z19:=z16.w2
 let z20:=z16.w3
 let z21:=z13.fst
 let z22:=z21.w0
 let z23:=z21.w1
 let z24:=z21.w2
 let z25:=z21.w3
 let z26:BP:=aht a0 (SM (ofN (ab.nat {w0:=0,w1:=0,w2:=0,w3:=0}%z3)))
 let z27:=z26.fst
 let z28:=z27.snd
 let z29:=z28.snd
 let z30:=z27.fst
 let z31:=z28.fst
 (.br (decide (a50<(256:Int)))
 (gd [decide (0<z0),decide ((z0+1)*1<=140737488355328)&&decide (0<1),BG (([(115:UInt8),(105:UInt8),(103:UInt8),(105:UInt8),(108:UInt8),(45:UInt8),(103:UInt8),(101:UInt8),(110:UInt8),(101:UInt8),(114:UInt8),(97:UInt8),(116:UInt8),(111:UInt8),(114:UInt8),(115:UInt8)],(64:Int),z1,()),())] (.br (z2)
  (.br (z2)
   (.br (z4.snd==(0:Int))
    (.br (!z7)
     (.ok (.inr ⟨(.ret,gk),(((),(0:Int),()),(z8.w0,z8.w1,z8.w2,z8.w3,z9.w0,z9.w1,z9.w2,z9.w3,z7,()),())⟩))
     (gd [z10] (.ok (.inl ((a0,(),(),a50+(1:Int),()),(c0_0,c0_1,c0_2,c0_3,c0_4,c0_5,c0_6,c0_7,c0_8,()),c1,())))))
    (gd [z10] (.ok (.inl ((a0,(),(),a50+(1:Int),()),(c0_0,c0_1,c0_2,c0_3,c0_4,c0_5,c0_6,c0_7,c0_8,()),c1,())))))
   (.br (z11.snd==(0:Int))
    (.br (z15)
     (.ok (.inr ⟨(.ret,gk),(((),(0:Int),()),(z17,z18,z19,z20,z22,z23,z24,z25,z14,()),())⟩))
     (gd [z10] (.ok (.inl ((a0,(),(),a50+(1:Int),()),(c0_0,c0_1,c0_2,c0_3,c0_4,c0_5,c0_6,c0_7,c0_8,()),c1,())))))
    (gd [z10] (.ok (.inl ((a0,(),(),a50+(1:Int),()),(c0_0,c0_1,c0_2,c0_3,c0_4,c0_5,c0_6,c0_7,c0_8,()),c1,()))))))
  (.br (z2)
   (.br (z26.snd==(0:Int))
    (.br (!z29)
     (.ok (.inr ⟨(.ret,gk),(((),(0:Int),()),(z30.w0,z30.w1,z30.w2,z30.w3,z31.w0,z31.w1,z31.w2,z31.w3,z29,()),())⟩))
     (gd [z10] (.ok (.inl ((a0,(),(),a50+(1:Int),()),(c0_0,c0_1,c0_2,c0_3,c0_4,c0_5,c0_6,c0_7,c0_8,()),c1,())))))
    (gd [z10] (.ok (.inl ((a0,(),(),a50+(1:Int),()),(c0_0,c0_1,c0_2,c0_3,c0_4,c0_5,c0_6,c0_7,c0_8,()),c1,())))))
   (.br (z11.snd==(0:Int))
    (.br (z15)
     (.ok (.inr ⟨(.ret,gk),(((),(0:Int),()),(z17,z18,z19,z20,z22,z23,z24,z25,z14,()),())⟩))
     (gd [z10] (.ok (.inl ((a0,(),(),a50+(1:Int),()),(c0_0,c0_1,c0_2,c0_3,c0_4,c0_5,c0_6,c0_7,c0_8,()),c1,())))))
    (gd [z10] (.ok (.inl ((a0,(),(),a50+(1:Int),()),(c0_0,c0_1,c0_2,c0_3,c0_4,c0_5,c0_6,c0_7,c0_8,()),c1,()))))))))
 (.ok (.inr ⟨(.exit 3,m7),(((),()),(c0_0,c0_1,c0_2,c0_3,c0_4,c0_5,c0_6,c0_7,c0_8,()),())⟩)))
def uQ (s:bC):OT (Sum bC aT):=ak7 s.1.1 s.1.2.2.2.1 s.2.1.1 s.2.1.2.1 s.2.1.2.2.1 s.2.1.2.2.2.1 s.2.1.2.2.2.2.1 s.2.1.2.2.2.2.2.1 s.2.1.2.2.2.2.2.2.1 s.2.1.2.2.2.2.2.2.2.1 s.2.1.2.2.2.2.2.2.2.2.1 s.2.2.1
def CY (g3_r:bC->gN) (c3_r:bC->Bool) (g3_3:bC->iT) (s:bC):OT aT:=(.br (c3_r s) (.ok ⟨(.ret,gk),g3_r s⟩) (.ok ⟨(.exit 3,m7),g3_3 s⟩))
def iw:aH:=⟨K8,[],false⟩
def US (ok1:cV->Bool) (g1_1:cV->iU) (ok3:bC->Bool) (g3_r:bC->gN) (c3_r:bC->Bool) (g3_3:bC->iT) (a0:Int) (a1:Int) (a2:aG):OT kn.Y:=
 let z0:ab:= {w0:=0,w1:=0,w2:=0,w3:=0}
 let z1:cM:=(z0,z0,false)
 let z2:cV:=((a0,a1,(),(),(0:Int),()),((0:UInt64),(0:UInt64),(0:UInt64),(0:UInt64),(0:UInt64),(0:UInt64),(0:UInt64),(0:UInt64),false,()),a2,())
 let z3:iU:=g1_1 z2
 let z4:=z3.snd
 let z5:=z4.fst
 let z6:=z5.snd
 let z7:=z6.snd
 let z8:=z7.snd
 let z9:=z8.snd
 let z10:=z9.snd
 let z11:=z10.snd
 let z12:=z11.snd
 let z13:bC:=((z3.fst.fst,(),(),(0:Int),()),(z5.fst,z6.fst,z7.fst,z8.fst,z9.fst,z10.fst,z11.fst,z12.fst,z12.snd.fst,()),z4.snd.fst,())
 let z14:gN:=g3_r z13
 let z15:=z14.snd.fst
 let z16:=z15.snd
 let z17:=z16.snd
 let z18:=z17.snd
 let z19:=z18.snd
 let z20:=z19.snd
 let z21:=z20.snd
 let z22:=z21.snd
 (.br (ac a0)
 (.br (decide (a1<(0:Int)))
  (.ok ⟨iw,((z1,(60:Int),()),())⟩)
  (.br (decide ((2147483647:Int)<a1))
   (.ok ⟨iw,((z1,(60:Int),()),())⟩)
   (gd [fe ((a2,()),()),ok1 z2,ok3 z13] (.br (c3_r z13)
    (.ok ⟨iw,((({w0:=z15.fst,w1:=z16.fst,w2:=z17.fst,w3:=z18.fst},{w0:=z19.fst,w1:=z20.fst,w2:=z21.fst,w3:=z22.fst},z22.snd.fst),z14.fst.snd.fst,()),())⟩)
    (.ok ⟨iw,((z1,(90:Int),()),())⟩)))))
 (.ok ⟨iw,((z1,(40:Int),()),())⟩))
theorem UR (ok1:cV->Bool) (g1_1:cV->iU) (ok3:bC->Bool) (g3_r:bC->gN) (c3_r:bC->Bool) (g3_3:bC->iT) (h1:aY uR ok1 (MO g1_1)) (h3:aY uQ ok3 (CY g3_r c3_r g3_3)) (pre:AB->Bool) (F:AB->OT kn.Y) (hF:∀ (x:AB) oy,pre x=true->(F x).run=some oy->(US ok1 g1_1 ok3 g3_r c3_r g3_3 x.1.1 x.1.2.1 x.1.2.2.1).run=some oy):aa ag 89 (kn.aw pre F):=
 cC B7 89 Tryz.f89 kn [iw] (js B7 3 ak2 [(3,m7)] (some gk) none uQ bw h3 (js B7 1 ak3 [(1,m8)] none none uR bw h1 bw)) (λx=>US ok1 g1_1 ok3 g3_r c3_r g3_3 x.1.1 x.1.2.1 x.1.2.2.1) hF
def arS:aG:= [115,105,103,105,108,45,103,101,110,101,114,97,116,111,114,115]
def aA3 (b:aG) (i:Int):aG:=upto (λk l=>l++ [i2b (aGb i (8*(k:Int)))]) b 4
def aEC (c:Int) (b:aG) (k:Nat):Pt×Int:=aht c (SM (ofN ((aCo c (Sc arS 64 (b++ [i2b (k:Int)]))).nat%(numOf c.toNat).1.nat)))
def aEB (d:Pt×Int):Bool:=cond (d.2==(0:Int)) (!d.1.2.2) false
def avQ (c:Int) (b:aG):Nat->Nat->Option Pt
 |0,_=>none
 |n+1,k=>cond (aEB (aEC c b k)) (some (aEC c b k).1) (avQ c b n (k+1))
def aHi (o:Option Pt):Pt×Int:=match o with
 |some p=>(p,0)
 |none=>(eJ,90)
def Lx (c i:Int) (b:aG):Pt×Int:=cond (ac c) (cond (decide (i<0)) (eJ,60) (cond (decide (2147483647<i)) (eJ,60) (aHi (avQ c (aA3 b i) 256 0)))) (eJ,40)
theorem J8 (b:aG) (i:Int):(aA3 b i).length=b.length+4:=by
 simp only [aA3,upto,bR,List.length_cons,List.length_nil]
abbrev aE9:Type:=jY
def aFS (p:Pt):aE9:=(p.1.w0,p.1.w1,p.1.w2,p.1.w3,p.2.1.w0,p.2.1.w1,p.2.1.w2,p.2.1.w3,p.2.2,())
def HX (s:cV):Bool:=decide (s.1.2.2.2.2.1=0/\s.2.2.1.length<=140737488351232)
def CX (s:cV):iU:=((s.1.1,(),(),()),s.2.1,aA3 s.2.2.1 s.1.2.1,())
theorem ak6:aY uR HX (MO CX):=by
 rintro ⟨⟨c,a,⟨⟩,⟨⟩,i,⟨⟩⟩,⟨z,b,⟨⟩⟩⟩ h
 have h':=bh h
 dsimp only at h'
 obtain ⟨rfl,hl⟩:=h'
 have:=(aW (T:=uR) (λi l=>(((c,a,(),(),(i:Int),()),z,l,()):cV)) (λk l=>l++ [i2b (aGb a (8*(k:Int)))])
  (λl=>(⟨(.exit 1,m8),((c,(),(),()),z,l,())⟩:aT)) 4 b (λk l=>l.length=b.length+k) rfl (λi l hi hl'=>⟨?_,by simp [hl'];omega⟩) (λl hl'=> ?_)).1
 ·obtain ⟨m,hm⟩:=this
  exact ⟨m,_,hm,rfl⟩
 ·refine (OT.ak (aj (by dsimp only;omega))).trans ((ae ?_).trans rfl)
  simp only [hl',ax,aA,aC,av]
  exact ⟨aL (by omega),aj (by omega),aj (by omega),aL (by omega)⟩
 ·exact OT.al (bn (by dsimp only;omega))
def HW (s:bC):Bool:=ac s.1.1&&decide (s.1.2.2.2.1=0/\0<s.2.2.1.length/\s.2.2.1.length<=140737488355000)
def uP (s:bC):gN:=(((),(aHi (avQ s.1.1 s.2.2.1 256 0)).2,()),aFS (aHi (avQ s.1.1 s.2.2.1 256 0)).1,())
def AA (s:bC):Bool:=(avQ s.1.1 s.2.2.1 256 0).isSome
def CW (s:bC):iT:=(((),()),s.2.1,())
def aHA (z:aE9) (o:Option Pt):aT:=match o with
 |some p=>⟨(.ret,gk),((((),(0:Int),()),aFS p,()):gN)⟩
 |none=>⟨(.exit 3,m7),((((),()),z,()):iT)⟩
theorem af5 {c:Int} {b:List UInt8} {z:aE9} (hs:ac c=true) (h0:0<b.length) (hl:b.length<=140737488355000):∀ (n k:Nat),n+k=256->∃ m,cx uQ m ((c,(),(),(k:Int),()),z,b,())=some (aHA z (avQ c b n k))
 |0,k,hk=>⟨1,aO (OT.al (bn (by dsimp only;omega)))⟩
 |n+1,k,hk=>by
  have ih:=af5 (z:=z) hs h0 hl n (k+1) (by omega)
  obtain ⟨m,hm⟩:=ih
  have hpre:∀ {α:Type} {x:OT α} {o:Option α},x.run=o->(gd [decide (0<b.length),decide ((b.length+1)*1<=140737488355328)&&decide (0<1),BG ((arS,64,b++ [i2b (k:Int)],()),())] x).run=o:=λhx=>by
   refine (ae ?_).trans hx
   simp only [ax,aA,aC,av]
   exact ⟨aj h0,⟨aj (by omega),rfl⟩,aj (by simp only [bR,List.length_cons,List.length_nil];omega)⟩
  have hgo:(gd [inR ((k:Int)+1)] (.ok (.inl ((c,(),(),(k:Int)+1,()),z,b,())):OT (Sum bC aT))).run=some (.inl ((c,(),(),((k+1:Nat):Int),()),z,b,())):=
   (ae (by simp only [ax,aA,aC];exact aL (by omega))).trans rfl
  have h1:decide ((k:Int)<256)=true:=aj (by omega)
  unfold avQ
  rcases (bX ((aEC c b k).2==(0:Int))).symm with hd|hd
  ·have e:aEB (aEC c b k)=false:=by unfold aEB;rw [hd];rfl
   rw [e]
   exact ⟨m+1,aS ((OT.ak h1).trans (hpre ((OT.ak hs).trans ((OT.ak hs).trans ((OT.al hd).trans hgo))))) hm⟩
  ·rcases (bX (!(aEC c b k).1.2.2)).symm with hq|hq
   ·have e:aEB (aEC c b k)=false:=by unfold aEB;rw [hd];exact hq
    rw [e]
    exact ⟨m+1,aS ((OT.ak h1).trans (hpre ((OT.ak hs).trans ((OT.ak hs).trans ((OT.ak hd).trans ((OT.al hq).trans hgo)))))) hm⟩
   ·have e:aEB (aEC c b k)=true:=by unfold aEB;rw [hd];exact hq
    rw [e]
    exact ⟨1,aO ((OT.ak h1).trans (hpre ((OT.ak hs).trans ((OT.ak hs).trans ((OT.ak hd).trans ((OT.ak hq).trans rfl))))))⟩
theorem ak5:aY uQ HW (CY uP AA CW):=by
 rintro ⟨⟨c,⟨⟩,⟨⟩,i,⟨⟩⟩,⟨z,b,⟨⟩⟩⟩ h
 obtain ⟨hs,h⟩:=(av _ _).mp h
 have h':=bh h
 dsimp only at h' hs
 obtain ⟨rfl,h0,hl⟩:=h'
 obtain ⟨m,hm⟩:=af5 (z:=z) hs h0 hl 256 0 rfl
 refine ⟨m,_,hm,?_⟩
 unfold CY uP AA CW
 dsimp only
 cases avQ c b 256 0 with
 |none=>rfl
 |some p=>rfl
def xE (x:AB):Bool:=decide (x.1.2.2.1.length<=140737488351232)
def UT (x:AB):OT kn.Y:=.ok ⟨iw,(((Lx x.1.1 x.1.2.1 x.1.2.2.1).1,(Lx x.1.1 x.1.2.1 x.1.2.2.1).2,()),())⟩
theorem ak4:aa ag 89 (kn.aw xE UT):=UR HX CX HW uP AA CW ak6 ak5 _ _ λx oy hp ho=>by
 rw [<-ho]
 clear ho
 obtain ⟨⟨c,i,b,⟨⟩⟩,⟨⟩⟩:=x
 have hl:b.length<=140737488351232:=bh hp
 show _=some (⟨iw,(((Lx c i b).1,(Lx c i b).2,()),())⟩:kn.Y)
 rcases (bX (ac c)).symm with hs|hs
 ·rw [show Lx c i b=(eJ,40) from by unfold Lx;rw [hs];rfl]
  exact OT.al hs
 refine (OT.ak hs).trans ?_
 rcases (bX (decide (i<0))).symm with h1|h1
 ·refine (OT.al h1).trans ?_
  rcases (bX (decide (2147483647<i))).symm with h2|h2
  ·rw [show Lx c i b=aHi (avQ c (aA3 b i) 256 0) from by unfold Lx;rw [hs,h1,h2];rfl]
   refine (OT.al h2).trans ((ae ?_).trans ?_)
   ·simp only [ax,aA,aC,av]
    refine ⟨aj (show b.length<=_ by omega),aj ⟨rfl,hl⟩,(av _ _).mpr ⟨hs,aj ⟨rfl,?_,?_⟩⟩⟩
    ·show 0<(aA3 b i).length
     rw [J8];omega
    ·show (aA3 b i).length<=_
     rw [J8];omega
   ·unfold AA uP CX
    dsimp only
    generalize avQ c (aA3 b i) 256 0=o
    cases o with
    |none=>rfl
    |some p=>rfl
  ·rw [show Lx c i b=(eJ,60) from by unfold Lx;rw [hs,h1,h2];rfl]
   exact OT.ak h2
 ·rw [show Lx c i b=(eJ,60) from by unfold Lx;rw [hs,h1];rfl]
  exact OT.ak h1
def su:bi:=(kn.aw xE UT)
theorem P6:aa ag 89 su:=ak4
theorem P5:au su:=aq
def YL:Env:=ap 89 su au7
theorem Lk:bI ag te YL:=aP follows B7 P6 P5
def aFT:CSh:=.cells [.val false .int,.val false .int,.val false (.list (.prod .elem (.prod .elem .bool))),.val false (.prod .elem (.prod .elem .bool)),.val false (.prod .elem (.prod .elem .bool))]
def akT:Shape:=⟨70,[ig,(1,aB),(2,iE),jx,Ek,(32,aB),(33,aB)],[(0,aFT),B0],0,true⟩
def UI:Shape:=⟨70,[ig,(1,aB),jx,Ek],[(0,aFT),B0],0,true⟩
abbrev pB:Type:=(Int×Int×aG×rv)×ain
abbrev PT:Type:=oK×(Int×Int×cB×cM×rp)×Unit
abbrev PU:Type:=(Int×kC)×ain
section
variable (ok0:pB->Bool) (g0_r:pB->PT) (c0_r:pB->Bool) (g0_0:pB->PU)
end
def anH (c:Int) (b:aG):Nat->Nat->List Pt->List Pt×Int
 |0,_,l=>(l,0)
 |n+1,i,l=>cond (!((Lx c (i:Int) b).2==(0:Int))) (l,(Lx c (i:Int) b).2) (anH c b n (i+1) (l++ [(Lx c (i:Int) b).1]))
def avL (k:Int):Nat:=(ab6 1 k).toNat
theorem aDC {k:Int} (h0:¬k<0) (h5:¬5<k):ab6 1 k=(avL k:Int)/\1<=avL k/\avL k<=32:=by
 have:k=0\/k=1\/k=2\/k=3\/k=4\/k=5:=by omega
 rcases this with rfl|rfl|rfl|rfl|rfl|rfl<;>decide
def aHv (c k:Int) (r:List Pt×Int):rG×Int:=cond (!(r.2==(0:Int))) (aa9,r.2) ((c,k,r.1.take (avL k),r.1.getD (avL k) eJ,r.1.getD (avL k+1) eJ),0)
def aah (c k:Int) (b:aG):rG×Int:=cond (ac c) (cond (decide (k<0)) (aa9,60) (cond (decide (5<k)) (aa9,60) (aHv c k (anH c b (avL k+2) 0 [])))) (aa9,40)
theorem afP {c:Int} {b:List UInt8}:∀ (n i:Nat) (l:List Pt),(!((anH c b n i l).2==(0:Int)))=false->(anH c b n i l).1.length=l.length+n
 |0,_,_,_=>rfl
 |n+1,i,l,h=>by
  unfold anH at h⊢
  cases hd: !((Lx c (i:Int) b).2==(0:Int))
  ·rw [hd,bo] at h
   rw [bo,afP n (i+1) _ h,bR]
   simp only [List.length_cons,List.length_nil]
   omega
  ·rw [hd] at h
   exact absurd (hd.symm.trans h) (by decide)
abbrev aIs:Type:=Int×Int×List Pt×Pt×Pt×Unit
def wT:af:=⟨oQ,mM,false,2,true⟩
abbrev Tb:Type:=bQ×Fq
def O5:aH:=⟨jz,mM,false⟩
def aoq (c0_0:Int) (c0_2:aG) (c1_0:Int) (c1_1:az):OT wT.Y:=
 let z0:mI:=ay c1_1
 let z1:=z0.snd
 (gd [uy (((),()),(c1_0,c1_1,()),())] (.ok ⟨O5,((fp (pS c1_0) z0.fst {w0:=0,w1:=0,w2:=0,w3:=0},z1.fst,()),(c0_0,(),c0_2,()),(c1_0,z1.snd,()),())⟩))
theorem aj6 (pre:Tb->Bool) (F:Tb->OT wT.Y) (hF:∀ (x:Tb) oy,pre x=true->(F x).run=some oy->(aoq x.2.1.1 x.2.1.2.2.1 x.2.2.1.1 x.2.2.1.2.1).run=some oy):aa ag 65 (wT.aw pre F):=
 cC Lk 65 Tryz.f65 wT [O5] bw (λx=>aoq x.2.1.1 x.2.1.2.2.1 x.2.2.1.1 x.2.2.1.2.1) hF
def rK (x:Tb):Bool:=ac x.2.2.1.1&&decide (x.2.2.1.2.1.length<=140737488355328)
def aor (x:Tb):OT wT.Y:=.ok ⟨O5,((fp (pS x.2.2.1.1) (ay x.2.2.1.2.1).1 ⟨0,0,0,0⟩,(ay x.2.2.1.2.1).2.1,()),(x.2.1.1,(),x.2.1.2.2.1,()),(x.2.2.1.1,(ay x.2.2.1.2.1).2.2,()),())⟩
theorem av2:aa ag 65 (wT.aw rK aor):=aj6 _ _ λx oy hp ho=>by
 rw [<-ho]
 clear ho
 obtain ⟨⟨⟨⟩,⟨⟩⟩,⟨⟨c,⟨⟩,b,⟨⟩⟩,⟨s,l,⟨⟩⟩,⟨⟩⟩⟩:=x
 refine (ae ?_).trans rfl
 simp only [ax,aA,aC]
 exact hp
def Cr:bi:=(wT.aw rK aor)
theorem ZI:aa ag 65 Cr:=av2
theorem ZH:au Cr:=aq
def Cm:bi:=(ank 0 2 DC Cr)
theorem Zv:aa ag 65 Cm:=(ahM acv ZI)
theorem Zu:au Cm:=(N4 acu ZH)
def auW:Env:=ap 65 Cm YL
theorem YA:bI ag te auW:=aP follows Lk Zv Zu
def o7:af:=⟨oQ,mM,false,2,true⟩
abbrev G7:Type:=bQ×Fq
def G6:aH:=⟨ic,mM,false⟩
def aeI (c0_0:Int) (c0_2:aG) (c1_0:Int) (c1_1:az):OT o7.Y:=
 (.ok ⟨G6,((c0_0,()),(c0_0,(),c0_2,()),(c1_0,c1_1,()),())⟩)
theorem ZC (pre:G7->Bool) (F:G7->OT o7.Y) (hF:∀ (x:G7) oy,pre x=true->(F x).run=some oy->(aeI x.2.1.1 x.2.1.2.2.1 x.2.2.1.1 x.2.2.1.2.1).run=some oy):aa ag 59 (o7.aw pre F):=
 cC YA 59 Tryz.f59 o7 [G6] bw (λx=>aeI x.2.1.1 x.2.1.2.2.1 x.2.2.1.1 x.2.2.1.2.1) hF
def Mn (_:G7):Bool:=true
def aeJ (x:G7):OT o7.Y:=.ok ⟨G6,((x.2.1.1,()),x.2)⟩
theorem aol:aa ag 59 (o7.aw Mn aeJ):=ZC _ _ λx oy hp ho=>by
 rw [<-ho]
 rfl
def wP:bi:=(o7.aw Mn aeJ)
theorem S5:aa ag 59 wP:=aol
theorem S4:au wP:=aq
def wN:bi:=(ank 0 2 yG wP)
theorem S1:aa ag 59 wN:=(ahM Wi S5)
theorem SZ:au wN:=(N4 Wh S4)
def aiI:Env:=ap 59 wN auW
theorem anB:bI ag te aiI:=aP follows YA S1 SZ
abbrev NK:af:=gz
def aA4 (s:Int) (b:aG):ab×Int:=cond (ac s) (cond (nS b) (cond (Nat.blt (Vb b).nat (pS s)) (Vb b,0) (⟨0,0,0,0⟩,21)) (⟨0,0,0,0⟩,21)) (⟨0,0,0,0⟩,20)
def Fa (_:qB):Bool:=true
def DV (x:qB):OT gz.Y:=.ok ⟨dj,(((aA4 x.1.1 x.1.2.1).1,(aA4 x.1.1 x.1.2.1).2,()),())⟩
theorem ac7:aa ag 122 (NK.aw Fa DV):=cw (S:=gz) NL λx oy hp ho=>⟨rfl,by
 rw [<-ho]
 unfold J0 DV aA4
 generalize Vb x.1.2.1=N
 generalize ac x.1.1=a
 generalize nS x.1.2.1=b
 generalize Nat.blt N.nat (pS x.1.1)=d
 cases a<;>cases b<;>cases d<;>rfl⟩
def qA:bi:=(NK.aw Fa DV)
theorem LZ:aa ag 122 qA:=ac7
theorem LY:au qA:=aq
def OG:Env:=ap 122 qA aiI
theorem Fy:bI ag te OG:=aP follows anB LZ LY
def EC:af:=⟨[dW,Yp,.fn 115 [],aB],mM,false,2,true⟩
abbrev aok:Type:=(Unit×UInt8×oK)×Fq
def Cp:aH:=⟨K8,mM,false⟩
def aeH (a1:UInt8) (a3:Int) (c0_0:Int) (c0_2:aG) (c1_0:Int) (c1_1:az):OT EC.Y:=
 let z0:Nat:=List.length c0_2
 let z1:Int:=(↑z0:Int)
 let z2:ab:= {w0:=0,w1:=0,w2:=0,w3:=0}
 let z3:cM:=(z2,z2,false)
 let z4:Bool:=cj (0:Int) (32:Int) z0
 let z5:BP:=aht a3 (List.drop 0 (List.take 32 c0_2))
 let z6:=z5.snd
 (.br (decide (z1<(32:Int)))
 (.ok ⟨Cp,((z3,(82:Int),()),(c0_0,(),c0_2,()),(c1_0,c1_1,()),())⟩)
 (gd [z4] (.br (!z6==(0:Int))
  (.ok ⟨Cp,((z3,z6,()),(c0_0,(),c0_2,()),(c1_0,c1_1,()),())⟩)
  (gd [z4,cj (32:Int) z1 z0] (.ok ⟨Cp,((z5.fst,(0:Int),()),(c0_0,(),List.drop 32 c0_2,()),(c1_0,c1_1,()),())⟩)))))
theorem aoj (pre:aok->Bool) (F:aok->OT EC.Y) (hF:∀ (x:aok) oy,pre x=true->(F x).run=some oy->(aeH x.1.2.1 x.1.2.2.2.1 x.2.1.1 x.2.1.2.2.1 x.2.2.1.1 x.2.2.1.2.1).run=some oy):aa ag 114 (EC.aw pre F):=
 cC Fy 114 Tryz.f114 EC [Cp] bw (λx=>aeH x.1.2.1 x.1.2.2.2.1 x.2.1.1 x.2.1.2.2.1 x.2.2.1.1 x.2.2.1.2.1) hF
def dw (s:Int) (b:aG):(Pt×Int)×List UInt8:=cond (decide ((b.length:Int)<32)) ((eJ,82),b) (cond (!((aht s (b.take 32)).2==(0:Int))) ((eJ,(aht s (b.take 32)).2),b) (((aht s (b.take 32)).1,0),b.drop 32))
def aeG (_:aok):Bool:=true
def aAc (x:aok):OT EC.Y:=.ok ⟨Cp,(((dw x.1.2.2.2.1 x.2.1.2.2.1).1.1,(dw x.1.2.2.2.1 x.2.1.2.2.1).1.2,()),(x.2.1.1,(),(dw x.1.2.2.2.1 x.2.1.2.2.1).2,()),(x.2.2.1.1,x.2.2.1.2.1,()),())⟩
theorem aCB:aa ag 114 (EC.aw aeG aAc):=aoj _ _ λx oy hp ho=>by
 rw [<-ho]
 clear ho
 obtain ⟨⟨⟨⟩,m,⟨⟩,s,⟨⟩⟩,⟨⟨c,⟨⟩,b,⟨⟩⟩,⟨q,l,⟨⟩⟩,⟨⟩⟩⟩:=x
 show (aeH m s c b q l).run=some (⟨Cp,(((dw s b).1.1,(dw s b).1.2,()),(c,(),(dw s b).2,()),(q,l,()),())⟩:EC.Y)
 unfold aeH dw
 dsimp only
 rw [List.drop_zero]
 generalize aht s (b.take 32)=d
 by_cases h1:(b.length:Int)<32
 ·rw [aj h1]
  exact OT.ak rfl
 ·rw [bn h1]
  have b1:cj 0 32 b.length=true:=cA (by omega)
  have b2:cj 32 (b.length:Int) b.length=true:=cA (by omega)
  rw [b1,b2]
  refine (OT.al rfl).trans ((ae rfl).trans ?_)
  rcases (bX (!(d.2==(0:Int)))).symm with h2|h2
  ·rw [h2]
   exact (OT.al rfl).trans ((ae rfl).trans rfl)
  ·rw [h2]
   exact (OT.ak rfl).trans rfl
def G5:bi:=(EC.aw aeG aAc)
theorem aj4:aa ag 114 G5:=aCB
theorem aj3:au G5:=aq
def GX:bi:=G5
theorem ajS:aa ag 114 GX:=aj4
theorem ajR:au GX:=aj3
def aBP:Env:=ap 114 GX OG
theorem aiH:bI ag te aBP:=aP follows Fy ajS ajR
def EB:af:=⟨[dW,Yp,.fn 122 [],aB],mM,false,2,true⟩
abbrev aoi:Type:=(Unit×UInt8×oK)×Fq
def Co:aH:=⟨jz,mM,false⟩
def aeF (a1:UInt8) (a3:Int) (c0_0:Int) (c0_2:aG) (c1_0:Int) (c1_1:az):OT EB.Y:=
 let z0:Nat:=List.length c0_2
 let z1:Int:=(↑z0:Int)
 let z2:ab:= {w0:=0,w1:=0,w2:=0,w3:=0}
 let z3:Bool:=cj (0:Int) (32:Int) z0
 let z4:ab×Int:=aA4 a3 (List.drop 0 (List.take 32 c0_2))
 let z5:=z4.snd
 (.br (decide (z1<(32:Int)))
 (.ok ⟨Co,((z2,(82:Int),()),(c0_0,(),c0_2,()),(c1_0,c1_1,()),())⟩)
 (gd [z3] (.br (!z5==(0:Int))
  (.ok ⟨Co,((z2,z5,()),(c0_0,(),c0_2,()),(c1_0,c1_1,()),())⟩)
  (gd [z3,cj (32:Int) z1 z0] (.ok ⟨Co,((z4.fst,(0:Int),()),(c0_0,(),List.drop 32 c0_2,()),(c1_0,c1_1,()),())⟩)))))
theorem aoh (pre:aoi->Bool) (F:aoi->OT EB.Y) (hF:∀ (x:aoi) oy,pre x=true->(F x).run=some oy->(aeF x.1.2.1 x.1.2.2.2.1 x.2.1.1 x.2.1.2.2.1 x.2.2.1.1 x.2.2.1.2.1).run=some oy):aa ag 121 (EB.aw pre F):=
 cC aiH 121 Tryz.f121 EB [Co] bw (λx=>aeF x.1.2.1 x.1.2.2.2.1 x.2.1.1 x.2.1.2.2.1 x.2.2.1.1 x.2.2.1.2.1) hF
def dR (s:Int) (b:aG):(ab×Int)×aG:=cond (decide ((b.length:Int)<32)) ((⟨0,0,0,0⟩,82),b) (cond (!((aA4 s (b.take 32)).2==(0:Int))) ((⟨0,0,0,0⟩,(aA4 s (b.take 32)).2),b) (((aA4 s (b.take 32)).1,0),b.drop 32))
def aeE (_:aoi):Bool:=true
def aAb (x:aoi):OT EB.Y:=.ok ⟨Co,(((dR x.1.2.2.2.1 x.2.1.2.2.1).1.1,(dR x.1.2.2.2.1 x.2.1.2.2.1).1.2,()),(x.2.1.1,(),(dR x.1.2.2.2.1 x.2.1.2.2.1).2,()),(x.2.2.1.1,x.2.2.1.2.1,()),())⟩
theorem aCA:aa ag 121 (EB.aw aeE aAb):=aoh _ _ λx oy hp ho=>by
 rw [<-ho]
 clear ho
 obtain ⟨⟨⟨⟩,m,⟨⟩,s,⟨⟩⟩,⟨⟨c,⟨⟩,b,⟨⟩⟩,⟨q,l,⟨⟩⟩,⟨⟩⟩⟩:=x
 show (aeF m s c b q l).run=some (⟨Co,(((dR s b).1.1,(dR s b).1.2,()),(c,(),(dR s b).2,()),(q,l,()),())⟩:EB.Y)
 unfold aeF dR
 dsimp only
 rw [List.drop_zero]
 generalize aA4 s (b.take 32)=d
 by_cases h1:(b.length:Int)<32
 ·rw [aj h1]
  exact OT.ak rfl
 ·rw [bn h1]
  have b1:cj 0 32 b.length=true:=cA (by omega)
  have b2:cj 32 (b.length:Int) b.length=true:=cA (by omega)
  rw [b1,b2]
  refine (OT.al rfl).trans ((ae rfl).trans ?_)
  rcases (bX (!(d.2==(0:Int)))).symm with h2|h2
  ·rw [h2]
   exact (OT.al rfl).trans ((ae rfl).trans rfl)
  ·rw [h2]
   exact (OT.ak rfl).trans rfl
def G4:bi:=(EB.aw aeE aAb)
theorem aj2:aa ag 121 G4:=aCA
theorem aj1:au G4:=aq
def GW:bi:=G4
theorem ajQ:aa ag 121 GW:=aj2
theorem ajP:au GW:=aj1
def aBO:Env:=ap 121 GW aBP
theorem aiG:bI ag te aBO:=aP follows aiH ajQ ajP
def G2:af:=⟨oQ,mM,false,2,true⟩
abbrev aoe:Type:=bQ×Fq
def Zx:aH:=⟨K8,mM,false⟩
def az9 (c0_0:Int) (c0_2:aG) (c1_0:Int) (c1_1:az):OT G2.Y:=
 let z0:BP×aG:=dw c0_0 c0_2
 let z1:=z0.fst
 (.ok ⟨Zx,((z1.fst,z1.snd,()),(c0_0,(),z0.snd,()),(c1_0,c1_1,()),())⟩)
theorem aod (pre:aoe->Bool) (F:aoe->OT G2.Y) (hF:∀ (x:aoe) oy,pre x=true->(F x).run=some oy->(az9 x.2.1.1 x.2.1.2.2.1 x.2.2.1.1 x.2.2.1.2.1).run=some oy):aa ag 63 (G2.aw pre F):=
 cC aiG 63 Tryz.f63 G2 [Zx] bw (λx=>az9 x.2.1.1 x.2.1.2.2.1 x.2.2.1.1 x.2.2.1.2.1) hF
def aeB (_:aoe):Bool:=true
def aAa (x:aoe):OT G2.Y:=.ok ⟨Zx,(((dw x.2.1.1 x.2.1.2.2.1).1.1,(dw x.2.1.1 x.2.1.2.2.1).1.2,()),(x.2.1.1,(),(dw x.2.1.1 x.2.1.2.2.1).2,()),(x.2.2.1.1,x.2.2.1.2.1,()),())⟩
theorem aCy:aa ag 63 (G2.aw aeB aAa):=aod _ _ λx oy hp ho=>by
 rw [<-ho]
 rfl
def G1:bi:=(G2.aw aeB aAa)
theorem ajW:aa ag 63 G1:=aCy
theorem ajV:au G1:=aq
def GV:bi:=G1
theorem ajO:aa ag 63 GV:=ajW
theorem ajN:au GV:=ajV
def aBN:Env:=ap 63 GV aBO
theorem aiF:bI ag te aBN:=aP follows aiG ajO ajN
def G0:af:=⟨oQ,mM,false,2,true⟩
abbrev aoc:Type:=bQ×Fq
def Zw:aH:=⟨jz,mM,false⟩
def az7 (c0_0:Int) (c0_2:aG) (c1_0:Int) (c1_1:az):OT G0.Y:=
 let z0:(ab×Int)×aG:=dR (bm c0_0 (1:Int)) c0_2
 let z1:=z0.fst
 (.ok ⟨Zw,((z1.fst,z1.snd,()),(c0_0,(),z0.snd,()),(c1_0,c1_1,()),())⟩)
theorem aob (pre:aoc->Bool) (F:aoc->OT G0.Y) (hF:∀ (x:aoc) oy,pre x=true->(F x).run=some oy->(az7 x.2.1.1 x.2.1.2.2.1 x.2.2.1.1 x.2.2.1.2.1).run=some oy):aa ag 71 (G0.aw pre F):=
 cC aiF 71 Tryz.f71 G0 [Zw] bw (λx=>az7 x.2.1.1 x.2.1.2.2.1 x.2.2.1.1 x.2.2.1.2.1) hF
def aeA (_:aoc):Bool:=true
def az8 (x:aoc):OT G0.Y:=.ok ⟨Zw,(((dR (bm x.2.1.1 1) x.2.1.2.2.1).1.1,(dR (bm x.2.1.1 1) x.2.1.2.2.1).1.2,()),(x.2.1.1,(),(dR (bm x.2.1.1 1) x.2.1.2.2.1).2,()),(x.2.2.1.1,x.2.2.1.2.1,()),())⟩
theorem aCx:aa ag 71 (G0.aw aeA az8):=aob _ _ λx oy hp ho=>by
 rw [<-ho]
 rfl
def GZ:bi:=(G0.aw aeA az8)
theorem ajU:aa ag 71 GZ:=aCx
theorem ajT:au GZ:=aq
def GU:bi:=GZ
theorem ajM:aa ag 71 GU:=ajU
theorem ajL:au GU:=ajT
def aBM:Env:=ap 71 GU aBN
theorem aiE:bI ag te aBM:=aP follows aiF ajM ajL
def wO:af:=⟨oQ,mM,false,2,true⟩
abbrev S3:Type:=bQ×Fq
def O3:aH:=⟨ic,mM,false⟩
def aof (c0_0:Int) (c0_2:aG) (c1_0:Int) (c1_1:az):OT wO.Y:=
 (.ok ⟨O3,(((↑(List.length c0_2):Int),()),(c0_0,(),c0_2,()),(c1_0,c1_1,()),())⟩)
theorem ajX (pre:S3->Bool) (F:S3->OT wO.Y) (hF:∀ (x:S3) oy,pre x=true->(F x).run=some oy->(aof x.2.1.1 x.2.1.2.2.1 x.2.2.1.1 x.2.2.1.2.1).run=some oy):aa ag 24 (wO.aw pre F):=
 cC aiE 24 Tryz.f24 wO [O3] bw (λx=>aof x.2.1.1 x.2.1.2.2.1 x.2.2.1.1 x.2.2.1.2.1) hF
def S2 (_:S3):Bool:=true
def aog (x:S3):OT wO.Y:=.ok ⟨O3,(((x.2.1.2.2.1.length:Int),()),x.2)⟩
theorem av0:aa ag 24 (wO.aw S2 aog):=ajX _ _ λx oy hp ho=>by
 rw [<-ho]
 rfl
def Cn:bi:=(wO.aw S2 aog)
theorem Zz:aa ag 24 Cn:=av0
theorem Zy:au Cn:=aq
def Cl:bi:=Cn
theorem Zt:aa ag 24 Cl:=Zz
theorem Zr:au Cl:=Zy
def auV:Env:=ap 24 Cl aBM
theorem B5:bI ag te auV:=aP follows aiE Zt Zr
def pc:af:=⟨[aB,Yv,iE],[],true,0,false⟩
abbrev Hf:Type:=(Int×wE×df)×Unit
def FR:aH:=⟨Ft,auQ,false⟩
def Pe:aH:=⟨Ft,aBC,false⟩
def FQ:aH:=⟨[.rI,aB],[],false⟩
def aeQ:aH:=⟨Ft,[(0,.cells [aB,.fh,mL]),nD],false⟩
def ZQ (a0:Int) (a1:wE) (a2:aG):OT pc.Y:=
 let z0:Int:=ci a0 a1.fst (List.length a1.snd)
 let z1:Bool:=fe ((a2,()),())
 let z2:Int:=bm a0 (1:Int)
 (.br (z0==(0:Int))
 (.br (a1.fst==(1:Int))
  (gd [z1] (.ok ⟨FR,(((),(0:Int),()),(a0,(),(),()),(z2,(),()),a2,a1.snd,())⟩))
  (gd [z1] (.ok ⟨Pe,(((),(0:Int),()),(a0,(),(),()),(z2,(),()),a2,((64:Int),(7640891576939301192:UInt64),(13503953896175478587:UInt64),(4354685564936845355:UInt64),(11912009170470909681:UInt64),(5840696475078001361:UInt64),(11170449401992604703:UInt64),(7924071207369364504:UInt64),(3427420097777323800:UInt64),(),(0:UInt64),()),[],())⟩)))
 (.br (!z0==(0:Int))
  (.ok ⟨FQ,(((),z0,()),())⟩)
  (gd [z1] (.ok ⟨aeQ,(((),(0:Int),()),(a0,(),(),()),a2,())⟩))))
theorem akd (pre:Hf->Bool) (F:Hf->OT pc.Y) (hF:∀ (x:Hf) oy,pre x=true->(F x).run=some oy->(ZQ x.1.1 x.1.2.1 x.1.2.2.1).run=some oy):aa ag 15 (pc.aw pre F):=
 cC B5 15 Tryz.f15 pc [FR,Pe,FQ,aeQ] bw (λx=>ZQ x.1.1 x.1.2.1 x.1.2.2.1) hF
def aoB (x:Hf):Bool:=decide (x.1.2.2.1.length<=140737488355328)
def ZR (x:Hf):OT pc.Y:=.br (ci x.1.1 x.1.2.1.1 x.1.2.1.2.length==0)
 (.br (x.1.2.1.1==1) (.ok ⟨FR,(((),(0:Int),()),(x.1.1,(),(),()),(bm x.1.1 1,(),()),x.1.2.2.1,x.1.2.1.2,())⟩)
  (.ok ⟨Pe,(((),(0:Int),()),(x.1.1,(),(),()),(bm x.1.1 1,(),()),x.1.2.2.1,Pk,[],())⟩))
 (.ok ⟨FQ,(((),ci x.1.1 x.1.2.1.1 x.1.2.1.2.length,()),())⟩)
theorem av6:aa ag 15 (pc.aw aoB ZR):=akd _ _ λx oy hp ho=>by
 rw [<-ho]
 clear ho
 obtain ⟨⟨c,⟨mode,l⟩,b,⟨⟩⟩,⟨⟩⟩:=x
 have hb:fe ((b,()),())=true:=hp
 unfold ZQ ZR
 dsimp only
 rw [hb]
 by_cases he:(ci c mode l.length==0)=true
 ·refine (OT.ak he).trans (Eq.trans ?_ (OT.ak he).symm)
  by_cases hm:(mode==1)=true
  ·exact (OT.ak hm).trans ((ae rfl).trans (OT.ak hm).symm)
  ·have hm:=Bool.eq_false_iff.2 hm
   exact (OT.al hm).trans ((ae rfl).trans (OT.al hm).symm)
 ·have he:=Bool.eq_false_iff.2 he
  exact (OT.al he).trans ((OT.ak (by show (!(ci c mode l.length==0))=true;rw [he];rfl)).trans (OT.al he).symm)
def kj:af:=⟨[aB,aB,iE],[],false,0,false⟩
def gK:aH:=⟨[.mix (.prod .int .int) 0 (.prod B4 B4),aB],[(0,.row B4)],false⟩
def aaP:SV->Option aH:=λ_=>some gK
def aHB:CSh:=.cells [.val false .int,.val false .int,.own 1,.val false (.prod .elem (.prod .elem .bool)),.val false (.prod .elem (.prod .elem .bool))]
def akP:Shape:=akT
def ki:Shape:=⟨70,[jx,ry],[(0,aHB),B0],0,true⟩
def m4:Shape:=UI
abbrev Av:Type:=(Int×Int×df)×Unit
abbrev bT:Type:=(Int×Int×aG×rv)×ain
abbrev gL:Type:=oK×(Int×Int×Unit×cM×rp)×K1
abbrev iR:Type:=(Int×kC)×ain
def akS (a0:Int) (a1:Int) (a2:aG) (a32:Int) (a33:Int) (c0_0:Int) (c0_1:Int) (c0_2:cB) (c0_3:cM) (c0_4:cM) (c1:cB):OT (Sum bT aT):=
 let z0:BP:=Lx a0 a33 a2
 let z1:=z0.snd
 let z2:ab:= {w0:=0,w1:=0,w2:=0,w3:=0}
 let z3:cM:=(z2,z2,false)
 (.br (decide (a33<a32))
 (gd [xE ((a0,a33,a2,()),())] (.br (!z1==(0:Int))
  (.ok (.inr ⟨(.ret,ki),(((),z1,()),((0:Int),(0:Int),(),z3,z3,()),[],())⟩))
  (gd [decide ((List.length c1+1)*72<=140737488355328),inR (a33+(1:Int))] (.ok (.inl ((a0,a1,a2,(),(),a32,a33+(1:Int),()),(c0_0,c0_1,c0_2,c0_3,c0_4,()),c1++ [z0.fst],()))))))
 (.ok (.inr ⟨(.exit 0,m4),((a0,a1,(),(),()),(c0_0,c0_1,c0_2,c0_3,c0_4,()),c1,())⟩)))
def n7 (s:bT):OT (Sum bT aT):=akS s.1.1 s.1.2.1 s.1.2.2.1 s.1.2.2.2.2.2.1 s.1.2.2.2.2.2.2.1 s.2.1.1 s.2.1.2.1 s.2.1.2.2.1 s.2.1.2.2.2.1 s.2.1.2.2.2.2.1 s.2.2.1
def CR (g0_r:bT->gL) (c0_r:bT->Bool) (g0_0:bT->iR) (s:bT):OT aT:=(.br (c0_r s) (.ok ⟨(.ret,ki),g0_r s⟩) (.ok ⟨(.exit 0,m4),g0_0 s⟩))
section
variable (ok0:bT->Bool) (g0_r:bT->gL) (c0_r:bT->Bool) (g0_0:bT->iR)
def UG (a0:Int) (a1:Int) (a2:aG):OT kj.Y:=
 let z0:Int×Int:=((0:Int),(0:Int))
 let z1:ab:= {w0:=0,w1:=0,w2:=0,w3:=0}
 let z2:cM:=(z1,z1,false)
 let z3:cM×cM:=(z2,z2)
 let z4:bT:=((a0,a1,a2,(),(),ab6 (1:Int) a1+(2:Int),(0:Int),()),((0:Int),(0:Int),[],z2,z2,()),[],())
 let z5:gL:=g0_r z4
 let z6:=z5.snd
 let z7:=z6.fst
 let z8:=z7.snd
 let z9:=z8.snd.snd
 let z10:iR:=g0_0 z4
 let z11:=z10.fst
 let z12:=z11.snd.fst
 let z13:Int:=ab6 (1:Int) z12
 let z14:Bool:=decide (z13=(0:Int))
 let z15:=z10.snd.snd.fst
 let z16:Nat:=List.length z15
 let z17:Bool:=inB z13 z16
 let z18:Nat:=Int.toNat z13
 let z19:Bool:=decide (z18<z16)
 let z20:Bool:=inR (z13+(1:Int))
 let z21:Bool:=inB (z13+(1:Int)) z16
 let z22:Nat:=Int.toNat (z13+(1:Int))
 let z23:Bool:=decide (z22<z16)
 let z24:Int×Int:=(z11.fst,z12)
 let z25:cM×cM:=(List.getD z15 z18 z2,List.getD z15 z22 z2)
 let z26:Int:=(↑z16:Int)
 let z27:Bool:=decide (z13=z26)
 (.br (ac a0)
 (.br (decide (a1<(0:Int)))
  (.ok ⟨gK,(((z0,(),z3),(60:Int),()),[],())⟩)
  (.br (decide ((5:Int)<a1))
   (.ok ⟨gK,(((z0,(),z3),(60:Int),()),[],())⟩)
   (gd [decide ((0:Int)<=a1),inR (ab6 (1:Int) a1+(2:Int)),ok0 z4] (.br (c0_r z4)
    (.ok ⟨gK,((((z7.fst,z8.fst),(),z9.fst,z9.snd.fst),z5.fst.snd.fst,()),z6.snd.fst,())⟩)
    (gd [decide ((0:Int)<=z12)] (.br (z14&&z14)
     (gd [z17,z19,z20,z21,z23] (.ok ⟨gK,(((z24,(),z25),(0:Int),()),[],())⟩))
     (.br (z27&&z27)
      (gd [z17,z19,z20,z21,z23] .fail)
      (gd [decide ((0:Int)<=z13)&&decide (z13<=z13)&&decide (z13<=z26),z17,z19,z20,z21,z23,Nat.ble z18 z16] (.ok ⟨gK,(((z24,(),z25),(0:Int),()),List.take z18 z15,())⟩)))))))))
 (.ok ⟨gK,(((z0,(),z3),(40:Int),()),[],())⟩))
theorem UF (h0:aY n7 ok0 (CR g0_r c0_r g0_0)) (pre:Av->Bool) (F:Av->OT kj.Y) (hF:∀ (x:Av) oy,pre x=true->(F x).run=some oy->(UG ok0 g0_r c0_r g0_0 x.1.1 x.1.2.1 x.1.2.2.1).run=some oy):aa ag 33 (kj.aw pre F):=
 aIC B5 33 Tryz.f33 kj aaP (js B5 0 akP [(0,m4)] (some ki) none n7 bw h0 bw) (λx=>UG ok0 g0_r c0_r g0_0 x.1.1 x.1.2.1 x.1.2.2.1) hF
end
def HR (s:bT):Bool:=decide (s.1.2.2.2.2.2.2.1=0/\0<=s.1.2.2.2.2.2.1/\s.1.2.2.2.2.2.1<=34/\s.2.2.1= []/\s.1.2.2.1.length<=140737488351232)
def sj (s:bT):List Pt×Int:=anH s.1.1 s.1.2.2.1 s.1.2.2.2.2.2.1.toNat 0 []
def uL (s:bT):gL:=(((),(sj s).2,()),(0,0,(),eJ,eJ,()),[],())
def Au (s:bT):Bool:= !((sj s).2==(0:Int))
def uM (s:bT):iR:=((s.1.1,s.1.2.1,(),(),()),s.2.1,(sj s).1,())
def aDc (c k:Int) (p:aIs) (r:List Pt×Int):aT:=cond (!(r.2==(0:Int))) ⟨(.ret,ki),((((),r.2,()),(0,0,(),eJ,eJ,()),[],()):gL)⟩ ⟨(.exit 0,m4),(((c,k,(),(),()),p,r.1,()):iR)⟩
theorem afN {c k:Int} {b:List UInt8} {p:aIs} {N:Nat} (hN:N<=34) (hl:b.length<=140737488351232):∀ (n i:Nat) (l:List Pt),i+n=N->l.length=i->∃ m,cx n7 m ((c,k,b,(),(),(N:Int),(i:Int),()),p,l,())=some (aDc c k p (anH c b n i l))
 |0,i,l,hi,_=>⟨1,aO (OT.al (bn (by dsimp only;omega)))⟩
 |n+1,i,l,hi,hk=>by
  have hstep:(n7 ((c,k,b,(),(),(N:Int),(i:Int),()),p,l,())).run=(OT.br (!((Lx c (i:Int) b).2==(0:Int))) (.ok (.inr ⟨(.ret,ki),((((),(Lx c (i:Int) b).2,()),(0,0,(),eJ,eJ,()),[],()):gL)⟩))
   (gd [decide ((l.length+1)*72<=140737488355328),inR ((i:Int)+1)] (.ok (.inl ((c,k,b,(),(),(N:Int),(i:Int)+1,()),p,l++ [(Lx c (i:Int) b).1],())))):OT (Sum bT aT)).run:=
   (OT.ak (aj (by dsimp only;omega))).trans ((ae (by simp only [ax,aA,aC];exact aj hl)).trans rfl)
  unfold anH
  cases hd: !((Lx c (i:Int) b).2==(0:Int))
  ·obtain ⟨m,hm⟩:=afN (c:=c) (k:=k) (p:=p) hN hl n (i+1) (l++ [(Lx c (i:Int) b).1]) (by omega) (by rw [bR];simp only [List.length_cons,List.length_nil];omega)
   refine ⟨m+1,aS (hstep.trans ((OT.al hd).trans ((ae ?_).trans rfl))) hm⟩
   simp only [ax,aA,aC,av]
   exact ⟨aj (by omega),aL (by omega)⟩
  ·refine ⟨1,aO (hstep.trans ((OT.ak hd).trans ?_))⟩
   unfold aDc
   rw [aV]
   dsimp only
   rw [hd]
   rfl
theorem akR:aY n7 HR (CR uL Au uM):=by
 rintro ⟨⟨c,k,b,⟨⟩,⟨⟩,n,i,⟨⟩⟩,⟨p,l,⟨⟩⟩⟩ h
 have h':=bh h
 dsimp only at h'
 obtain ⟨rfl,h0,h1,rfl,hl⟩:=h'
 obtain ⟨N,rfl⟩:∃ N:Nat,n=(N:Int):=⟨n.toNat,by omega⟩
 obtain ⟨m,hm⟩:=afN (c:=c) (k:=k) (p:=p) (N:=N) (by omega) hl N 0 [] (by omega) rfl
 refine ⟨m,_,hm,?_⟩
 have e:sj ((c,k,b,(),(),(N:Int),0,()),p,[],())=anH c b N 0 []:=rfl
 unfold CR Au uL uM aDc
 rw [e]
 generalize anH c b N 0 []=r
 cases hd: !(r.2==(0:Int))
 ·rfl
 ·rfl
def HQ (x:Av):Bool:=decide (x.1.2.2.1.length<=140737488351232)
def aHt (p:rG×Int):kj.Y:=⟨gK,((((p.1.1,p.1.2.1),(),p.1.2.2.2.1,p.1.2.2.2.2),p.2,()),p.1.2.2.1,())⟩
def UH (x:Av):OT kj.Y:=.ok ⟨gK,(((((aah x.1.1 x.1.2.1 x.1.2.2.1).1.1,(aah x.1.1 x.1.2.1 x.1.2.2.1).1.2.1),(),(aah x.1.1 x.1.2.1 x.1.2.2.1).1.2.2.2.1,(aah x.1.1 x.1.2.1 x.1.2.2.1).1.2.2.2.2),(aah x.1.1 x.1.2.1 x.1.2.2.1).2,()),(aah x.1.1 x.1.2.1 x.1.2.2.1).1.2.2.1,())⟩
theorem akQ:aa ag 33 (kj.aw HQ UH):=UF HR uL Au uM akR _ _ λx oy hp ho=>by
 rw [<-ho]
 clear ho
 obtain ⟨⟨c,k,b,⟨⟩⟩,⟨⟩⟩:=x
 have hl:b.length<=140737488351232:=bh hp
 show _=some (aHt (aah c k b))
 rcases (bX (ac c)).symm with hs|hs
 ·rw [show aah c k b=(aa9,40) from by unfold aah;rw [hs];rfl]
  exact OT.al hs
 refine (OT.ak hs).trans ?_
 by_cases h0:k<0
 ·rw [show aah c k b=(aa9,60) from by unfold aah;rw [hs,aj h0];rfl]
  exact OT.ak (aj h0)
 refine (OT.al (bn h0)).trans ?_
 by_cases h5:5<k
 ·rw [show aah c k b=(aa9,60) from by unfold aah;rw [hs,bn h0,aj h5];rfl]
  exact OT.ak (aj h5)
 rw [show aah c k b=aHv c k (anH c b (avL k+2) 0 []) from by unfold aah;rw [hs,bn h0,bn h5];rfl]
 obtain ⟨hN,hn1,hn2⟩:=aDC h0 h5
 refine (OT.al (bn h5)).trans ?_
 have hlen:=afP (c:=c) (b:=b) (avL k+2) 0 []
 unfold Au uL uM sj aHv
 dsimp only
 generalize avL k=N at*
 rw [hN]
 rw [show ((N:Int)+2).toNat=N+2 by omega]
 generalize anH c b (N+2) 0 []=r at*
 refine (ae ?_).trans ?_
 ·simp only [ax,aA,aC,av]
  exact ⟨aj (by omega),aL (by omega),aj ⟨rfl,by dsimp only;omega,by dsimp only;omega,rfl,hl⟩⟩
 cases hd: !(r.2==(0:Int))
 ·have hlen:=hlen hd
  simp only [List.length_nil] at hlen
  have hlen:r.1.length=N+2:=by omega
  rw [show ((N:Int)+1).toNat=N+1 by omega,hlen]
  refine (OT.al rfl).trans ((ae (by simp only [ax,aA,aC];exact aj (by omega))).trans ((OT.al (by rw [bn (by omega)];rfl)).trans ((OT.al (by rw [bn (by omega)];rfl)).trans ((ae ?_).trans rfl))))
  simp only [ax,aA,aC,av]
  exact ⟨⟨⟨aj (by omega),aj (by omega)⟩,aj (by omega)⟩,aR (by omega),aj (by omega),aL (by omega),aR (by omega),aj (by omega),lb (by omega)⟩
 ·exact (OT.ak rfl).trans rfl
def sf:bi:=(JF 2 (kj.aw HQ UH))
theorem PS:aa ag 33 sf:=(JE akQ)
theorem PR:au sf:=(yI aq)
def YI:Env:=ap 33 sf auV
theorem aej:bI ag te YI:=aP follows B5 PS PR
abbrev asD:af:=wB
def hZ (x:adb):Bool:=ac x.1.1
def asE (x:adb):OT wB.Y:=.ok ⟨DX,((fp (pS x.1.1) x.1.2.1 x.1.2.2.1,()),())⟩
theorem ayU:aa ag 29 (asD.aw hZ asE):=cw (S:=wB) asF λx oy hp ho=>⟨rfl,(OT.ak (b:=ac x.1.1) hp).trans ho⟩
def DW:bi:=(asD.aw hZ asE)
theorem ada:aa ag 29 DW:=ayU
theorem ac9:au DW:=aq
def avA:Env:=ap 29 DW YI
theorem avz:bI ag te avA:=aP follows aej ada ac9
abbrev arV:af:=ww
def Bb (x:acD):Bool:=ac x.1.1
def arW (x:acD):OT ww.Y:=.ok ⟨tb,((gZ (pS x.1.1) x.1.2.1 x.1.2.2.1,()),())⟩
theorem ayq:aa ag 91 (arV.aw Bb arW):=cw (S:=ww) arX λx oy hp ho=>⟨rfl,(OT.ak (b:=ac x.1.1) hp).trans ho⟩
def DF:bi:=(arV.aw Bb arW)
theorem acC:aa ag 91 DF:=ayq
theorem acB:au DF:=aq
def avl:Env:=ap 91 DF avA
theorem avk:bI ag te avl:=aP follows avz acC acB
abbrev asi:af:=wy
def dS (x:acT):Bool:=ac x.1.1
def asj (x:acT):OT wy.Y:=.ok ⟨DN,((aQ (pS x.1.1) x.1.2.1 x.1.2.2.1,()),())⟩
theorem ayO:aa ag 70 (asi.aw dS asj):=cw (S:=wy) asl λx oy hp ho=>⟨rfl,(OT.ak (b:=ac x.1.1) hp).trans ho⟩
def DM:bi:=(asi.aw dS asj)
theorem acS:aa ag 70 DM:=ayO
theorem acR:au DM:=aq
def avt:Env:=ap 70 DM avl
theorem avs:bI ag te avt:=aP follows avk acS acR
abbrev asc:af:=wx
def tr (x:acM):Bool:=ac x.1.1
def asd (x:acM):OT wx.Y:=.ok ⟨DK,((n9 (pS x.1.1) x.1.2.1,()),())⟩
theorem ayG:aa ag 67 (asc.aw tr asd):=cw (S:=wx) ase λx oy hp ho=>⟨rfl,(OT.ak (b:=ac x.1.1) hp).trans ho⟩
def DJ:bi:=(asc.aw tr asd)
theorem acL:aa ag 67 DJ:=ayG
theorem acK:au DJ:=aq
def avq:Env:=ap 67 DJ avt
theorem avp:bI ag te avq:=aP follows avs acL acK
abbrev asq:af:=wz
def tz (x:acY):Bool:=ac x.1.1&& !Nat.beq (x.1.2.1.nat%pS x.1.1) 0
def asr (x:acY):OT wz.Y:=.ok ⟨qv,((anI (pS x.1.1) x.1.2.1,(0:Int),()),())⟩
theorem ayQ:aa ag 68 (asq.aw tz asr):=cw (S:=wz) ass λx oy hp ho=>by
 have hp':(ac x.1.1&& !Nat.beq (x.1.2.1.nat%pS x.1.1) 0)=true:=hp
 rw [av,Bool.not_eq_true'] at hp'
 exact ⟨rfl,(OT.ak (b:=ac x.1.1) hp'.1).trans ((OT.al (b:=Nat.beq (x.1.2.1.nat%pS x.1.1) 0) hp'.2).trans ho)⟩
def DQ:bi:=(asq.aw tz asr)
theorem acX:aa ag 68 DQ:=ayQ
theorem acW:au DQ:=aq
def avw:Env:=ap 68 DQ avq
theorem avv:bI ag te avw:=aP follows avp acX acW
abbrev aqy:af:=ob
def oa (x:Qn):Bool:=ac x.1.1&&(decide (x.1.2.1.length<=100000)&&cH x.1.1 x.1.2.1)
def aqz (x:Qn):OT ob.Y:=.ok ⟨iZ,((wc x.1.1 (rE x.1.1 x.1.2.1),(0:Int),()),())⟩
theorem axD:aa ag 84 (aqy.aw oa aqz):=cw (S:=ob) abl λx oy hp ho=>by
 have hp':(ac x.1.1&&(decide (x.1.2.1.length<=100000)&&cH x.1.1 x.1.2.1))=true:=hp
 rw [av,av] at hp'
 exact ⟨rfl,(OT.ak (b:=ac x.1.1) hp'.1).trans ((OT.ak (b:=decide (x.1.2.1.length<=100000)) hp'.2.1).trans ((OT.ak (b:=cH x.1.1 x.1.2.1) hp'.2.2).trans ho))⟩
def Da:bi:=(aqy.aw oa aqz)
theorem abi:aa ag 84 Da:=axD
theorem abh:au Da:=aq
def au9:Env:=ap 84 Da avw
theorem YN:bI ag te au9:=aP follows avv abi abh
def yo:af:=⟨[kZ,aB],[],false,0,false⟩
def QW:aH:=⟨[],[],false⟩
def QV:aH:=⟨zy,[],true⟩
abbrev VP:Type:=(Bool×eE)×Unit
def arn (a0:Bool) (a1:Int):OT yo.Y:=
 (.br (!a0)
 (.ok ⟨QV,((a1,()),())⟩)
 (.ok ⟨QW,((),())⟩))
theorem alZ (pre:VP->Bool) (F:VP->OT yo.Y) (hF:∀ (x:VP) oy,pre x=true->(F x).run=some oy->(arn x.1.1 x.1.2.1).run=some oy):aa ag 60 (yo.aw pre F):=
 aEg YN 60 Tryz.f60 yo [QW] [QV] bw (λx=>arn x.1.1 x.1.2.1) hF
noncomputable def aHw:anK:=⟨57,175,40,Tryz.f56,56⟩
theorem aw2 (v:Value) (w:World):CallsD ag 57 #[v] .returning w λe u' w'=>e=.returned (.tuple #[])/\u'=.returning/\w'=w:=by
 refine callsD_of_wpS Tryz.func57 rfl λc₀ cs hu=> ?_
 apply wpS_seq
 apply wpS_region
 simp [wpOpsS,go_sem,recoverD,hu,Tryz.ntmps57,Exit.thenS]
 apply wpS_seq
 apply wpS_region
 simp [wpOpsS,go_sem,recoverD,hu,Exit.thenS]
 refine wpS_cond (t:=false) (by simp [Act.eval,Array.replicate]) ?_
 simp only [Bool.false_eq_true,if_false]
 refine wpS_of_wp (wp_skip ?_)
 cases c₀
 simp_all [bodyPostS,results,Tryz.results57]
theorem aao (v:Value) (x:TypeId) (w:World):(Instr.typeAssert (.iface 175 v) x 175 false).run ag w=.ok v w:=by
 obtain ⟨ds,hu,hd⟩:=(aki 175 FW (by kernel_rfl)).desc
 have hk:FW.desc=.struct [(0,40)]:=by kernel_rfl
 rw [hk] at hd
 obtain ⟨_,rfl,_⟩:=hd
 simp [Instr.typeAssert,Sem.run_bind,run_underlying hu]
theorem akw (x:Int) (w:World):(Instr.field 175 (.agg #[.int .i64 x]) 0).run ag w=.ok (.int .i64 x) w:=by
 simp [Instr.field,go_sem,asAgg]
theorem aw3 (ad:Addr) (x:Int) (w w':World) (h:(storeVar 40 ad (.int .i64 x)).run ag w=.ok () w'):
 CallsD ag 57 #[.pointer (some ad)] (.panicking [{v:=.iface 175 (.agg #[.int .i64 x]),recovered:=false}]) w λe u' w''=>e=.returned (.tuple #[])/\u'=.panicking [{v:=.iface 175 (.agg #[.int .i64 x]),recovered:=true}]/\w''=w':=by
 refine callsD_of_wpS Tryz.func57 rfl λc₀ cs hu=> ?_
 apply wpS_seq
 apply wpS_region
 simp [wpOpsS,go_sem,recoverD,hu,Tryz.ntmps57,Exit.thenS]
 apply wpS_seq
 apply wpS_region
 simp [wpOpsS,go_sem,recoverD,hu,Exit.thenS]
 refine wpS_cond (t:=true) (by simp [Act.eval,Array.replicate]) ?_
 simp only [if_true]
 apply wpS_region
 simp [go_sem] at h
 simp [wpOpsS,go_sem,aao,akw,h,bodyPostS,results,Tryz.results57]
theorem api:Le ag aHw where
 fn:=⟨Tryz.f57,by kernel_rfl,by kernel_rfl,by kernel_rfl⟩
 ret:=aw2
 pan:=aw3
 gfn:=⟨by kernel_rfl,by kernel_rfl,by kernel_rfl⟩
def VO (_:VP):Bool:=true
def aro (x:VP):OT yo.Y:=.br x.1.1 (.ok ⟨QW,((),())⟩) (.ok ⟨QV,((x.1.2.1,()),())⟩)
theorem ayb:aa ag 60 (yo.aw VO aro):=alZ _ _ λx oy hp ho=>by
 rw [<-ho]
 clear ho
 obtain ⟨⟨b,e,⟨⟩⟩,⟨⟩⟩:=x
 cases b<;>rfl
def Dv:bi:=(yo.aw VO aro)
theorem acf:aa ag 60 Dv:=ayb
theorem ace:au Dv:=aq
def avf:Env:=ap 60 Dv au9
theorem YU:bI ag te avf:=aP follows YN acf ace
def qj:af:=⟨jz,[],false,0,false⟩
def Jp:aH:=⟨fG,[],false⟩
def Jo:aH:=⟨zy,[],true⟩
abbrev Jq:Type:=aif
def agQ (a0:ab) (a1:Int):OT qj.Y:=
 (.br (!a1==(0:Int))
 (.ok ⟨Jo,((a1,()),())⟩)
 (.ok ⟨Jp,((a0,()),())⟩))
theorem acj (pre:Jq->Bool) (F:Jq->OT qj.Y) (hF:∀ (x:Jq) oy,pre x=true->(F x).run=some oy->(agQ x.1.1 x.1.2.1).run=some oy):aa ag 64 (qj.aw pre F):=
 aEg YU 64 Tryz.f64 qj [Jp] [Jo] bw (λx=>agQ x.1.1 x.1.2.1) hF
def Ns (_:Jq):Bool:=true
def agR (x:Jq):OT qj.Y:=.br (x.1.2.1==0) (.ok ⟨Jp,((x.1.1,()),())⟩) (.ok ⟨Jo,((x.1.2.1,()),())⟩)
theorem ars:aa ag 64 (qj.aw Ns agR):=acj _ _ λx oy hp ho=>by
 rw [<-ho]
 clear ho
 obtain ⟨⟨v,e,⟨⟩⟩,⟨⟩⟩:=x
 rcases (bX (e==0)).symm with h|h
 ·exact (OT.ak (b:= !(e==0)) (by rw [h];rfl)).trans (OT.al (b:=e==0) h).symm
 ·exact (OT.al (b:= !(e==0)) (by rw [h];rfl)).trans (OT.ak (b:=e==0) h).symm
def yu:bi:=(qj.aw Ns agR)
theorem VX:aa ag 64 yu:=ars
theorem VW:au yu:=aq
def ai3:Env:=ap 64 yu avf
theorem OE:bI ag te ai3:=aP follows YU VX VW
def qh:af:=⟨K8,[],false,0,false⟩
def Jj:aH:=⟨oP,[],false⟩
def Ji:aH:=⟨zy,[],true⟩
abbrev Jk:Type:=(cM×eE)×Unit
def agM (a0:cM) (a1:Int):OT qh.Y:=
 (.br (!a1==(0:Int))
 (.ok ⟨Ji,((a1,()),())⟩)
 (.ok ⟨Jj,((a0,()),())⟩))
theorem ach (pre:Jk->Bool) (F:Jk->OT qh.Y) (hF:∀ (x:Jk) oy,pre x=true->(F x).run=some oy->(agM x.1.1 x.1.2.1).run=some oy):aa ag 62 (qh.aw pre F):=
 aEg OE 62 Tryz.f62 qh [Jj] [Ji] bw (λx=>agM x.1.1 x.1.2.1) hF
def Nq (_:Jk):Bool:=true
def agN (x:Jk):OT qh.Y:=.br (x.1.2.1==0) (.ok ⟨Jj,((x.1.1,()),())⟩) (.ok ⟨Ji,((x.1.2.1,()),())⟩)
theorem arp:aa ag 62 (qh.aw Nq agN):=ach _ _ λx oy hp ho=>by
 rw [<-ho]
 clear ho
 obtain ⟨⟨v,e,⟨⟩⟩,⟨⟩⟩:=x
 rcases (bX (e==0)).symm with h|h
 ·exact (OT.ak (b:= !(e==0)) (by rw [h];rfl)).trans (OT.al (b:=e==0) h).symm
 ·exact (OT.al (b:= !(e==0)) (by rw [h];rfl)).trans (OT.ak (b:=e==0) h).symm
def yq:bi:=(qh.aw Nq agN)
theorem VT:aa ag 62 yq:=arp
theorem VS:au yq:=aq
def ai1:Env:=ap 62 yq ai3
theorem OC:bI ag te ai1:=aP follows OE VT VS
def qi:af:=⟨[aB,aB],[],false,0,false⟩
def Jm:aH:=⟨ic,[],false⟩
def Jl:aH:=⟨zy,[],true⟩
abbrev Jn:Type:=jv×Unit
def agO (a0:Int) (a1:Int):OT qi.Y:=
 (.br (!a1==(0:Int))
 (.ok ⟨Jl,((a1,()),())⟩)
 (.ok ⟨Jm,((a0,()),())⟩))
theorem aci (pre:Jn->Bool) (F:Jn->OT qi.Y) (hF:∀ (x:Jn) oy,pre x=true->(F x).run=some oy->(agO x.1.1 x.1.2.1).run=some oy):aa ag 109 (qi.aw pre F):=
 aEg OC 109 Tryz.f109 qi [Jm] [Jl] bw (λx=>agO x.1.1 x.1.2.1) hF
def Nr (_:Jn):Bool:=true
def agP (x:Jn):OT qi.Y:=.br (x.1.2.1==0) (.ok ⟨Jm,((x.1.1,()),())⟩) (.ok ⟨Jl,((x.1.2.1,()),())⟩)
theorem arq:aa ag 109 (qi.aw Nr agP):=aci _ _ λx oy hp ho=>by
 rw [<-ho]
 clear ho
 obtain ⟨⟨v,e,⟨⟩⟩,⟨⟩⟩:=x
 rcases (bX (e==0)).symm with h|h
 ·exact (OT.ak (b:= !(e==0)) (by rw [h];rfl)).trans (OT.al (b:=e==0) h).symm
 ·exact (OT.al (b:= !(e==0)) (by rw [h];rfl)).trans (OT.ak (b:=e==0) h).symm
def yr:bi:=(qi.aw Nr agP)
theorem VV:aa ag 109 yr:=arq
theorem VU:au yr:=aq
def ai2:Env:=ap 109 yr ai1
theorem OD:bI ag te ai2:=aP follows OC VV VU
def xm:af:=⟨[jt],[],false,0,false⟩
abbrev T6:Type:=fq×Unit
def afR:aH:=⟨[.fn 127 [0]],[(0,B3)],false⟩
def aak (a0:az):OT xm.Y:=
 (.ok ⟨afR,(((),()),(a0,()),())⟩)
theorem ako (pre:T6->Bool) (F:T6->OT xm.Y) (hF:∀ (x:T6) oy,pre x=true->(F x).run=some oy->(aak x.1.1).run=some oy):aa ag 81 (xm.aw pre F):=
 cC OD 81 Tryz.f81 xm [afR] bw (λx=>aak x.1.1) hF
def T5 (_:T6):Bool:=true
def apa (x:T6):OT xm.Y:=aak x.1.1
theorem awZ:aa ag 81 (xm.aw T5 apa):=ako _ _ λx oy hp ho=>ho
def CE:bi:=(xm.aw T5 apa)
theorem aaj:aa ag 81 CE:=awZ
theorem aai:au CE:=aq
def gX:Env:=ap 81 CE ai2
theorem YD:bI ag te gX:=aP follows OD aaj aai
end
section
namespace Sx
open Go
def aDK (Q:Exit->Act->World->Prop):Exit->Act->World->Prop
 |.outgrown,_,_=>False
 |e,a,w=>Q e a w
theorem alj {Q:Exit->Act->World->Prop} (h:LetsOut (aDK Q)):False:=by
 obtain ⟨_,_,h⟩:=h
 exact h
theorem Vc {R₀:Ctx} {K:SE->St->Prop} {Q:Exit->Act->World->Prop} (h:oX R₀ K Q):oX R₀ K (aDK Q):=⟨h.normal,h.ret,h.exit,h.pan⟩
theorem axx {Q:Exit->Act->World->Prop}:∀ (e:Exit) (a:Act) (w:World),aDK Q e a w->Q e a w
 |.normal,_,_,h|.ret,_,_,h|.exit _,_,_,h|.goto _,_,_,h|.panic _,_,_,h=>h
 |.outgrown,_,_,h=>h.elim
def MZ (o:Oper):Bool:=match o.op with
 |.defer _=>false
 |_=>true
def aba:Code->Bool
 |.skip|.exit _|.ret=>true
 |.region _ ops _=>ops.toList.all MZ
 |.seq a b|.cond _ a b=>aba a&&aba b
 |.block _ c=>aba c
 |_=>false
section
variable {P:Program} {l n:Nat} {Q:Exit->Act->World->Prop}
theorem aFV {o:Oper} (hd:MZ o=true) {a:Act} {w:World} {K:Act->World->Prop} (h:o.wp P a w K Q):o.wpIn (Fence.wide.inRound l) n P a w K Q:=by
 unfold Oper.wp at h
 refine ⟨λ_ _=>trivial,?_⟩
 rw [Oper.semAt_eq _ _ _ λc e=>by unfold MZ at hd;rw [e] at hd;cases hd]
 generalize (execOp a.eval o).run P w=r at h⊢
 cases r with
 |ok x w'=>
  cases x<;>simp only [Oper.upon] at h<;>first|exact h.elim|exact h|exact ⟨λe=>(by cases e),CallsIn.inRound l (callsIn_wide.2 h)⟩|exact ⟨λe=>(by cases e),λc cs _=>let ⟨v,w',r,s⟩:=h c cs;⟨v,w',r,stepsIn_wide.2 s⟩⟩
 |halt x w'=>cases x<;>first|exact h|exact h.elim
theorem aie {ops:Array Oper} (hd:ops.toList.all MZ=true) {md:Region.Mode} (hQ:LetsOut Q->False):∀ (fuel:Nat) (listed:Array Bool) (a:Act) (w:World),wpAny P md ops Q fuel listed a w->wpAnyIn (Fence.wide.inRound l) n P md ops Q fuel listed a w
 |0,_,_,_,h=>h
 |fuel+1,listed,a,w,h=>by
  refine ⟨h.1,λi hi=> ?_⟩
  have h2:=h.2 i hi
  unfold wpOp at h2
  unfold wpOpIn
  cases ho:ops[i]? with
  |none=>rw [ho] at h2;exact aie hd hQ fuel _ _ _ h2
  |some o=>
   rw [ho] at h2
   simp only at h2⊢
   have hm:MZ o=true:=List.all_eq_true.1 hd o (by
    exact Array.mem_toList_iff.2 (Array.mem_of_getElem? ho))
   split
   ·rename_i hw
    rw [if_pos hw] at h2
    rcases h2 with h2|h2
    ·exact Oper.wpIn_mono (λa w h=>aie hd hQ fuel _ a w h) (aFV hm h2)
    ·exact (hQ h2.2).elim
   ·rename_i hw
    rw [if_neg hw] at h2
    exact ⟨λ_ _=>trivial,aie hd hQ fuel _ _ _ h2⟩
variable {te:TE} {Φ:Env}
theorem aE4 (hm:P.follows .mixedOrders=true) (hte:kH P te) (hΦ:nW P Φ) (hmono:nX Φ) {R₀:Ctx} {ops:Array Oper} {K:SE->St->Prop} {R:Ctx} {st:St} {a:Act} {w:World} (hK:oX R₀ K Q) (hx:R₀.Ext R) (hst:iF R st a w)
 (hok:eI Φ ops (bitsOf ops)=true) (h:gE te Φ ops.toList (bitsOf ops) (Wf te Φ ops (bitsOf ops) st) K st 0 ops.toList []):wpAny P .any ops Q ops.size (Array.replicate ops.size false) a {w with drawn:=w.drawn+1}:=by
 obtain ⟨F,h1,h2⟩:=zM (te:=te) (Φ:=Φ) (ops:=ops) (bs:=bitsOf ops) (H:=Wf te Φ ops (bitsOf ops) st) (st:=st) ops.toList [] trivial (λk=>by simp) h
 have hd0:∀ k,dl (Array.replicate ops.size false) k=false:=λk=>by unfold dl;simp [Array.getD]
 have hcl:B9 (bitsOf ops) F.length (dl (Array.replicate ops.size false)):=λk _ hd=>by rw [hd0] at hd;cases hd
 have hst':bc st (dl (Array.replicate ops.size false)) F=st:=by
  rw [gx (D':=λ_=>false) λx hx=>hd0 _]
  clear h h1 h2 hcl
  induction F with
  |nil=>rfl
  |cons y r ih=>exact ih
 rcases h2 with ⟨h2,h3⟩|⟨h2,h3⟩
 ·refine aid hte hΦ hmono A9 hok h1 (by simpa using h2) hK h3 ops.size _ R a _ (by simp) (by simp) hcl hx ?_
  rw [hst']
  exact ⟨hst.hp,hst.mem.drew _,hst.tm,hst.defers⟩
 ·refine aur hte hΦ hmono A9 hok h1 (by simpa using h2) hK h3 ops.size _ R a _ (by simp) (by simp) hcl (hd0 _) hx ?_
  rw [hst']
  exact ⟨hst.hp,hst.mem.drew _,hst.tm,hst.defers⟩
theorem HA (hte:kH P te) (hΦ:nW P Φ) {R₀:Ctx} {ops:Array Oper} {K:SE->St->Prop} (hK:oX R₀ K Q):
 ∀ (r:List Oper) (R:Ctx) (st:St) (a:Act) (w:World),r.all MZ=true->R₀.Ext R->iF R st a w->gV te Φ ops.toList K r st->wpListIn (Fence.wide.inRound l) n P ops Q r a w
 | [],R,st,a,w,_,hx,hst,h=>hK.normal R st a w hx hst h
 |o::r,R,st,a,w,hd,hx,hst,h=>by
  rw [ax,av] at hd
  simp only [gV] at h
  split at h
  ·exact h.elim
  ·rename_i b hb
   have hw:=fN hst hb
   simp only [wpListIn,hw]
   cases b
   ·simp only [Bool.false_eq_true,if_false]
    exact ⟨λ_ _=>trivial,HA hte hΦ hK r R _ _ w hd.2 hx (hst.undef o.dst) h⟩
   ·simp only [if_true]
    obtain ⟨out,h1,h2⟩:=OT.GO h
    refine aFV hd.1 (lR hte hΦ hst h1 ?_)
    cases out with
    |ret e=>exact λR' w' v ha hv=>HA hte hΦ hK r R' _ _ w' hd.2 (hx.trans ha.ext) (hst.put ha hv o.dst) h2
    |pan sv u=>exact λR' w' v ha hv=>hK.pan R' _ a w' sv v (hx.trans ha.ext) (hst.Te ha) hv h2
theorem j9 (g:bI P te Φ) (hm:P.follows .mixedOrders=true) {R₀:Ctx}:∀ (k:Nat) (c:Code) (R:Ctx) (st:St) (a:Act) (w:World) (K:SE->St->Prop) (Q:Exit->Act->World->Prop),aba c=true->
 R₀.Ext R->iF R st a w->wps te Φ fC k c st K->oX R₀ K Q->c.wpIn (Fence.wide.inRound l) n P Q a w
 |0,c,R,st,a,w,K,Q,_,_,_,h,_=>h.elim
 |k+1,c,R,st,a,w,K,Q,hd,hx,hst,h,hK=>by
  rw [O0] at h
  cases c<;>simp only at h<;>first|exact h.elim|(cases hd;done)|skip
  case skip=>exact wpIn_skip (hK.normal R st a w hx hst h)
  case region id ops draw=>
   cases draw
   ·exact wpIn_region_list (HA g.ty g.ok hK _ R st a w hd hx hst h)
   ·cases hr:eI Φ ops (bitsOf ops)
    ·rw [hr] at h;exact h.elim
    ·rw [hr] at h
     exact wpIn_mono (wpIn_region_any hm (aie hd alj _ _ _ _ (aE4 hm g.ty g.ok g.mono (Vc hK) hx hst hr h))) axx
  case seq x y=>
   simp only [aba,av] at hd
   refine wpIn_seq (j9 g hm k x R st a w _ _ hd.1 hx hst h ⟨?_,?_,?_,?_⟩)
   ·exact λR' st' a' w' hx' hst' hk=>j9 g hm k y R' st' a' w' K Q hd.2 hx' hst' hk hK
   ·exact λR' st' a' w' hx' hst' hk=>hK.ret R' st' a' w' hx' hst' hk
   ·exact λR' st' a' w' id hx' hst' hk=>hK.exit R' st' a' w' id hx' hst' hk
   ·exact λR' st' a' w' sv v hx' hst' hv hk=>hK.pan R' st' a' w' sv v hx' hst' hv hk
  case cond c x y=>
   simp only [aba,av] at hd
   split at h
   ·rename_i t ht
    have hc:=j6 hst c
    rw [ht] at hc
    simp only [SV.rel] at hc
    refine wpIn_cond hc ?_
    cases t
    ·exact j9 g hm k y R st a w K Q hd.2 hx hst h hK
    ·exact j9 g hm k x R st a w K Q hd.1 hx hst h hK
   ·rename_i ht
    have hc:=j6 hst c
    rw [ht] at hc
    simp only [SV.rel] at hc
    obtain ⟨t,hc⟩:=hc
    refine wpIn_cond hc ?_
    cases t
    ·exact j9 g hm k y R st a w K Q hd.2 hx hst h.2 hK
    ·exact j9 g hm k x R st a w K Q hd.1 hx hst h.1 hK
   ·exact h.elim
  case block id body=>
   replace h:wps te Φ fC k body st λe st'=>match e with
    |.exit j=>cond (j==id) (K .normal st') (K (.exit j) st')
    |e=>K e st':=h
   refine wpIn_block (j9 g hm k body R st a w _ _ hd hx hst h ⟨?_,?_,?_,?_⟩)
   ·exact λR' st' a' w' hx' hst' hk=>hK.normal R' st' a' w' hx' hst' hk
   ·exact λR' st' a' w' hx' hst' hk=>hK.ret R' st' a' w' hx' hst' hk
   ·intro R' st' a' w' j hx' hst' hk
    simp only [Exit.inBlock]
    by_cases e:j=id
    ·subst e
     simp only [BEq.rfl,aV] at hk
     simp only [if_true]
     exact hK.normal R' st' a' w' hx' hst' hk
    ·have:(j==id)=false:=by simpa using e
     simp only [this,bo] at hk
     simp only [e,if_false]
     exact hK.exit R' st' a' w' j hx' hst' hk
   ·exact λR' st' a' w' sv v hx' hst' hv hk=>hK.pan R' st' a' w' sv v hx' hst' hv hk
  case exit id=>exact wpIn_exit (hK.exit R st a w id hx hst h)
  case ret=>exact wpIn_ret (hK.ret R st a w hx hst h)
end
end Sx
end
section
namespace Sx
open Go Go.RowKit
def SV.num:SV->Bool
 |.bool _|.u64 _|.u8 _|.int _=>true
 |_=>false
def SV.bare (k:Nat):SV->Bool
 |.ptr c _ _ _=>Nat.blt c k
 |.fY=>true
 |.agg l=>l.all SV.num
 |x=>x.num
theorem aqg {R R':Ctx}:∀ {x:SV} {v:Value},x.num=true->SV.rel R x v->SV.rel R' x v:=by
 intro x v h hr
 cases x<;>first|(cases h;done)|simpa only [SV.rel] using hr
theorem F6 {R R':Ctx}:∀ {l:List SV} {vs:List Value},l.all SV.num=true->SV.bx R l vs->SV.bx R' l vs
 | [],_,_,h=>by simpa only [SV.bx] using h
 |x::l,vs,hn,h=>by
  rw [ax,av] at hn
  simp only [SV.bx] at h⊢
  obtain ⟨v,r,h1,h2,h3⟩:=h
  exact ⟨v,r,h1,aqg hn.1 h2,F6 hn.2 h3⟩
def aiA (k:Nat) (R R':Ctx):Prop:=∀ c ch,c<k->R.hp c=some ch->∃ ch',R'.hp c=some ch'/\ch'.ep=ch.ep/\ch'.body.shape=ch.body.shape/\R'.σ c=R.σ c
theorem azI {k:Nat} {R R':Ctx} (e:aiA k R R') {x:SV} {v:Value} (h:x.bare k=true) (hr:SV.rel R x v):SV.rel R' x v:=by
 cases x<;>first|exact aqg h hr|(cases h;done)|skip
 case ptr c ep i off=>
  simp only [SV.rel,Ctx.ptr] at hr⊢
  obtain ⟨h1,ch,h2,h3,h4⟩:=hr
  obtain ⟨ch',g1,g2,g3,g4⟩:=e c ch (db h) h2
  refine ⟨h1,ch',g1,by omega,λhe=> ?_⟩
  rw [g3,g4]
  exact h4 (he.trans g2)
 case agg l=>
  simp only [SV.rel] at hr⊢
  obtain ⟨vs,h1,h2,h3⟩:=hr
  exact ⟨vs,h1,F6 h h2,h3⟩
 case fY=>simp only [SV.rel]
theorem mE {k:Nat} {R R':Ctx} (e:aiA k R R'):∀ {l:List SV} {vs:List Value},l.all (SV.bare k)=true->SV.bx R l vs->SV.bx R' l vs
 | [],_,_,h=>by simpa only [SV.bx] using h
 |x::l,vs,hn,h=>by
  rw [ax,av] at hn
  simp only [SV.bx] at h⊢
  obtain ⟨v,r,h1,h2,h3⟩:=h
  exact ⟨v,r,h1,azI e hn.1 h2,mE e hn.2 h3⟩
def Plain (hp:Hp):Prop:=∀ c ch,hp c=some ch->ch.ep=0/\((∃ vs,ch.body=.cells vs/\vs.all SV.num=true)\/∃ xs,ch.body=.row .u64 xs)
def jo (σ:Nat->Option Loc) (hp:Hp) (w:World) (ds:List Deferred):Ctx:=⟨λ_=>none,⟨λ_=>none,w,ds⟩,σ,hp⟩
def wh (σ:Nat->Option Loc) (hp:Hp) (b:Nat):Prop:=∃ c ch L,hp c=some ch/\σ c=some L/\L.block=b
open Classical in
noncomputable def kI (σ:Nat->Option Loc) (hp:Hp) (w:World) (ds:List Deferred):Ctx:=⟨λ_=>none,⟨λb=>if wh σ hp b then none else w.heap[b]?,w,ds⟩,σ,hp⟩
theorem vH {R:Ctx} {w:World} (hm:cu R w) {σ:Nat->Option Loc} {hp:Hp} {U:FN} (hp1:Plain hp) (h:∀ c ch,hp c=some ch->R.hp c=some ch/\R.σ c=σ c) (hU:∀ b o,U b=some o->w.heap[b]? =some o) (hU2:∀ b,wh σ hp b->U b=none) (he:Mi U.env w):cu ⟨λ_=>none,U,σ,hp⟩ w:=by
 refine ⟨λb o e=>(by cases e),hU,λc ch hc=> ?_,λc c' ch ch' L L' h1 h2 m1 m2 s1 s2 e=> ?_,λb o e=>(by cases e),he⟩
 ·obtain ⟨k1,k2⟩:=h c ch hc
  have h0:=hm.ch c ch k1
  obtain ⟨he,hb⟩:=hp1 c ch hc
  obtain ⟨ep,body⟩:=ch
  rcases hb with ⟨vs,hb,hn⟩|⟨xs,hb⟩
  ·cases hb
   simp only [eG] at h0⊢
   obtain ⟨L,g1,g2,g3,arr,E,g4,g5,g6,g7,g8⟩:=h0
   rw [k2] at g1
   exact ⟨L,g1,trivial,hU2 _ ⟨c,_,L,hc,g1,rfl⟩,arr,E,g4,g5,g6,F6 hn g7,g8⟩
  ·cases hb
   simp only [eG,k2] at h0⊢
   refine ⟨h0.1,h0.2.1,?_⟩
   have h3:=h0.2.2
   split at h3
   ·exact h3
   ·rename_i L g1
    obtain ⟨g2,g3,arr,E,g4,g5,g6,g7⟩:=h3
    exact ⟨trivial,hU2 _ ⟨c,_,L,hc,g1,rfl⟩,arr,E,g4,g5,g6,g7⟩
 ·exact hm.apart c c' ch ch' L L' (h c ch h1).1 (h c' ch' h2).1 m1 m2 ((h c ch h1).2.trans s1) ((h c' ch' h2).2.trans s2) e
theorem aCn {ds:List Deferred} {R:Ctx} {w:World} (hm:cu R w) {σ:Nat->Option Loc} {hp:Hp} (hp1:Plain hp) (h:∀ c ch,hp c=some ch->R.hp c=some ch/\R.σ c=σ c):cu (kI σ hp w ds) w:=
 vH hm hp1 h (λb o e=>by
  dsimp only at e
  split at e
  ·cases e
  ·exact e) (λb hb=>if_pos hb) ⟨rfl,rfl,rfl⟩
theorem uu {σ:Nat->Option Loc} {hp:Hp} {w w':World} {ds:List Deferred} {R':Ctx} (hx:(kI σ hp w ds).Ext R') (hm:cu R' w'):Mi w w'/\∀ b o,w.heap[b]? =some o->¬wh σ hp b->w'.heap[b]? =some o:=by
 have h:=hm.env
 have hU:=hm.U
 rw [hx.U] at h hU
 exact ⟨h,λb o hb hn=>hU b o ((if_neg hn).trans hb)⟩
theorem Ci {σ:Nat->Option Loc} {hp:Hp} {w:World} {ds:List Deferred} {R':Ctx} (hx:(kI σ hp w ds).Ext R') (hp1:Plain hp) {c:Nat} {ch ch':Ch} (h:hp c=some ch) (h':R'.hp c=some ch') (he:ch'.ep=0):R'.σ c=σ c:=by
 obtain ⟨ch2,g1,g2,g3⟩:=hx.ch c ch h
 rw [h'] at g1
 cases g1
 exact (g3 ((hp1 c ch h).1.trans he.symm)).2
theorem an2 {σ:Nat->Option Loc} {hp:Hp} {w w':World} {ds:List Deferred} {R':Ctx} (hx:(kI σ hp w ds).Ext R') (hm:cu R' w') (hp1:Plain hp) (hp2:∀ c ch,hp c=some ch->∃ ch',R'.hp c=some ch'/\ch'.ep=0/\ch'.body.mut=true):w.heap.size<=w'.heap.size:=by
 cases hz:w.heap.size with
 |zero=>exact Nat.zero_le _
 |succ k=>
  have hk:w.heap[k]? =some (w.heap[k]'(by omega)):=by simp [hz]
  by_cases hb:wh σ hp k
  ·obtain ⟨c,ch,L,h1,h2,rfl⟩:=hb
   obtain ⟨ch',g1,g2,g3⟩:=hp2 c ch h1
   exact hm.lt g1 g3 ((Ci hx hp1 h1 g1 g2).trans h2)
  ·have:=(uu hx hm).2 _ _ hk hb
   exact (Array.getElem?_eq_some_iff.1 this).1
def onN (D:Shape) (Q:D.T->Prop) (e:SE) (st:St):Prop:=match e with
 |.normal=>D.on st Q
 |_=>False
def toN (p:St->Prop) (e:SE) (st:St):Prop:=match e with
 |.normal=>p st
 |_=>False
theorem aFz {p:St->Prop} (e:SE) (st:St) (h:toN p e st):e=.normal:=by cases e<;>first|rfl|exact h.elim
theorem aDG {D:Shape} {Q:D.T->Prop} (e:SE) (st:St) (h:onN D Q e st):e=.normal:=by cases e<;>first|rfl|exact h.elim
section
variable {P:Program} {te:TE} {Φ:Env}
theorem Cj (g:bI P te Φ) (hf:P.follows .mixedOrders=true) {n:Nat} {c:Code} {R:Ctx} {w:World} (hm:cu R w) {σ:Nat->Option Loc} {st:St} (hp1:Plain st.hp) (hR:∀ c ch,st.hp c=some ch->R.hp c=some ch/\R.σ c=σ c)
 {a:Act} (ht:SV.bx (kI σ st.hp w a.defers) st.tm a.tmps.toList) {D:Shape} (hs:∀ c ch,st.hp c=some ch->c<D.fixed) {T:OT D.T} (h:∀ Q,wps te Φ fC 100 c st (onN D Q)=T.wpR Q)
 {y:D.T} (hy:T.run=some y) {Q:Exit->Act->World->Prop} (hQ:∀ R' a' w',(kI σ st.hp w a.defers).Ext R'->iF R' (D.inj y) a' w'->Q .normal a' w'):c.wpIn Fence.wide n P Q a w/\∀ l,aba c=true->c.wpIn (Fence.wide.inRound l) n P Q a w:=by
 have hw:wps te Φ fC 100 c st (onN D (λs=>s=y)):=by
  rw [h,OT.Ez]
  exact OT.iH hy rfl
 have hst:iF (kI σ st.hp w a.defers) st a w:=⟨rfl,aCn hm hp1 hR,ht,rfl⟩
 have hc:oX (kI σ st.hp w a.defers) (onN D (λs=>s=y)) Q:=by
  refine ⟨?_,λR1 st1 a1 w1 hx1 hst1 hk=>hk.elim,λR1 st1 a1 w1 id hx1 hst1 hk=>hk.elim,λR1 st1 a1 w1 sv v hx1 hst1 hv hk=>hk.elim⟩
  intro R1 st1 a1 w1 hx1 hst1 hk
  obtain ⟨x,R',e,h2,h3⟩:=Shape.xM (R₀:=kI σ st.hp w a.defers) (λc ch hc=>⟨hs c ch hc,(hp1 c ch hc).1⟩) hx1 hst1 (hk:D.on st1 _)
  subst e
  exact hQ R' a1 w1 h2 h3
 exact ⟨wpIn_wide.2 (rJ g.ty g.ok g.any (λp _ l hl=>by cases hl) (Ctx.Ext.refl _) hst hw hc),λl hd=>j9 g hf 100 c _ st a w _ Q hd (Ctx.Ext.refl _) hst hw hc⟩
theorem SU {Λ:Lam} {n:Nat} (k:Nat) {a b:Code} {st:St} {K:SE->St->Prop} (h:wps te Φ Λ n (.seq a b) st K) (hn:n=k+1) (hK:∀ e st,K e st->e=.normal):wps te Φ Λ k a st (toN λst'=>wps te Φ Λ k b st' K):=by
 subst hn
 rw [O0] at h
 have e:(λ(e:SE) (st':St)=>match e with|.normal=>wps te Φ Λ k b st' K|e=>K e st')=toN λst'=>wps te Φ Λ k b st' K:=funext λe=>funext λst'=>by
  cases e<;>first|rfl|exact propext ⟨λh=>(by cases hK _ _ h),λh=>h.elim⟩
 exact e▸h
theorem C3 (g:bI P te Φ) {c:Code} {R₀ R:Ctx} {w:World} {st:St} {a:Act} (hx:R₀.Ext R) (hst:iF R st a w) {k:Nat} {K:SE->St->Prop} (h:wps te Φ fC k c st K) (hK:∀ e st,K e st->e=.normal) {n:Nat} {Q:Exit->Act->World->Prop}
 (hQ:∀ R' st' a' w',R₀.Ext R'->iF R' st' a' w'->K .normal st'->Q .normal a' w'):c.wpIn Fence.wide n P Q a w:=by
 refine wpIn_wide.2 (rJ g.ty g.ok g.any (R₀:=R₀) (λp _ l hl=>by cases hl) hx hst h ⟨hQ,?_,?_,?_⟩)
 ·exact λR1 st1 a1 w1 hx1 hst1 hk=>by cases hK _ _ hk
 ·exact λR1 st1 a1 w1 id hx1 hst1 hk=>by cases hK _ _ hk
 ·exact λR1 st1 a1 w1 sv v hx1 hst1 hv hk=>by cases hK _ _ hk
end
theorem cu.move {R:Ctx} {w w':World} (hm:cu R w) (h1:∀ b o,R.F b=some o\/R.U b=some o->w'.heap[b]? =w.heap[b]?) (h2:∀ (b:Nat) (arr:Array Value) (E:TypeId),w.heap[b]? =some (.cells arr E (0,0))->w'.heap[b]? =w.heap[b]?) (he:Mi w w'):cu R w':=by
 refine ⟨λb o h=>(h1 b o (.inl h)).trans (hm.F b o h),λb o h=>(h1 b o (.inr h)).trans (hm.U b o h),λc ch hc=> ?_,hm.apart,hm.FU,hm.env.trans he⟩
 have h0:=hm.ch c ch hc
 obtain ⟨ep,body⟩:=ch
 cases body with
 |row t xs=>
  simp only [eG] at h0⊢
  refine ⟨h0.1,h0.2.1,?_⟩
  have h3:=h0.2.2
  split at h3
  ·exact h3
  ·obtain ⟨g1,g2,arr,E,g3,g4⟩:=h3
   exact ⟨g1,g2,arr,E,(h2 _ _ _ g3).trans g3,g4⟩
 |frz t xs=>exact h0
 |cells vs=>
  simp only [eG] at h0⊢
  obtain ⟨L,g1,g2,g3,arr,E,g4,g5⟩:=h0
  exact ⟨L,g1,g2,g3,arr,E,(h2 _ _ _ g4).trans g4,g5⟩
theorem cu.grownBy {R:Ctx} {w w':World} {row:Option Nat} {N:Nat} (hm:cu R w) (hg:w.grownBy w' row) (hr:∀ r,row=some r->N<=r/\∃ o:Obj,w.heap[r]? =some o/\o.isCells=false) (hN:∀ b o,R.F b=some o\/R.U b=some o->b<N):cu R w':=by
 refine hm.move (λb o h=> ?_) (λb arr E h=>grownBy_keeps_cells hg (λr e=>(hr r e).2) h rfl) ⟨hg.os,hg.output,hg.tape⟩
 have hb:b<w.heap.size:=by
  rcases h with h|h
  ·exact (Array.getElem?_eq_some_iff.1 (hm.F b o h)).1
  ·exact (Array.getElem?_eq_some_iff.1 (hm.U b o h)).1
 refine hg.block b hb λe=> ?_
 have:=(hr b e.symm).1
 have:=hN b o h
 omega
theorem aks {R R':Ctx} {w:World} (hm:cu R w) (hm':cu R' w) {c:Nat} {xs ys:List UInt64} (h:R.hp c=some ⟨0,.row .u64 xs⟩) (h':R'.hp c=some ⟨0,.row .u64 ys⟩) (hσ:R'.σ c=R.σ c) (hl:xs.length=ys.length):xs=ys:=by
 have h1:=hm.ch c _ h
 have h2:=hm'.ch c _ h'
 simp only [eG,hσ] at h1 h2
 obtain ⟨_,_,h1⟩:=h1
 obtain ⟨_,_,h2⟩:=h2
 cases hs:R.σ c with
 |none=>
  rw [hs] at h1 h2
  exact (h1:xs= []).trans (h2:ys= []).symm
 |some L=>
  rw [hs] at h1 h2
  obtain ⟨_,_,arr,E,e1,_,_,r1⟩:=h1
  obtain ⟨_,_,arr',E',e2,_,_,r2⟩:=h2
  rw [e1] at e2
  cases e2
  refine List.ext_getElem hl λi hi hi'=> ?_
  have a1:seg arr.toList (L.base+i*1) 1= [ee (xs.getD i 0)]:=r1 i hi
  have a2:seg arr.toList (L.base+i*1) 1= [ee (ys.getD i 0)]:=r2 i hi'
  rw [a1] at a2
  simp only [List.cons.injEq,and_true,ee,Value.int.injEq,true_and] at a2
  have a3:xs.getD i 0=ys.getD i 0:=UInt64.toNat.inj (by omega)
  simpa [ju,hi,hi'] using a3
end Sx
end
section
open Sx Go
set_option maxRecDepth 100000
def P4:af:=⟨[aB,jt,dY],[],true,0,false⟩
def P0:aH:=⟨fG,[],false⟩
def L0 (m:Nat) (x:ab) (l:az):ab:=l.foldr (λv e=>fp m (aQ m e x) v) ⟨0,0,0,0⟩
abbrev apX:Type:=(Int×az×oN)×Unit
def pvA:Shape:=⟨22,[rA,rB,(6,fu),(7,fH),(11,.fn 127 [4])],[(0,oU),oR,kW,nE,(4,B3)],0,true⟩
def pvB (k:Nat):Shape:=⟨22,[(3,.ptr 0 0 0),(5,.ptr 1 0 0),(6,.ptr 2 0 0),(7,.ptr 3 0 0)],[(0,.cells [.val false .int]),(1,.row .u64),(2,.row .u64),(3,.row .u64)],k,true⟩
def pvC (k:Nat):Shape:=⟨22,[(3,.ptr 0 0 0),(5,.ptr 1 0 0),(6,.ptr 2 0 0),(7,.ptr 3 0 0),(9,.ptr 4 0 0)],[(0,.cells [.val false .int]),(1,.row .u64),(2,.row .u64),(3,.row .u64),(4,.row .u64)],k,true⟩
def eL (e:ab):ao:= [e.w0,e.w1,e.w2,e.w3]
def yB (c:Int) (x r o:ab):(pvB 0).T:=(((),(),(),(),()),(c,()),eL x,eL r,eL o,())
def yC (c:Int) (x r o v:ab):(pvC 4).T:=(((),(),(),(),(),()),(c,()),eL x,eL r,eL o,eL v,())
noncomputable def ff:Code->Nat->Code
 |.seq a _,0=>a
 |.seq _ b,k+1=>ff b k
 |c,_=>c
noncomputable def xw:Code->Code×Code
 |.block _ c=>xw c
 |.rangeFunc _ _ a b=>(a,b)
 |c=>(c,c)
noncomputable def pvc:Code:=mw Tryz.f27
def gT:ab:=⟨0,0,0,0⟩
def yA (c:Int) (l:az) (x:ab):pvA.T:=(((),(),(),(),(),()),(c,()),eL x,eL gT,eL gT,(l,()),())
def pvS (c:Int) (l:az) (x:ab):St:=⟨[.int c,.lst .elem l,.agg (unpack .elem x)]++List.replicate 19 .undef,λ_=>none⟩
theorem pv1 (c:Int) (l:az) (x:ab) (Q:pvA.T->Prop):wps te gX fC 100 (.seq (ff pvc 0) (.seq (ff pvc 1) (ff (ff pvc 2) 0))) (pvS c l x) (onN pvA Q)=
 (OT.ok (yA c l x)).wpR Q:=by kernel_rfl
theorem pv2 (c:Int) (x r o v:ab) (Q:(pvC 4).T->Prop):wps te gX fC 100 (xw (ff (ff pvc 2) 1)).1 ⟨((pvB 0).inj (yB c x r o)).tm.set 13 (.agg (unpack .elem v)),((pvB 0).inj (yB c x r o)).hp⟩ (onN (pvC 4) Q)=
 (OT.ok (yC c x r o v)).wpR Q:=by kernel_rfl
theorem pv3 (c:Int) (x r o v:ab) (Q:(pvC 5).T->Prop):wps te gX fC 100 (xw (ff (ff pvc 2) 1)).2 ((pvC 4).inj (yC c x r o v)) (onN (pvC 5) Q)=
 (gd [ac c,ac c] (OT.ok (yC c x r (fp (pS c) (aQ (pS c) o x) v) v))).wpR Q:=by kernel_rfl
theorem pv4 (c:Int) (x r o:ab) (Q:(pvB 4).T->Prop):wps te gX fC 100 (ff pvc 3) ((pvB 0).inj (yB c x r o)) (onN (pvB 4) Q)=
 (OT.ok (yB c x o o)).wpR Q:=by kernel_rfl
theorem pv5 (c:Int) (x r o:ab) (K:SV->Prop):Al te Tryz.f27 ((pvB 4).inj (yB c x r o)) K=K (.agg (unpack .elem r)):=by kernel_rfl
theorem aFP:pvc=.seq (ff pvc 0) (.seq (ff pvc 1) (.seq (.seq (ff (ff pvc 2) 0) (.block 0 (.rangeFunc (.tmp 11) #[12,13] (xw (ff (ff pvc 2) 1)).1 (xw (ff (ff pvc 2) 1)).2))) (.seq (ff pvc 3) .ret))):=by kernel_rfl
attribute [local go_sem] Oper.semAt_some
open RowKit Shelf
def elemV (e:ab):Value:=.agg #[ee e.w0,ee e.w1,ee e.w2,ee e.w3]
def tF (f:Nat->ab) (len k:Nat):Yl:=(List.range (len-k)).map λ(j:Nat)=>(((len:Int)-(j:Int)-1,f (len-1-j)):Int×ab)
theorem amS (f:Nat->ab) (len k:Nat):(tF f len k).length=len-k:=by simp [tF]
theorem adn (f:Nat->ab) {len k:Nat} (hk:k+1<=len):tF f len k=tF f len (k+1)++ [((k:Int),f k)]:=by
 have e:len-k=(len-(k+1))+1:=by omega
 unfold tF
 rw [e,List.range_succ,List.map_append]
 have h1:(len:Int)-((len-(k+1):Nat):Int)-1=k:=by omega
 have h2:len-1-(len-(k+1))=k:=by omega
 simp only [List.map_cons,List.map_nil,h1,h2]
theorem amT (xs:az):(tF (λj=>xs.getD j gT) xs.length 0).map (·.2)=xs.reverse:=by
 refine List.ext_getElem (by simp [tF]) λi h1 h2=> ?_
 have hi:i<xs.length:=by simpa using h2
 have:xs.length-1-i<xs.length:=by omega
 simp [tF,List.getElem_reverse,ju,this]
def KpB (S:Nat->Prop) (W W':World):Prop:=∀ k,S k->W'.heap[k]? =W.heap[k]?
theorem KpB.cell {S:Nat->Prop} {W W':World} (h:KpB S W W') {a:Addr} {v:Value} (hs:S a.block) (hc:W.cell? a=some v):W'.cell? a=some v:=by
 unfold World.cell? at hc⊢
 rw [h _ hs]
 exact hc
set_option maxHeartbeats 2000000 in
theorem azJ (n:Nat) (hn:1<=n) (l Bs Bo b off len cap:Nat) (ad:Option Addr) (f:Nat->ab) (S:Nat->Prop) (hS:S Bs) (had:0<len->ad=some ⟨b,off,none⟩/\S b) (hlen:len*32<=4503599627370496) (J Jx:List (Int×ab)->World->Prop)
 (hY:∀ pre x W,J pre W->pre.length<len->YieldAt Fence.wide (n-1) ag l #[.int .i64 x.1,elemV x.2] W λe W'=>
  (e=.returned (.bool true)/\J (pre++ [x]) W'/\KpB S W W')\/(e=.returned (.bool false)/\Jx (pre++ [x]) W'))
 (W:World) (hBs:W.cell? ⟨Bs,Bo,none⟩=some (.slice ad len cap))
 (hc:∀ j,j<len->W.cell? ⟨b,off+j*4,none⟩=some (ee (f j).w0)/\W.cell? ⟨b,off+j*4+1,none⟩=some (ee (f j).w1)/\W.cell? ⟨b,off+j*4+2,none⟩=some (ee (f j).w2)/\W.cell? ⟨b,off+j*4+3,none⟩=some (ee (f j).w3)) (h0:J [] W):
 CallsIn Fence.wide n ag 127 #[.func (.yield l) #[] #[],.pointer (some ⟨Bs,Bo,none⟩)] W λe W'=>(∃ v,e=.returned v)/\
  ((∃ ys,ys=tF f len 0/\J ys W')\/(∃ pre,True/\Jx pre W')):=by
 refine callsIn_of_wp Tryz.func127 rfl trivial ?_ rfl
 simp only [Tryz.ntmps127,List.size_toArray,List.length_cons,List.length_nil,Nat.reduceAdd,Nat.reduceSub,Array.replicate_succ,Array.replicate_zero,List.push_toArray,List.append_toArray,List.nil_append,List.cons_append]
 gi_wp2
 gi_loopw [3] (λi wr=>∃ k:Nat,k<=len/\i=.int .i64 ((k:Int)-1)/\J (tF f len k) wr/\KpB S W wr)
  (λi _=>(intOf i+1).toNat)
 case atStart=>exact ⟨len,Nat.le_refl _,rfl,by simpa [tF] using h0,λ_ _=>rfl⟩
 case round=>
  obtain ⟨k,hk,rfl,hJs,hnx⟩:=hrel
  cases k with
  |succ k=>
   have hk1:((k+1:Nat):Int)-1=(k:Int):=by omega
   rw [hk1] at*
   obtain ⟨fn,tmps,assign,body,hy,hR⟩:=hY _ ((k:Int),f k) wr hJs (by rw [amS];omega)
   dsimp only [elemV,ee] at hy
   obtain ⟨rfl,hSb⟩:=had (by omega)
   obtain ⟨c0,c1,c2,c3⟩:=hc k (by omega)
   replace c0:=hnx.cell hSb c0
   replace c1:=hnx.cell hSb c1
   replace c2:=hnx.cell hSb c2
   replace c3:=hnx.cell hSb c3
   dsimp only [ee] at c0 c1 c2 c3
   have hBs':=hnx.cell hS hBs
   gi_wp2
   refine hR.mono ?_
   rintro e W3 (⟨rfl,hJ3,hk3⟩|⟨rfl,hJx3⟩)
   ·gi_wp2
    go_roundw
    case rel=>exact ⟨k,by omega,by simp,by rw [adn f hk];exact hJ3,λj hj=>(hk3 j hj).trans (hnx j hj)⟩
    case measure=>simp [intOf]
   ·gi_wp2
    refine bodyPost_ret (results_none rfl _ _ _) rfl ?_
    exact ⟨⟨_,rfl⟩,.inr ⟨_,trivial,hJx3⟩⟩
  |zero=>
   gi_wp2
   go_end0
   exact ⟨⟨_,rfl⟩,.inl ⟨_,rfl,hJs⟩⟩
theorem anA (n:Nat) (hn:1<=n) {w:World} {Bs Bo:Nat} {ad:Option Addr} {cap b off:Nat} {xs:List ab} {S:Nat->Prop} (hlen:xs.length*32<=4503599627370496) (hS:S Bs) (had:0<xs.length->ad=some ⟨b,off,none⟩/\S b) (hlt:∀ k,S k->k<w.heap.size)
 (hBs:w.cell? ⟨Bs,Bo,none⟩=some (.slice ad xs.length cap))
 (hc:∀ j,j<xs.length->w.cell? ⟨b,off+j*4,none⟩=some (ee (xs.getD j gT).w0)/\w.cell? ⟨b,off+j*4+1,none⟩=some (ee (xs.getD j gT).w1)/\w.cell? ⟨b,off+j*4+2,none⟩=some (ee (xs.getD j gT).w2)/\w.cell? ⟨b,off+j*4+3,none⟩=some (ee (xs.getD j gT).w3)):
 SeqStopsK Fence.wide n ag 127 #[.pointer (some ⟨Bs,Bo,none⟩)] (λx:Int×ab=> #[.int .i64 x.1,elemV x.2]) (KpB S) (λys=>ys.map (·.2)=xs.reverse) (λ_=>True) xs.length w:=λl J Jx W hW _ _ hY h0=>by
 have hk:KpB S w W:=λk hk=>hW.block k (hlt k hk)
 refine (azJ n hn l Bs Bo b off xs.length cap ad (λj=>xs.getD j gT) S hS had hlen J Jx hY W (hk.cell hS hBs) (λj hj=> ?_) h0).mono ?_
 ·obtain ⟨c0,c1,c2,c3⟩:=hc j hj
  have hSb:=(had (by omega)).2
  exact ⟨hk.cell hSb c0,hk.cell hSb c1,hk.cell hSb c2,hk.cell hSb c3⟩
 ·rintro e W' ⟨he,⟨ys,rfl,hj⟩|⟨pre,_,hj⟩⟩
  ·exact ⟨he,.inl ⟨_,amT xs,hj⟩⟩
  ·exact ⟨he,.inr ⟨pre,trivial,hj⟩⟩
theorem aDJ {R R':Ctx} {e:ab} {v:Value} (h:SV.rel R (.agg (unpack .elem e)) v):SV.rel R' (.agg (unpack .elem e)) v:=by
 simp only [SV.rel] at h⊢
 obtain ⟨vs,h1,h2,h3⟩:=h
 exact ⟨vs,h1,F6 rfl h2,h3⟩
def fR (c:Int) (x:ab) (pre:Yl):ab:=pre.foldl (λe v=>fp (pS c) (aQ (pS c) e x) v.2) gT
theorem akN (c:Int) (x:ab) (pre:Yl) (v:Int×ab):fR c x (pre++ [v])=fp (pS c) (aQ (pS c) (fR c x pre) x) v.2:=by simp [fR]
theorem apJ (c:Int) (x:ab) (ys:Yl) (xs:az) (h:ys.map (·.2)=xs.reverse):fR c x ys=L0 (pS c) x xs:=by
 unfold fR L0
 rw [<-List.foldl_reverse,<-h,List.foldl_map]
 rfl
noncomputable def pvH (c:Int) (x e:ab):Hp:=((pvB 0).inj (yB c x gT e)).hp
theorem sd (c:Int) (x e:ab) {k:Nat} {ch:Ch} (h:pvH c x e k=some ch):k<4/\ch.ep=0/\((∃ vs,ch.body=.cells vs/\vs.all SV.num=true)\/∃ xs,ch.body=.row .u64 xs):=by
 match k with
 |0=>cases h;exact ⟨by omega,rfl,.inl ⟨_,rfl,rfl⟩⟩
 |1=>cases h;exact ⟨by omega,rfl,.inr ⟨_,rfl⟩⟩
 |2=>cases h;exact ⟨by omega,rfl,.inr ⟨_,rfl⟩⟩
 |3=>cases h;exact ⟨by omega,rfl,.inr ⟨_,rfl⟩⟩
 |k+4=>cases h
theorem kh (c:Int) (x e:ab):Plain (pvH c x e):=λ_ _ h=>⟨(sd c x e h).2.1,(sd c x e h).2.2⟩
theorem F2 (c:Int) (x e:ab) {k:Nat} (h:k<4):∃ ch,pvH c x e k=some ch:=by
 match k with
 |0|1|2|3=>exact ⟨_,rfl⟩
 |k+4=>omega
theorem aDw (c:Int) (l:az) (x:ab) {k:Nat} {ch:Ch} (h:pvH c x gT k=some ch):(pvA.inj (yA c l x)).hp k=some ch:=by
 match k with
 |0=>exact h
 |1=>exact h
 |2=>exact h
 |3=>exact h
 |k+4=>cases h
theorem PP (c:Int) (x e e':ab) {k:Nat} {ch:Ch} (h:pvH c x e k=some ch):∃ ch',pvH c x e' k=some ch'/\ch'.ep=ch.ep/\ch'.body.shape=ch.body.shape:=by
 match k with
 |0=>cases h;exact ⟨_,rfl,rfl,rfl⟩
 |1=>cases h;exact ⟨_,rfl,rfl,rfl⟩
 |2=>cases h;exact ⟨_,rfl,rfl,rfl⟩
 |3=>cases h;exact ⟨_,rfl,rfl,rfl⟩
 |k+4=>cases h
theorem akM (c:Int) (x e v:ab) {k:Nat} {ch:Ch} (h:pvH c x e k=some ch):((pvC 4).inj (yC c x gT e v)).hp k=some ch:=by
 match k with
 |0=>exact h
 |1=>exact h
 |2=>exact h
 |3=>exact h
 |k+4=>cases h
theorem HO (c:Int) (x e v:ab) {k:Nat} {ch:Ch} (h:((pvC 4).inj (yC c x gT e v)).hp k=some ch):k<5/\ch.ep=0/\((∃ vs,ch.body=.cells vs/\vs.all SV.num=true)\/∃ xs,ch.body=.row .u64 xs)/\(k<4->pvH c x e k=some ch):=by
 match k with
 |0=>cases h;exact ⟨by omega,rfl,.inl ⟨_,rfl,rfl⟩,λ_=>rfl⟩
 |1=>cases h;exact ⟨by omega,rfl,.inr ⟨_,rfl⟩,λ_=>rfl⟩
 |2=>cases h;exact ⟨by omega,rfl,.inr ⟨_,rfl⟩,λ_=>rfl⟩
 |3=>cases h;exact ⟨by omega,rfl,.inr ⟨_,rfl⟩,λ_=>rfl⟩
 |4=>cases h;exact ⟨by omega,rfl,.inr ⟨_,rfl⟩,λh=>absurd h (by omega)⟩
 |k+5=>cases h
theorem aaM (c:Int) (x e e':ab) {σ:Nat->Option Sx.Loc} {b:Nat} (h:wh σ (pvH c x e) b):wh σ (pvH c x e') b:=by
 obtain ⟨k,ch,L,h1,h2,h3⟩:=h
 obtain ⟨ch',h1',_⟩:=PP c x e e' h1
 exact ⟨k,ch',L,h1',h2,h3⟩
theorem KO {σ:Nat->Option Sx.Loc} {hp:Hp} (hp1:Plain hp) {R:Ctx} {w:World} (hm:cu R w) (h:∀ c ch,hp c=some ch->R.hp c=some ch/\R.σ c=σ c) {b:Nat} (hb:wh σ hp b):∃ arr E,w.heap[b]? =some (.cells arr E (0,0)):=by
 obtain ⟨c,ch,L,h1,h2,rfl⟩:=hb
 obtain ⟨k1,k2⟩:=h c ch h1
 have h0:=hm.ch c ch k1
 obtain ⟨he,hb⟩:=hp1 c ch h1
 obtain ⟨ep,body⟩:=ch
 rcases hb with ⟨vs,hb,hn⟩|⟨xs,hb⟩
 ·cases hb
  simp only [eG,k2,h2] at h0
  obtain ⟨L',g1,_,_,arr,E,g4,_⟩:=h0
  cases g1
  exact ⟨arr,E,g4⟩
 ·cases hb
  simp only [eG,k2,h2] at h0
  obtain ⟨_,_,_,_,arr,E,g4,_⟩:=h0
  exact ⟨arr,E,g4⟩
def Az (x:apX):Bool:=ac x.1.1
def apW (x:apX):OT P4.Y:=.ok ⟨P0,((L0 (pS x.1.1) x.1.2.2.1 x.1.2.1,()),())⟩
theorem apU (e:ab) (hp:Hp):(P0.shape 0).prj ⟨[.agg (unpack .elem e)],hp⟩=some ((e,()),()):=rfl
def pvI (c:Int) (x:ab) (σ:Nat->Option Sx.Loc) (w1:World) (pre:Yl) (W:World):Prop:=
 cu (jo σ (pvH c x (fR c x pre)) w1 []) W/\w1.heap.size<=W.heap.size/\∀ b o,w1.heap[b]? =some o->¬wh σ (pvH c x gT) b->W.heap[b]? =some o
def pvX (c:Int) (x:ab) (σ:Nat->Option Sx.Loc) (w1:World) (v:Int×ab) (a:Act) (W:World):Prop:=
 ∃ (σ':Nat->Option Sx.Loc) (e:ab),(∀ k,k<4->σ' k=σ k)/\(∀ L,σ' 4=some L->w1.heap.size<=L.block)/\cu (jo σ' ((pvC 4).inj (yC c x gT e v.2)).hp w1 []) W/\SV.bx (jo σ' ((pvC 4).inj (yC c x gT e v.2)).hp w1 []) ((pvC 4).inj (yC c x gT e v.2)).tm a.tmps.toList/\a.defers= []
theorem agZ {w w':World} {row:Option Nat} {N:Nat} (hg:w.grownBy w' row) (hr:∀ r,row=some r->N<=r/\∃ o:Obj,w.heap[r]? =some o/\o.isCells=false) {b:Nat} {o:Obj} (hb:b<N) (h:w.heap[b]? =some o):w'.heap[b]? =some o:=
 (hg.block b (Array.getElem?_eq_some_iff.1 h).1 λe=>by have:=(hr b e.symm).1;omega).trans h
theorem aDv (c:Int) (x:ab) (σ:Nat->Option Sx.Loc) (w1:World):OwnFrom w1.heap.size (pvI c x σ w1):=λs A B row h hg hr=>
 ⟨h.1.grownBy hg hr (λb o h=>by rcases h with h|h<;>cases h),gC h.2.1 hg.size,λb o hb hn=>agZ hg hr (Array.getElem?_eq_some_iff.1 hb).1 (h.2.2 b o hb hn)⟩
theorem aDu (c:Int) (x:ab) (σ:Nat->Option Sx.Loc) (w1:World) (v:Int×ab) (a:Act):OwnFrom w1.heap.size (λ(_:Unit) W=>pvX c x σ w1 v a W):=λs A B row h hg hr=>by
 obtain ⟨σ',e,h1,h2,h3,h4⟩:=h
 exact ⟨σ',e,h1,h2,h3.grownBy hg hr (λb o h=>by rcases h with h|h<;>cases h),h4⟩
section
variable {c:Int} {x:ab} {σ:Nat->Option Sx.Loc} {w1:World} {S:Nat->Prop} (hc:ac c=true) (hS:∀ k,S k->k<w1.heap.size/\¬wh σ (pvH c x gT) k)
include hS
theorem af3 {e:ab} {W W':World} {pre:List (Int×ab)} (hi:pvI c x σ w1 pre W) {σ':Nat->Option Sx.Loc} {hp:Hp} (hp1:Plain hp) {R:Ctx} (hm:cu R W) (hR:∀ k ch,hp k=some ch->R.hp k=some ch/\R.σ k=σ' k)
 (hb:∀ b,b<w1.heap.size->wh σ' hp b->wh σ (pvH c x gT) b) {ds:List Deferred} {R':Ctx} (hx:(kI σ' hp W ds).Ext R') (hm':cu R' W') (hp2:∀ k ch,hp k=some ch->∃ ch',R'.hp k=some ch'/\ch'.ep=0/\ch'.body.mut=true):
 KeepsFrom w1.heap.size W W'/\KpB S W W'/\w1.heap.size<=W'.heap.size/\Mi w1 W'/\∀ b o,w1.heap[b]? =some o->¬wh σ (pvH c x gT) b->W'.heap[b]? =some o:=by
 obtain ⟨k1,k2⟩:=uu hx hm'
 have hs:=an2 hx hm' hp1 hp2
 refine ⟨⟨hs,λk o hk ho hcl=>k2 k o ho λhbr=> ?_⟩,λk hk=> ?_,gC hi.2.1 hs,hi.1.env.trans k1,λb o ho hn=> ?_⟩
 ·obtain ⟨arr,E,he⟩:=KO hp1 hm hR hbr
  rw [ho] at he
  cases he
  cases hcl
 ·obtain ⟨g1,g2⟩:=hS k hk
  have h1:w1.heap[k]? =some w1.heap[k]:=by simp [g1]
  have h2:=hi.2.2 k _ h1 g2
  rw [h2]
  exact k2 k _ h2 λhbr=>g2 (hb k g1 hbr)
 ·have hlt:=(Array.getElem?_eq_some_iff.1 ho).1
  exact k2 b o (hi.2.2 b o ho hn) λhbr=>hn (hb b hlt hbr)
theorem apI (g:bI ag te gX) {vals:Array Value} (hbase:SV.bx (jo σ (pvH c x gT) w1 []) ((pvB 0).inj (yB c x gT gT)).tm vals.toList) {l n:Nat} {pre:List (Int×ab)} {v:Int×ab} {W:World} (hi:pvI c x σ w1 pre W) {K:Act->World->Prop}
 (hK:∀ a' W',KeepsFrom w1.heap.size W W'->KpB S W W'->pvI c x σ w1 pre W'->pvX c x σ w1 v a' W'->K a' W'):
 (xw (ff (ff pvc 2) 1)).1.wpIn (Fence.wide.inRound l) n ag (Exit.then K (λ_ _ _=>False)) {tmps:=((#[12,13]:Array Tmp).zip #[.int .i64 v.1,elemV v.2]).foldl (λt (p,v)=>t.setIfInBounds p v) vals,defers:= []} W:=by
 have hlike:aiA 4 (jo σ (pvH c x gT) w1 []) (kI σ (pvH c x (fR c x pre)) W []):=λk ch hk h=>by
  obtain ⟨ch',h1,h2,h3⟩:=PP c x gT (fR c x pre) h
  exact ⟨ch',h1,h2,h3,rfl⟩
 have h0:=mE hlike (by kernel_rfl) hbase
 have h1:=SV.Am (SV.Am h0 12 (x:=.fY) (v:=.int .i64 v.1) (by simp only [SV.rel])) 13 (x:=.agg (unpack .elem v.2)) (v:=elemV v.2) (by
  simp only [SV.rel,elemV,unpack]
  exact ⟨_,rfl,by simp [SV.bx,SV.rel],by simp [Value.oneCell',ee]⟩)
 refine (Cj g follows hi.1 (σ:=σ) (st:=⟨((pvB 0).inj (yB c x gT (fR c x pre))).tm.set 13 (.agg (unpack .elem v.2)),pvH c x (fR c x pre)⟩) (kh _ _ _) (λk ch h=>⟨h,rfl⟩) (D:=pvC 4) ?_ (λk ch h=>(sd _ _ _ h).1) (pv2 c x gT (fR c x pre) v.2) rfl ?_).2 l (by kernel_rfl)
 ·simp only [Array.toList_setIfInBounds,List.zip_toArray,List.zip_cons_cons,List.zip_nil_right,List.foldl_toArray,List.foldl_cons,List.foldl_nil]
  exact h1
 ·intro R' a' W' hx hst
  have hp2:∀ k ch,pvH c x (fR c x pre) k=some ch->∃ ch',R'.hp k=some ch'/\ch'.ep=0/\ch'.body.mut=true:=λk ch h=>by
   obtain ⟨_,h2,h3⟩:=sd _ _ _ h
   refine ⟨ch,by rw [hst.hp];exact akM _ _ _ v.2 h,h2,?_⟩
   rcases h3 with ⟨vs,h3,_⟩|⟨xs,h3⟩<;>rw [h3]<;>rfl
  have hσ:∀ k,k<4->R'.σ k=σ k:=λk hk=>by
   obtain ⟨ch,h⟩:=F2 c x (fR c x pre) hk
   exact Ci hx (kh _ _ _) h (by rw [hst.hp];exact akM _ _ _ v.2 h) (sd _ _ _ h).2.1
  obtain ⟨k1,k2,k3,k4,k5⟩:=af3 hS (e:=gT) hi (kh _ _ _) hi.1 (λk ch h=>⟨h,rfl⟩) (λb _ hb=>aaM _ _ _ _ hb) hx hst.mem hp2
  refine hK a' W' k1 k2 ⟨vH hst.mem (kh _ _ _) (λk ch h=>⟨by rw [hst.hp];exact akM _ _ _ v.2 h,hσ k (sd _ _ _ h).1⟩) (λb o h=>by cases h) (λb _=>rfl) k4,k3,k5⟩ ?_
  have hC:Plain ((pvC 4).inj (yC c x gT (fR c x pre) v.2)).hp:=λk ch h=>⟨(HO _ _ _ _ h).2.1,(HO _ _ _ _ h).2.2.1⟩
  have hall:∀ k ch,((pvC 4).inj (yC c x gT (fR c x pre) v.2)).hp k=some ch->R'.hp k=some ch/\R'.σ k=R'.σ k:=λk ch h=>⟨by rw [hst.hp];exact h,rfl⟩
  refine ⟨R'.σ,fR c x pre,hσ,λL hL=> ?_,vH hst.mem hC hall (λb o h=>by cases h) (λb _=>rfl) k4,mE (k:=5) (R:=R') (R':=jo R'.σ ((pvC 4).inj (yC c x gT (fR c x pre) v.2)).hp w1 []) (λk ch hk h=>⟨ch,by rw [hst.hp] at h;exact h,rfl,rfl,rfl⟩) (by kernel_rfl) hst.tm,?_⟩
  ·have h4:=hst.mem.ch 4 ⟨0,.row .u64 (eL v.2)⟩ (by rw [hst.hp];rfl)
   simp only [eG,hL] at h4
   obtain ⟨_,_,_,hU,arr,E,hh,_⟩:=h4
   rw [hx.U] at hU
   by_cases hbr:wh σ (pvH c x (fR c x pre)) L.block
   ·obtain ⟨k,ch,L',g1,g2,g3⟩:=hbr
    have g4:=(sd _ _ _ g1).1
    obtain ⟨ch',m1,m2,m3⟩:=hp2 k ch g1
    have:=hst.mem.apart 4 k _ ch' L L' (by rw [hst.hp];rfl:R'.hp 4=some ⟨0,.row .u64 (eL v.2)⟩) m1 rfl m3 hL ((hσ k g4).trans g2) g3.symm
    omega
   ·have hU':W.heap[L.block]? =none:=(if_neg hbr).symm.trans hU
    have:=hi.2.1
    rw [Array.getElem?_eq_none_iff] at hU'
    omega
  ·rw [hst.defers,hx.U];rfl
include hc
theorem aDt (g:bI ag te gX) {l n:Nat} {pre:List (Int×ab)} {v:Int×ab} {a:Act} {W:World} (hi:pvI c x σ w1 pre W) (ha:pvX c x σ w1 v a W) (Ix:Code->List (Int×ab)->World->Prop):
 (xw (ff (ff pvc 2) 1)).2.wpIn (Fence.wide.inRound l) n ag (ownPostG w1.heap.size (KpB S) (pvI c x σ w1) Ix (pre++ [v]) W) a W:=by
 obtain ⟨σ',e,hσ,h4,hm,ht,hd⟩:=ha
 have he:eL (fR c x pre)=eL e:=aks (c:=3) hi.1 hm rfl rfl (hσ 3 (by omega)) rfl
 have he':fR c x pre=e:=by
  revert he
  generalize fR c x pre=u
  intro he
  obtain ⟨u0,u1,u2,u3⟩:=u
  obtain ⟨e0,e1,e2,e3⟩:=e
  simp only [eL,List.cons.injEq,and_true] at he
  obtain ⟨rfl,rfl,rfl,rfl⟩:=he
  rfl
 have hC:Plain ((pvC 4).inj (yC c x gT e v.2)).hp:=λk ch h=>⟨(HO _ _ _ _ h).2.1,(HO _ _ _ _ h).2.2.1⟩
 refine (Cj g follows hm (σ:=σ') (st:=(pvC 4).inj (yC c x gT e v.2)) hC (λk ch h=>⟨h,rfl⟩) (D:=pvC 5) ?_ (λk ch h=>(HO _ _ _ _ h).1) (pv3 c x gT e v.2) (y:=yC c x gT (fp (pS c) (aQ (pS c) e x) v.2) v.2) ?_ ?_).2 l (by kernel_rfl)
 ·exact mE (k:=5) (λk ch hk h=>⟨ch,h,rfl,rfl,rfl⟩) (by kernel_rfl) ht
 ·exact (ae (by simp only [ax,aA,hc];rfl)).trans rfl
 ·intro R' a' W' hx hst
  have hst2:R'.hp=((pvC 4).inj (yC c x gT (fp (pS c) (aQ (pS c) e x) v.2) v.2)).hp:=hst.hp
  have hp2:∀ k ch,((pvC 4).inj (yC c x gT e v.2)).hp k=some ch->∃ ch',R'.hp k=some ch'/\ch'.ep=0/\ch'.body.mut=true:=λk ch h=>by
   rw [hst2]
   match k with
   |0=>exact ⟨_,rfl,rfl,rfl⟩
   |1=>exact ⟨_,rfl,rfl,rfl⟩
   |2=>exact ⟨_,rfl,rfl,rfl⟩
   |3=>exact ⟨_,rfl,rfl,rfl⟩
   |4=>exact ⟨_,rfl,rfl,rfl⟩
   |k+5=>cases h
  have hσ':∀ k,k<4->R'.σ k=σ k:=λk hk=>by
   obtain ⟨ch,h⟩:=F2 c x (fp (pS c) (aQ (pS c) e x) v.2) hk
   obtain ⟨ch',h'⟩:=F2 c x e hk
   exact (Ci hx hC (akM _ _ _ v.2 h') (by rw [hst2];exact akM _ _ _ v.2 h) (sd _ _ _ h).2.1).trans (hσ k hk)
  obtain ⟨k1,k2,k3,k4,k5⟩:=af3 hS (e:=gT) hi hC hm (λk ch h=>⟨h,rfl⟩) (λb hb hbr=>by
   obtain ⟨k,ch,L,g1,g2,g3⟩:=hbr
   by_cases hk:k<4
   ·exact aaM _ _ _ _ ⟨k,ch,L,(HO _ _ _ _ g1).2.2.2 hk,(hσ k hk).symm.trans g2,g3⟩
   ·have hk5:=(HO _ _ _ _ g1).1
    obtain rfl:k=4:=by omega
    have:=h4 L g2
    omega) hx hst.mem hp2
  refine ⟨k1,k2,?_,k3,k5⟩
  rw [akN,he']
  exact vH hst.mem (kh _ _ _) (λk ch h=>⟨by rw [hst2];exact akM _ _ _ v.2 h,hσ' k (sd _ _ _ h).1⟩) (λb o h=>by cases h) (λb _=>rfl) k4
end
theorem apV (g:bI ag te gX) {c:Int} {x:ab} {l:List ab} {σ:Nat->Option Sx.Loc} {w1:World} {ys:List (Int×ab)} {W:World} {a1:Act} {D:Nat} (hD:w1.heap.size<=D) (hbase:SV.bx (jo σ (pvH c x gT) w1 []) ((pvB 0).inj (yB c x gT gT)).tm a1.tmps.toList) (ha1:a1.defers= [])
 (hi:pvI c x σ w1 ys W) (hK:W.heap[D]? =some (.deferred (some []))) {R:Ctx} (hF:∀ b o,R.F b=some o\/R.U b=some o->w1.heap[b]? =some o/\¬wh σ (pvH c x gT) b) (hFU:∀ b o,R.F b=some o->R.U b=none) (hhp:R.hp=λ_=>none) (hl:Mi R.U.env w1) {K Kp:SV->Hp->Prop} (hk:∀ hp,K (.agg (unpack .elem (fR c x ys))) hp):
 (Code.seq (ff pvc 3) .ret).wpIn Fence.wide 9 ag (bodyPostM Fence.wide 9 ag Tryz.f27 (Fv R K Kp)) {a1 with defers:= {target:=.collected D,args:= #[]}::a1.defers} W:=by
 refine wpIn_seq ?_
 have hlike:aiA 4 (jo σ (pvH c x gT) w1 []) (kI σ (pvH c x (fR c x ys)) W [{target:=.collected D,args:= #[]}]):=λk ch hk h=>by
  obtain ⟨ch',h1,h2,h3⟩:=PP c x gT (fR c x ys) h
  exact ⟨ch',h1,h2,h3,rfl⟩
 refine (Cj g follows hi.1 (σ:=σ) (st:=(pvB 0).inj (yB c x gT (fR c x ys))) (kh _ _ _) (λk ch h=>⟨h,rfl⟩) (D:=pvB 4) ?_ (λk ch h=>(sd _ _ _ h).1) (pv4 c x gT (fR c x ys)) rfl ?_).1
 ·dsimp only
  rw [ha1]
  exact mE hlike (by kernel_rfl) hbase
 ·intro R' a' W' hx hst
  have hst2:R'.hp=((pvB 4).inj (yB c x (fR c x ys) (fR c x ys))).hp:=hst.hp
  have hD':W'.heap[D]? =some (.deferred (some [])):=(uu hx hst.mem).2 D _ hK λhb=>by
   obtain ⟨arr,E,he⟩:=KO (kh _ _ _) hi.1 (λk ch h=>⟨h,rfl⟩) hb
   rw [hK] at he
   cases he
  have hdf:a'.defers= [{target:=.collected D,args:= #[]}]:=by rw [hst.defers,hx.U];show (_::a1.defers)=_;rw [ha1]
  refine wpIn_ret ?_
  show LeavesInM Fence.wide 9 ag Tryz.f27 a'.tmps (Fv R K Kp) a'.defers .returning W'
  rw [hdf]
  refine ⟨by simp,.inl ⟨_,_,rfl,run_takeDeferred hD',?_⟩⟩
  have hpl:Plain ((pvB 4).inj (yB c x (fR c x ys) (fR c x ys))).hp:=λk ch h=>by
   match k with
   |0=>cases h;exact ⟨rfl,.inl ⟨_,rfl,rfl⟩⟩
   |1=>cases h;exact ⟨rfl,.inr ⟨_,rfl⟩⟩
   |2=>cases h;exact ⟨rfl,.inr ⟨_,rfl⟩⟩
   |3=>cases h;exact ⟨rfl,.inr ⟨_,rfl⟩⟩
   |k+4=>cases h
  obtain ⟨q1,q2⟩:=uu hx hst.mem
  have hlk:Mi w1 W':=hi.1.env.trans q1
  have hg:=grownBy_putObj' W' D (.deferred none)
  have hr:∀ r,some D=some r->w1.heap.size<=r/\∃ o:Obj,W'.heap[r]? =some o/\o.isCells=false:=λr e=>by cases e;exact ⟨hD,_,hD',rfl⟩
  have hm2:=(vH hst.mem hpl (σ:=R'.σ) (U:=⟨λ_=>none,w1,[]⟩) (λk ch h=>⟨by rw [hst2];exact h,rfl⟩) (λb o h=>by cases h) (λb _=>rfl) hlk).grownBy hg hr (λb o h=>by rcases h with h|h<;>cases h)
  have hst3:iF (jo R'.σ ((pvB 4).inj (yB c x (fR c x ys) (fR c x ys))).hp w1 []) ((pvB 4).inj (yB c x (fR c x ys) (fR c x ys))) {tmps:=a'.tmps,defers:= []} (W'.putObj D (.deferred none)):=
   ⟨rfl,hm2,mE (k:=4) (R:=R') (R':=jo R'.σ ((pvB 4).inj (yB c x (fR c x ys) (fR c x ys))).hp w1 []) (λk ch hk h=>⟨ch,by rw [hst2] at h;exact h,rfl,rfl,rfl⟩) (by kernel_rfl) hst.tm,rfl⟩
  obtain ⟨sv,v,e1,e2,e3⟩:=j0 g.ty hst3 (fn:=Tryz.f27) (K:=λz=>z=.agg (unpack .elem (fR c x ys))) (by rw [pv5])
  subst e1
  refine ⟨v,e3,.inl ⟨_,v,R,rfl,Ctx.Ext.refl R,?_,aDJ e2,hk _⟩⟩
  have hkeep:∀ b o,R.F b=some o\/R.U b=some o->(W'.putObj D (.deferred none)).heap[b]? =some o:=λb o h=>by
   obtain ⟨h1,h2⟩:=hF b o h
   exact agZ hg hr (Array.getElem?_eq_some_iff.1 h1).1 (q2 b o (hi.2.2 b o h1 h2) λhb=>h2 (aaM _ _ _ _ hb))
  exact ⟨λb o h=>hkeep b o (.inl h),λb o h=>hkeep b o (.inr h),λk ch h=>(by rw [hhp] at h;cases h),λk k' ch ch' L L' h=>(by rw [hhp] at h;cases h),hFU,hl.trans hm2.env⟩
theorem aDr (c:Int) (l:az) (x:ab) {st:St} (h:st=pvS c l x):wps te gX fC 100 (.seq (ff pvc 0) (.seq (ff pvc 1) (ff (ff pvc 2) 0))) st (onN pvA λs=>s=yA c l x):=by
 rw [h,pv1]
 exact (rfl:yA c l x=yA c l x)
theorem axd {R:Ctx} {w:World} {vs:List Value} (hhp:R.hp=λ_=>none) (hd:R.U.dfs= []) (hm:cu R w) {c:Int} {l:List ab} {x:ab} (ha:SV.bx R [.int c,.lst .elem l,.agg (unpack .elem x)] vs):
 iF R (pvS c l x) {tmps:=vs.toArray++Array.replicate (Tryz.f27.ntmps-vs.toArray.size) undef,defers:= []} w:=by
 have hlen:vs.length=3:=SV.aJ ha
 refine ⟨hhp,hm,?_,hd.symm⟩
 simp only [Array.toList_append,List.toList_toArray,Array.toList_replicate,List.size_toArray,hlen,Tryz.ntmps27]
 exact SV.bz ha (SV.py (by rw [nI,nI]) λi h1 h2=>by rw [List.getElem_replicate,List.getElem_replicate];simp only [SV.rel])
theorem axc {c:Int} {l:List ab} {x:ab} {st:St} (h:wps te gX fC 99 (.seq (ff pvc 1) (ff (ff pvc 2) 0)) st (onN pvA λs=>s=yA c l x)):wps te gX fC 98 (ff pvc 1) st (toN λst=>wps te gX fC 98 (ff (ff pvc 2) 0) st (onN pvA λs=>s=yA c l x)):=SU 98 h rfl aDG
theorem aDs (g:bI ag te gX) {R:Ctx} {w:World} {a:Act} (hsm:Small R 0) {c:Int} {l:List ab} {x:ab} {st:St} (he:st=pvS c l x) (hst:iF R st a w) {n:Nat} {b d:Code} {Q:Exit->Act->World->Prop} (hQ:∀ R1 a1 w1,R.Ext R1->iF R1 (pvA.inj (yA c l x)) a1 w1->b.wpIn Fence.wide n ag (Exit.then (d.wpIn Fence.wide n ag Q) Q) a1 w1):
 (Code.seq (ff pvc 0) (.seq (ff pvc 1) (.seq (.seq (ff (ff pvc 2) 0) b) d))).wpIn Fence.wide n ag Q a w:=by
 refine wpIn_seq (C3 g (R₀:=R) (Ctx.Ext.refl R) hst (SU 99 (aDr c l x he) rfl aDG) aFz λR1 st1 a1 w1 hx1 hst1 h1=> ?_)
 refine wpIn_seq (C3 g (R₀:=R) hx1 hst1 (axc h1) aFz λR2 st2 a2 w2 hx2 hst2 h2=> ?_)
 have h2':wps te gX fC 98 (ff (ff pvc 2) 0) st2 (onN pvA λs=>s=yA c l x):=h2
 refine wpIn_seq (wpIn_seq (C3 g (R₀:=R) hx2 hst2 h2' aDG λR3 st3 a3 w3 hx3 hst3 h3=> ?_))
 obtain ⟨y,R1,rfl,hx,hq⟩:=Shape.xM (R₀:=R) (s:=pvA) hsm hx3 hst3 h3
 exact hQ R1 a3 w3 hx hq
theorem aFQ (c:Int) (l:az) (x:ab):(pvA.inj (yA c l x)).tm[11]? =some (.fn (.func 127) [] [.ptr 4 0 0 0]):=by kernel_rfl
theorem aHz (c:Int) (l:az) (x:ab):(pvA.inj (yA c l x)).hp 4=some ⟨0,.cells [.lst .elem l]⟩:=by kernel_rfl
theorem apH {R:Ctx} {c:Int} {l:List ab} {x:ab} {a:Act} {w:World} (hq:iF R (pvA.inj (yA c l x)) a w):∃ (L:Sx.Loc) (ad:Option Addr) (cap:Nat),R.σ 4=some L/\a.eval (.tmp 11)=.func (.func 127) #[] #[.pointer (some ⟨L.block,L.base,none⟩)]/\
 w.cell? ⟨L.block,L.base,none⟩=some (.slice ad l.length cap)/\L.block<w.heap.size/\Rep R.F (.list .elem) l [.slice ad l.length cap]:=by
 have h:=j6 hq (.tmp 11)
 have e:(pvA.inj (yA c l x)).eval (.tmp 11)=.fn (.func 127) [] [.ptr 4 0 0 0]:=by
  simp only [St.eval,ju,aFQ]
  rfl
 rw [e] at h
 simp only [SV.rel] at h
 obtain ⟨l1,l2,h1,h2,h3⟩:=h
 have hc4:R.hp 4=some ⟨0,.cells [.lst .elem l]⟩:=by rw [hq.hp];exact aHz c l x
 simp only [SV.bx] at h2 h3
 obtain ⟨v,r,rfl,h4,rfl⟩:=h3
 subst h2
 simp only [SV.rel,Ctx.ptr] at h4
 obtain ⟨_,ch,g1,g2,g3⟩:=h4
 rw [hc4] at g1
 cases g1
 obtain ⟨L,g4,rfl⟩:=g3 rfl
 have hm:=hq.mem.ch 4 _ hc4
 simp only [eG] at hm
 obtain ⟨L',k1,_,_,arr,E,k2,k3,k4,k5,_⟩:=hm
 rw [g4] at k1
 cases k1
 simp only [SV.bx,SV.rel] at k5
 obtain ⟨u,r,k6,k7,rfl⟩:=k5
 have k8:=k7
 simp only [Rep] at k8
 obtain ⟨_,ad,cap,k9,_⟩:=k8
 cases k9
 refine ⟨L,ad,cap,g4,by rw [h1];simp,?_,(Array.getElem?_eq_some_iff.1 k2).1,k7⟩
 simp only [World.cell?,k2,Option.isSome_none,Bool.false_eq_true,if_false]
 have:=congrArg (·[0]?) k6
 simp only [List.getElem?_drop,List.getElem?_cons_zero,Nat.add_zero] at this
 rw [<-this]
 exact Array.getElem?_toList.symm
theorem axe {R:Ctx} {w:World} (hm:cu R w) {l:List ab} {ad:Option Addr} {cap:Nat} (h:Rep R.F (.list .elem) l [.slice ad l.length cap]):∃ b off,l.length<=cE/\(0<l.length->ad=some ⟨b,off,none⟩/\∃ o,R.F b=some o)/\
 ∀ j,j<l.length->w.cell? ⟨b,off+j*4,none⟩=some (ee (l.getD j gT).w0)/\w.cell? ⟨b,off+j*4+1,none⟩=some (ee (l.getD j gT).w1)/\w.cell? ⟨b,off+j*4+2,none⟩=some (ee (l.getD j gT).w2)/\w.cell? ⟨b,off+j*4+3,none⟩=some (ee (l.getD j gT).w3):=by
 simp only [Rep] at h
 obtain ⟨h0,ad',cap',h1,h2,h3⟩:=h
 cases h1
 rcases h3 with rfl|⟨b,o,arr,E,fz,rfl,h4,h5,h6⟩
 ·exact ⟨0,0,h0,λh=>absurd h (Nat.lt_irrefl 0),λj hj=>absurd hj (Nat.not_lt_zero j)⟩
 ·refine ⟨b,o,h0,λ_=>⟨rfl,_,h4⟩,λj hj=> ?_⟩
  have h7:seg arr.toList (o+j*4) 4= [ee (l.getD j gT).w0,ee (l.getD j gT).w1,ee (l.getD j gT).w2,ee (l.getD j gT).w3]:=h6 j hj
  have hb:=hm.F b _ h4
  have at_:∀ i,i<4->w.cell? ⟨b,o+j*4+i,none⟩= [ee (l.getD j gT).w0,ee (l.getD j gT).w1,ee (l.getD j gT).w2,ee (l.getD j gT).w3][i]? :=λi hi=>by
   rw [<-h7]
   simp only [World.cell?,hb,Option.isSome_none,Bool.false_eq_true,if_false,seg]
   rw [List.getElem?_take_of_lt hi,List.getElem?_drop]
   exact Array.getElem?_toList.symm
  exact ⟨at_ 0 (by omega),at_ 1 (by omega),at_ 2 (by omega),at_ 3 (by omega)⟩
theorem aaU (g:bI ag te gX) {R:Ctx} {w:World} {vs:List Value} {K Kp:SV->Hp->Prop} (hsm:Small R 0) (hd:R.U.dfs= []) (hm:cu R w) {c:Int} {l:List ab} {x:ab} (ha:SV.bx R [.int c,.lst .elem l,.agg (unpack .elem x)] vs) (hs:ac c=true)
 (hk:∀ hp,K (.agg (unpack .elem (L0 (pS c) x l))) hp):Calls ag 27 vs.toArray w (Fv R K Kp):=by
 have hhp:R.hp=λ_=>none:=funext λk=>by
  cases h:R.hp k with
  |none=>rfl
  |some ch=>exact absurd (hsm k ch h).1 (Nat.not_lt_zero _)
 refine (callsIn_wide (n:=9)).1 (callsIn_of_wp_marks (F:=Fence.wide) (n:=9) (c:=pvc) Tryz.func27 (by kernel_rfl) trivial ?_ rfl)
 rw [aFP]
 refine aDs g hsm rfl (axd hhp hd hm ha) λR1 a1 w1 hx hq=> ?_
 obtain ⟨L4,ad,cap,hL4,e11,hc4,hb4,hrep⟩:=apH hq
 have hF1:∀ {k:Nat},wh R1.σ (pvH c x gT) k->R1.F k=none/\R1.U k=none/\k≠L4.block:=λ{k} hb=>by
  obtain ⟨j,ch,L,g1,g2,rfl⟩:=hb
  have hj:=sd _ _ _ g1
  have g1':R1.hp j=some ch:=by rw [hq.hp];exact aDw c l x g1
  have hmu:ch.body.mut=true:=by rcases hj.2.2 with ⟨vs,h,_⟩|⟨xs,h⟩<;>rw [h]<;>rfl
  refine ⟨((dr hq.mem g1' g2).1 hmu).1,((dr hq.mem g1' g2).1 hmu).2,λe=> ?_⟩
  have:=hq.mem.apart j 4 ch _ L L4 g1' (by rw [hq.hp];rfl:R1.hp 4=some ⟨0,.cells [.lst .elem l]⟩) hmu rfl g2 hL4 e
  omega
 have hbase:SV.bx (jo R1.σ (pvH c x gT) w1 []) ((pvB 0).inj (yB c x gT gT)).tm a1.tmps.toList:=by
  have h1:=SV.Am hq.tm 11 (x:=.fY) (v:=a1.tmps.toList.getD 11 undef) (by simp only [SV.rel])
  have e:a1.tmps.toList.set 11 (a1.tmps.toList.getD 11 undef)=a1.tmps.toList:=by
   have hl:11<a1.tmps.toList.length:=by rw [SV.aJ hq.tm];exact (by decide:11<22)
   rw [ju,ui hl]
   exact List.set_getElem_self hl
  rw [e] at h1
  exact mE (k:=4) (R:=R1) (λk ch hk h=>by
   obtain ⟨ch',h'⟩:=F2 c x gT hk
   have:=aDw c l x h'
   rw [hq.hp] at h
   rw [h] at this
   have e:=Option.some.inj this
   exact ⟨ch',h',by rw [e],by rw [e],rfl⟩) (by kernel_rfl) h1
 have hdf:a1.defers= []:=by rw [hq.defers,hx.U];exact hd
 obtain ⟨b,off,hb1,hb2,hb3⟩:=axe hq.mem hrep
 have hS:∀ k,(k=L4.block\/(0<l.length/\k=b))->k<w1.heap.size/\¬wh R1.σ (pvH c x gT) k:=λk hk=>by
  rcases hk with rfl|⟨h0,rfl⟩
  ·exact ⟨hb4,λhb=>(hF1 hb).2.2 rfl⟩
  ·obtain ⟨_,o,ho⟩:=hb2 h0
   exact ⟨(Array.getElem?_eq_some_iff.1 (hq.mem.F _ o ho)).1,λhb=>by rw [(hF1 hb).1] at ho;cases ho⟩
 refine wpIn_block (wpIn_rangeFunc_ownH (F:=Fence.wide) rfl (by decide) e11 trivial (enters_of Tryz.func127 (by kernel_rfl) rfl)
  (anA 8 (by decide) (S:=λk=>k=L4.block\/(0<l.length/\k=b)) (by have h:l.length<=140737488355328:=hb1;omega) (.inl rfl) (λh0=>⟨(hb2 h0).1,.inr ⟨h0,rfl⟩⟩) (λk hk=>(hS k hk).1) hc4 hb3)
  (λh1 h2 k hk=>(h2 k hk).trans (h1 k hk)) (λW j o o' hj _ _ _ k hk=>World.putObj_heap_other (λe=>by have:=(hS k hk).1;omega)) (Below.refl _ _) (λ_=>rfl)
  (pvI c x R1.σ w1) (λ_ _ _=>False) (aDv c x R1.σ w1) (λ_ _ _ _ _ hs _ _=>hs) ?h0 (pvX c x R1.σ w1) (λv a'=>aDu c x R1.σ w1 v a') ?assign ?body ?done ?stop)
 case h0=>exact ⟨vH hq.mem (kh _ _ _) (λk ch h=>⟨by rw [hq.hp];exact aDw c l x h,rfl⟩) (λb o h=>by cases h) (λb _=>rfl) ⟨rfl,rfl,rfl⟩,Nat.le_refl _,λb o h _=>h⟩
 case assign=>exact λl' pre v W K hi hK=>apI hS g hbase hi hK
 case body=>exact λl' pre v a' W _ _ hi ha _=>aDt hs hS g hi ha _
 case done=>
  intro D ys W hD hys hi hK
  refine apV g (l:=l) hD hbase hdf hi hK (λk o h=> ?_) hm.FU hhp (by have:=hq.mem.env;rw [hx.U] at this;exact this) (λhp=>by rw [apJ c x ys l hys];exact hk hp)
  rcases h with h|h
  ·exact ⟨hq.mem.F _ _ (hx.F _ _ h),λhb=>by have:=hx.F _ _ h;rw [(hF1 hb).1] at this;cases this⟩
  ·have h':R1.U k=some o:=by rw [hx.U];exact h
   exact ⟨hq.mem.U _ _ h',λhb=>by rw [(hF1 hb).2.1] at h';cases h'⟩
 case stop=>exact λD c pre W _ _ h _=>h.elim
theorem axl:aa ag 27 (P4.aw Az apW):=by
 refine ash (W:=λargs hp K Kp=>∃ x:apX,args=(P4.inp.inj x).tm/\ac x.1.1=true/\∀ hp,K (.agg (unpack .elem (L0 (pS x.1.1) x.1.2.2.1 x.1.2.1))) hp) Tryz.func27 rfl (by kernel_rfl) (k:=0) rfl (λR w args vs K Kp hsm hd hm ha hw=> ?_) λx oy hp hr=> ?_
 ·obtain ⟨⟨⟨c,l,x,⟨⟩⟩,⟨⟩⟩,rfl,hs,hk⟩:=hw
  exact aaU YD hsm hd hm ha hs hk
 ·cases hr
  exact ⟨λv hp=>(P0).is ((L0 (pS x.1.1) x.1.2.2.1 x.1.2.1,()),()) false v hp,λ_ _=>False,⟨x,rfl,hp,λhp'=>⟨rfl,apU _ hp'⟩⟩,λv hp h=>h,λ_ _ h=>h.elim⟩
def CV:bi:=(P4.aw Az apW)
theorem aaT:aa ag 27 CV:=axl
theorem aaS:au CV:=aq
def au5:Env:=ap 27 CV gX
theorem YK:bI ag te au5:=aP follows YD aaT aaS
end
section
open Sx Go
set_option maxRecDepth 100000
def yE:af:=⟨jz,[],false,0,false⟩
def Q6:aH:=⟨fG,[],false⟩
def A7:aH:=⟨zy,[],true⟩
abbrev Wb:Type:=aif
def arz (a0:ab) (a1:Int):OT yE.Y:=
 (.br (a1==(0:Int))
 (.br (!(a0.w0==(0:UInt64)&&(a0.w1==(0:UInt64)&&(a0.w2==(0:UInt64)&&(a0.w3==(0:UInt64)&&true)))))
  (.ok ⟨Q6,((a0,()),())⟩)
  (.ok ⟨A7,(((100:Int),()),())⟩))
 (.ok ⟨A7,((a1,()),())⟩))
theorem al4 (pre:Wb->Bool) (F:Wb->OT yE.Y) (hF:∀ (x:Wb) oy,pre x=true->(F x).run=some oy->(arz x.1.1 x.1.2.1).run=some oy):aa ag 66 (yE.aw pre F):=
 aEg YK 66 Tryz.f66 yE [Q6] [A7] bw (λx=>arz x.1.1 x.1.2.1) hF
def Wa (_:Wb):Bool:=true
def arA (x:Wb):OT yE.Y:=.br (x.1.2.1==0) (.br (bJ x.1.1) (.ok ⟨A7,(((100:Int),()),())⟩) (.ok ⟨Q6,((x.1.1,()),())⟩)) (.ok ⟨A7,((x.1.2.1,()),())⟩)
theorem ayj:aa ag 66 (yE.aw Wa arA):=al4 _ _ λx oy hp ho=>by
 rw [<-ho]
 obtain ⟨⟨v,e,⟨⟩⟩,⟨⟩⟩:=x
 show (OT.br (e==0) (OT.br (!bJ v) _ _) _).run=(OT.br (e==0) (OT.br (bJ v) _ _) _).run
 cases e==0
 ·rfl
 ·cases bJ v<;>rfl
def DB:bi:=(yE.aw Wa arA)
theorem acs:aa ag 66 DB:=ayj
theorem acr:au DB:=aq
def avi:Env:=ap 66 DB au5
theorem YW:bI ag te avi:=aP follows YK acs acr
def nv:af:=⟨[.val true aAw,aB],[],true,0,false⟩
def A1:aH:=⟨[],[],false⟩
def sS:aH:=⟨zy,[],true⟩
abbrev I5:Type:=(kP×eE)×Unit
def agG (a0:kP) (a1:Int):OT nv.Y:=
 let z0:Int:=gA a0
 (gd [ix ((a0,()),())] (.br (z0==(0:Int))
 (.br (a1==a0.fst)
  (.ok ⟨A1,((),())⟩)
  (.ok ⟨sS,(((40:Int),()),())⟩))
 (.ok ⟨sS,((z0,()),())⟩)))
theorem ab8 (pre:I5->Bool) (F:I5->OT nv.Y) (hF:∀ (x:I5) oy,pre x=true->(F x).run=some oy->(agG x.1.1 x.1.2.1).run=some oy):aa ag 58 (nv.aw pre F):=
 aEg YW 58 Tryz.f58 nv [A1] [sS] bw (λx=>agG x.1.1 x.1.2.1) hF
def vh (x:I5):Bool:=ix ((x.1.1,()),())
def kR (p:rG) (c:Int):Int:=cond (gA p==0) (cond (c==p.1) 0 40) (gA p)
def agH (x:I5):OT nv.Y:=.br (kR x.1.1 x.1.2.1==0) (.ok ⟨A1,((),())⟩) (.ok ⟨sS,((kR x.1.1 x.1.2.1,()),())⟩)
theorem arb:aa ag 58 (nv.aw vh agH):=ab8 _ _ λx oy hp ho=>by
 rw [<-ho]
 obtain ⟨⟨p,c,⟨⟩⟩,⟨⟩⟩:=x
 refine (ae (bs:= [ix ((p,()),())]) (by rw [ax,show ix ((p,()),())=true from hp];rfl)).trans ?_
 show _=(OT.br (kR p c==0) (.ok ⟨A1,((),())⟩) (.ok ⟨sS,((kR p c,()),())⟩):OT nv.Y).run
 unfold kR
 cases h:gA p==0
 ·simp only [bo,h];rfl
 ·cases c==p.1<;>rfl
def yi:bi:=(nv.aw vh agH)
theorem VK:aa ag 58 yi:=arb
theorem VJ:au yi:=aq
def aiZ:Env:=ap 58 yi avi
theorem Es:bI ag te aiZ:=aP follows YW VK VJ
end
section
namespace Sx
open Go
def aAv:SV->Bool
 |.bool _|.u64 _|.u8 _|.int _|.str _|.lst .. =>true
 |_=>false
def Ty.aqj:Ty->Bool
 |.prod a b=>a.aqj&&b.aqj
 |.arr .. =>false
 |_=>true
theorem C5 {ok:Nat->Bool} {hp:Hp}:∀ (t:Ty) (cs:List SV) (x:t.T),t.aqj=true->kp ok hp t cs=some x->cs.all aAv=true->unpack t x=cs
 |.bool,cs,x,_,h,_=>by
  simp only [kp] at h;unfold alf at h
  split at h<;>first|(cases h;rfl)|cases h
 |.u64,cs,x,_,h,_=>by
  simp only [kp] at h;unfold aFd at h
  split at h<;>first|(cases h;rfl)|cases h
 |.u8,cs,x,_,h,_=>by
  simp only [kp] at h;unfold pU8 at h
  split at h<;>first|(cases h;rfl)|cases h
 |.int,cs,x,_,h,_=>by
  simp only [kp] at h;unfold aFg at h
  split at h<;>first|(cases h;rfl)|cases h
 |.str,cs,x,_,h,_=>by
  simp only [kp] at h;unfold aFe at h
  split at h<;>first|(cases h;rfl)|cases h
 |.elem,cs,x,_,h,_=>by
  simp only [kp] at h;unfold ale at h
  split at h<;>first|(cases h;rfl)|cases h
 |.prod a b,cs,x,hn,h,hc=>by
  simp only [Ty.aqj,av] at hn
  simp only [kp] at h
  obtain ⟨h1,h2⟩:=aU h
  have hc':=List.all_eq_true.1 hc
  simp only [unpack]
  rw [C5 a _ _ hn.1 h1 (List.all_eq_true.2 λy hy=>hc' y (List.mem_of_mem_take hy)),C5 b _ _ hn.2 h2 (List.all_eq_true.2 λy hy=>hc' y (List.mem_of_mem_drop hy)),List.take_append_drop]
 |.arr n t,cs,x,hn,_,_=>by cases hn
 |.list t,cs,x,_,h,hc=>by
  simp only [kp] at h
  split at h
  ·unfold aFf at h
   split at h
   ·rename_i y
    cases y<;>first|(simp only [ax,aA,aC] at hc;cases hc;done)|skip
    case lst t' xs=>
     simp only [tW] at h
     obtain ⟨e,h⟩:=bf h
     subst e
     cases h
     rfl
    all_goals (simp only [tW] at h;cases h)
   ·cases h
  ·cases h
def Out.less (c:Nat):Out->Out
 |.ret e=>.ret ⟨e.v,e.upd.filter λx=> !Nat.beq x.1 c⟩
 |.pan v u=>.pan v (u.filter λx=> !Nat.beq x.1 c)
def Out.upd:Out->List (Nat×Ch)
 |.ret e=>e.upd
 |.pan _ u=>u
def HC (s:bi):bi:=⟨false,λd args hp=>match args.headD .fY with
 |.ptr c _ _ _=>match hp c with
  |some ⟨_,.cells vs⟩=>.guard (vs.all aAv) ((s.f d args hp).map (Out.less c))
  |_=>.fail
 |_=>.fail⟩
theorem uK {c:Nat} {ch:Ch}:∀ {u:List (Nat×Ch)} {hp:Hp},hp c=some ch->(∀ x ∈ u,x.1=c->x.2=ch)->cG hp (u.filter λx=> !Nat.beq x.1 c)=cG hp u
 | [],_,_,_=>rfl
 |(n,h)::r,hp,hc,hu=>by
  have hr:∀ x ∈ r,x.1=c->x.2=ch:=λx hx=>hu x (List.mem_cons_of_mem _ hx)
  cases hb:Nat.beq n c
  ·have hne:c≠n:=λe=>by subst e;simp at hb
   rw [List.filter_cons_of_pos (by simp [hb])]
   simp only [cG]
   exact uK (by rw [if_neg hne];exact hc) hr
  ·have e:=aX hb
   subst e
   rw [List.filter_cons_of_neg (by simp [hb])]
   simp only [cG]
   have:(λm=>if m=n then some h else hp m)=hp:=funext λm=>by
    split
    ·rename_i e;subst e;rw [hc];exact congrArg some (hu (m,h) (List.mem_cons_self ..) rfl)
    ·rfl
   rw [this]
   exact uK hc hr
theorem aeD {ν:Nm}:∀ {l:List (Nat×CSh)} {x:FO l} {y:Nat×Ch},y ∈ kb ν l x->∃ q ∈ l,(ν q.1).1=y.1
 | [],_,_,h=>by cases h
 |c::r,x,y,h=>by
  rcases List.mem_cons.1 h with rfl|h
  ·exact ⟨c,List.mem_cons_self ..,rfl⟩
  ·obtain ⟨q,h1,h2⟩:=aeD h
   exact ⟨q,List.mem_cons_of_mem _ h1,h2⟩
theorem BK {tm:List SV}:∀ {l:List (Nat×Sh)} {b:Bd} {n:Nat} {o:Option Nat},du b n=some o->du (oC tm l b) n=some o
 | [],_,_,_,h=>h
 |(i,s)::r,b,n,o,h=>by
  simp only [oC]
  exact BK (KN h)
def azT (t:Ty) {sl:List Sh} {b m:Bool} (F:af.T ⟨sl,[(0,.cells [.val true t])],b,1,m⟩->OT (af.Y ⟨sl,[(0,.cells [.val true t])],b,1,m⟩)):Prop:=
 ∀ x oy,(F x).run=some oy->∃ (rs:List Sh) (rest:List (Nat×CSh)) (pan:Bool) (y1:SlT (indexed 0 rs)) (y2:FO rest),(rest.all λc=>Nat.ble 1 c.1)=true/\oy=⟨⟨rs,(0,.cells [.val true t])::rest,pan⟩,(y1,(x.2.1,y2))⟩
theorem HB {P:Program} {f:FuncId} {t:Ty} {sl:List Sh} {b m:Bool} (ht:t.aqj=true) {pre:af.T ⟨.ptr 0 0 0::sl,[(0,.cells [.val true t])],b,1,m⟩->Bool} {F:af.T ⟨.ptr 0 0 0::sl,[(0,.cells [.val true t])],b,1,m⟩->OT (af.Y ⟨.ptr 0 0 0::sl,[(0,.cells [.val true t])],b,1,m⟩)}
 (hF:azT t F) (h:aa P f (af.aw ⟨.ptr 0 0 0::sl,[(0,.cells [.val true t])],b,1,m⟩ pre F)):aa P f (HC (af.aw ⟨.ptr 0 0 0::sl,[(0,.cells [.val true t])],b,1,m⟩ pre F)):=by
 refine ⟨λR w d args vs out hm hr hrun=> ?_⟩
 simp only [HC] at hrun
 split at hrun
 ·rename_i c e i off ha
  split at hrun
  ·rename_i ep cs hc
   obtain ⟨hpl,hrun⟩:=OT.aD hrun
   obtain ⟨out',h1,rfl⟩:=OT.run_map hrun
   have key:∀ x ∈ out'.upd,x.1=c->x.2=⟨ep,.cells cs⟩:=by
    have h2:=h1
    simp only [af.aw] at h2
    split at h2
    ·cases h2
    ·rename_i x hx
     obtain ⟨_,h2⟩:=OT.aD h2
     obtain ⟨oy,h3,h4⟩:=OT.run_bind h2
     obtain ⟨rs,rest,pan,y1,y2,hrest,rfl⟩:=hF x oy h3
     unfold af.emit at h4
     dsimp only at h4
     obtain ⟨hend,h5⟩:=OT.aD h4
     unfold Shape.prj at hx
     dsimp only at hx
     generalize hbd:(af.inp ⟨.ptr 0 0 0::sl,[(0,.cells [.val true t])],b,1,m⟩).bd ⟨args,R.hp⟩=bd at hx h5 hend
     have hb0:du bd 0=some (some c):=by
      rw [<-hbd]
      show du (fb R.hp _ (oC args ((0,.ptr 0 0 0)::indexed 1 sl) [])) 0=_
      refine j8 ?_
      simp only [oC]
      cases args with
      |nil=>cases ha
      |cons a r=>
       replace ha:a=.ptr c e i off:=ha
       subst ha
       exact BK rfl
     cases hb:(af.inp ⟨.ptr 0 0 0::sl,[(0,.cells [.val true t])],b,1,m⟩).KT ⟨args,R.hp⟩ bd&&Nat.beq args.length (af.inp ⟨.ptr 0 0 0::sl,[(0,.cells [.val true t])],b,1,m⟩).n
     ·rw [hb] at hx;cases hx
     ·rw [hb] at hx
      obtain ⟨_,hx2⟩:=aU hx
      obtain ⟨hx3,_⟩:=aU hx2
      simp only [kl,hb0,hc,iS,li] at hx3
      obtain ⟨hx4,hx5⟩:=aU hx3
      have hx6:=C5 t _ _ ht hx4 (List.all_eq_true.2 λy hy=>List.all_eq_true.1 hpl y (List.mem_of_mem_take hy))
      have hnil:cs.drop (Sh.val true t).size= []:=by
       cases hd:cs.drop (Sh.val true t).size with
       |nil=>rfl
       |cons a l=>rw [hd] at hx5;cases hx5
      have hcs:unpack t x.2.1.1=cs:=by
       rw [hx6]
       exact (List.append_nil _).symm.trans ((congrArg (_++ ·) hnil.symm).trans (List.take_append_drop _ _))
      have hu:out'.upd=(c,⟨ep,.cells (unpack t x.2.1.1++ [])⟩)::kb (af.nm ⟨.ptr 0 0 0::sl,[(0,.cells [.val true t])],b,1,m⟩ bd R.hp (fresh R.hp d)) rest y2:=by
       have e1:nameOf bd 0=c:=by unfold nameOf;rw [hb0]
       have e2:Zj R.hp c=ep:=by unfold Zj;rw [hc]
       have:out'.upd=kb (af.nm ⟨.ptr 0 0 0::sl,[(0,.cells [.val true t])],b,1,m⟩ bd R.hp (fresh R.hp d)) ((0,.cells [.val true t])::rest) (x.2.1,y2):=by
        cases pan<;>(cases h5;rfl)
       rw [this]
       show ((nameOf bd 0,_):Nat×Ch)::_=_
       show ((nameOf bd 0,(⟨Zj R.hp (nameOf bd 0),.cells (unpack t x.2.1.1++ [])⟩:Ch)):Nat×Ch)::_=_
       rw [e1,e2]
      rw [hu]
      intro y hy hyc
      rcases List.mem_cons.1 hy with rfl|hy
      ·rw [List.append_nil,hcs]
      ·exfalso
       obtain ⟨q,hq,hqn⟩:=aeD hy
       have hq1:=List.all_eq_true.1 hrest q hq
       unfold af.nV at hend
       simp only [av,fX] at hend
       have h7:=hend.2.2.2 q (List.mem_cons_of_mem _ hq)
       have hnb:Nat.blt q.1 1=false:=by
        have:=Nat.le_of_ble_eq_true hq1
        cases hz:Nat.blt q.1 1
        ·rfl
        ·have:=db hz;omega
       have h8:=h7.2
       rw [hnb,Bool.false_or,av] at h8
       have h9:=h8.2
       have:(af.nm ⟨.ptr 0 0 0::sl,[(0,.cells [.val true t])],b,1,m⟩ bd R.hp (fresh R.hp d) q.1).1=fresh R.hp d+(q.1-1):=by
        simp only [af.nm,hnb,bo]
       rw [this] at hqn
       rw [hqn,hyc,hc] at h9
       cases h9
   have hpost:∀ en w',ik R out' en w'->ik R (out'.less c) en w':=λen w' hp=>by
    cases out' with
    |ret q=>
     obtain ⟨v,R',h2,h3,h4⟩:=hp
     exact ⟨v,R',h2,⟨h3.ext,h3.hp.trans (uK hc key).symm,h3.mem⟩,h4⟩
    |pan q u=>
     obtain ⟨v,R',h2,h3,h4⟩:=hp
     exact ⟨v,R',h2,⟨h3.ext,h3.hp.trans (uK hc key).symm,h3.mem⟩,h4⟩
   rcases h.calls R w d args vs out' hm hr h1 with ⟨fn,f1,f2,f3,hcl⟩|⟨v,w',hv,hp⟩
   ·exact .inl ⟨fn,f1,f2,f3,hcl.mono hpost⟩
   ·exact .inr ⟨v,w',hv,hpost _ _ hp⟩
  ·cases hrun
 ·cases hrun
theorem xr {s:bi} (h:au s):au (HC s):=λd args hp hp' out hg hrun=>by
 simp only [HC] at hrun⊢
 split at hrun
 ·split at hrun
  ·rename_i ep cs hc
   rw [hg.mj _ _ hc]
   obtain ⟨hpl,hrun⟩:=OT.aD hrun
   obtain ⟨out',h1,rfl⟩:=OT.run_map hrun
   exact (OT.ak hpl).trans (Df (h d _ _ _ out' hg h1))
  ·cases hrun
 ·cases hrun
end Sx
end
section
open Sx Go
set_option maxRecDepth 100000
abbrev aa5:Ty:=.prod aAw (.prod .int (.prod .elem (.prod (.list .elem) (.prod (.list .elem) (.prod (.list (.prod .elem (.prod .elem .bool))) .elem)))))
def ql:af:=⟨[dW,jt,jt],[(0,.cells [.val true aa5])],false,1,false⟩
abbrev Jt:Type:=(Unit×az×fq)×tX×Unit
def art:Shape:=⟨35,[zw,(1,jt),(2,jt),jy,(7,fu),(10,aB),(11,aB)],[rc,oR,kW],1,true⟩
abbrev eX:Type:=(Unit×az×az×rv)×tX×wg
def qk:Shape:=⟨35,[jy,(7,fu)],[rc,oR,kW],1,true⟩
abbrev sX:Type:=mK×tX×wg
def arw (a1:az) (a2:az) (a10:Int) (a11:Int) (c0_0:FM) (c1:ao) (c2:ao):OT (Sum eX aT):=
 let z0:Nat:=List.length c2
 let z1:Nat:=Int.toNat a11
 let z2:ab:= {w0:=0,w1:=0,w2:=0,w3:=0}
 let z3:ab:=List.getD a1 z1 z2
 let z4:ab:=List.getD a2 z1 z2
 let z5:ab:= {w0:=List.getD c2 0 0,w1:=List.getD c2 1 0,w2:=List.getD c2 2 0,w3:=List.getD c2 3 0}
 let z6:Nat:=pS c0_0.snd.fst
 let z7:ab:=aQ z6 z3 z4
 let z8:ab:=fp z6 z5 z7
 (.br (decide (a11<a10))
 (gd [decide (4<=z0),inB a11 (List.length a1),inB a11 (List.length a2),dS ((c0_0.snd.fst,z3,z4,()),()),hZ ((c0_0.snd.fst,z5,z7,()),()),decide ((4/1:Nat)+0<=z0),inR (a11+(1:Int))] (.ok (.inl (((),a1,a2,(),(),a10,a11+(1:Int),()),(c0_0,()),c1,List.set (List.set (List.set (List.set c2 0 z8.w0) 1 z8.w1) 2 z8.w2) 3 z8.w3,()))))
 (.ok (.inr ⟨(.exit 0,qk),(((),(),()),(c0_0,()),c1,c2,())⟩)))
def A5 (s:eX):OT (Sum eX aT):=arw s.1.2.1 s.1.2.2.1 s.1.2.2.2.2.2.1 s.1.2.2.2.2.2.2.1 s.2.1.1 s.2.2.1 s.2.2.2.1
def V2 (g0_0:eX->sX) (s:eX):OT aT:=(.ok ⟨(.exit 0,qk),g0_0 s⟩)
def Js:aH:=⟨fG,[rc],false⟩
section
variable (ok0:eX->Bool) (g0_0:eX->sX)
def agS (a1:az) (a2:az) (c0_0:FM):OT ql.Y:=
 let z0:eX:=(((),a1,a2,(),(),(↑(List.length a1):Int),(0:Int),()),(c0_0,()),[(0:UInt64),(0:UInt64),(0:UInt64),(0:UInt64)],[(0:UInt64),(0:UInt64),(0:UInt64),(0:UInt64)],())
 let z1:=(g0_0 z0).snd
 let z2:=z1.snd
 let z3:=z2.snd.fst
 let z4:=z2.fst
 let z5:ao:=lay z4 z3 4 (0:UInt64)
 (gd [ok0 z0,decide (4<=List.length z3),decide ((4/1:Nat)+0<=List.length z4),decide (4<=List.length z5)] (.ok ⟨Js,(({w0:=List.getD z5 0 0,w1:=List.getD z5 1 0,w2:=List.getD z5 2 0,w3:=List.getD z5 3 0},()),(z1.fst.fst,()),())⟩))
theorem ack (h0:aY A5 ok0 (V2 g0_0)) (pre:Jt->Bool) (F:Jt->OT ql.Y) (hF:∀ (x:Jt) oy,pre x=true->(F x).run=some oy->(agS ok0 g0_0 x.1.2.1 x.1.2.2.1 x.2.1.1).run=some oy):aa ag 164 (ql.aw pre F):=
 cC Es 164 Tryz.f164 ql [Js] (js Es 0 art [(0,qk)] none none A5 bw h0 bw) (λx=>agS ok0 g0_0 x.1.2.1 x.1.2.2.1 x.2.1.1) hF
end
theorem ba {a b:Bool} (h:a=true) (k:b=true):(a&&b)=true:=by rw [h,k];rfl
abbrev Lf:Type:=rG×(Int×(ab×(List ab×(List ab×(List Pt×ab)))))
def aGc (m:Nat) (a b:az) (k:Nat) (e:ab):ab:=fp m e (aQ m (a.getD k ⟨0,0,0,0⟩) (b.getD k ⟨0,0,0,0⟩))
def aHd (m:Nat) (a b:az):ab:=upto (aGc m a b) gT a.length
def Nt (s:eX):Bool:=decide (s.1.2.2.2.2.2.1=(s.1.2.1.length:Int)/\s.1.2.2.2.2.2.2.1=0/\s.1.2.1.length<=s.1.2.2.1.length/\s.1.2.1.length<=140737488355328/\s.2.2.2.1=eL gT)&&ac s.2.1.1.2.1
def V1 (s:eX):sX:=(((),(),()),s.2.1,s.2.2.1,eL (aHd (pS s.2.1.1.2.1) s.1.2.1 s.1.2.2.1),())
theorem arv:aY A5 Nt (V2 V1):=by
 rintro ⟨⟨⟨⟩,a,b,⟨⟩,⟨⟩,n,i,⟨⟩⟩,⟨⟨o,⟨⟩⟩,c1,c2,⟨⟩⟩⟩ h
 have h':(decide (n=(a.length:Int)/\i=0/\a.length<=b.length/\a.length<=140737488355328/\c2=eL gT)&&ac o.2.1)=true:=h
 rw [av] at h'
 obtain ⟨rfl,rfl,hl,hm,rfl⟩:=bh h'.1
 have hs:=h'.2
 have:=(aW (T:=A5) (λk e=>((((),a,b,(),(),(a.length:Int),(k:Int),()),(o,()),c1,eL e,()):eX)) (aGc (pS o.2.1) a b)
  (λe=>(⟨(.exit 0,qk),(((),(),()),(o,()),c1,eL e,())⟩:aT)) a.length gT (λ_ _=>True) trivial (λk e hk _=>⟨?_,trivial⟩) (λe _=> ?_)).1
 ·obtain ⟨m,hm⟩:=this
  exact ⟨m,_,hm,rfl⟩
 ·refine (OT.ak (aj (by dsimp only;omega))).trans ((ae ?_).trans rfl)
  simp only [ax,aA,aC,av]
  exact ⟨rfl,aR (by omega),aR (by omega),hs,hs,rfl,aL (by omega)⟩
 ·exact OT.al (bn (by dsimp only;omega))
def Dy (x:Jt):Bool:=decide (x.1.2.1.length<=x.1.2.2.1.length/\x.1.2.1.length<=140737488355328)&&ac x.2.1.1.2.1
def QY (x:Jt):OT ql.Y:=.ok ⟨Js,((aHd (pS x.2.1.1.2.1) x.1.2.1 x.1.2.2.1,()),x.2)⟩
theorem al1:aa ag 164 (ql.aw Dy QY):=ack Nt V1 arv _ _ λx oy hp ho=>by
 rw [<-ho]
 obtain ⟨⟨⟨⟩,a,b,⟨⟩⟩,⟨⟨o,⟨⟩⟩,⟨⟩⟩⟩:=x
 have hp':(decide (a.length<=b.length/\a.length<=140737488355328)&&ac o.2.1)=true:=hp
 rw [av] at hp'
 obtain ⟨h1,h2⟩:=bh hp'.1
 refine (ae ?_).trans rfl
 simp only [ax,aA,aC,av]
 exact ⟨ba (aj ⟨rfl,rfl,h1,h2,rfl⟩) hp'.2,rfl,rfl,rfl⟩
theorem V0:azT aa5 (sl:= [.ptr 0 0 0,.val false (.list .elem),.val false (.list .elem)]) (b:=false) (m:=false) QY:=λx oy h=>by
 cases h
 exact ⟨[.val true .elem],[],false,_,(),rfl,rfl⟩
def Jr:bi:=HC (ql.aw Dy QY)
theorem aru:aa ag 164 Jr:=HB rfl V0 al1
theorem al0:au Jr:=xr aq
def yv:bi:=Jr
theorem VZ:aa ag 164 yv:=aru
theorem VY:au yv:=al0
def ai4:Env:=ap 164 yv aiZ
theorem Et:bI ag te ai4:=aP follows Es VZ VY
def yg:af:=⟨[dW,jt,jt,wG,dY],[(0,.cells [.val true aa5])],false,1,false⟩
abbrev VC:Type:=(Unit×az×az×cB×oN)×tX×Unit
def axW:Shape:=⟨68,[zw,(1,jt),(3,wG),(10,oV),(11,.own 2),(41,aB),(42,aB)],[rc,(1,.cells oP),zo],1,true⟩
abbrev gq:Type:=(Unit×az×cB×rv)×tX×rp×oM
def vg:Shape:=⟨68,[zw,(10,oV),(11,.own 2)],[rc,(1,.cells oP),zo],1,true⟩
abbrev yf:Type:=nC×tX×rp×oM
def axZ (a1:az) (a3:cB) (a41:Int) (a42:Int) (c0_0:FM) (c1_0:cM) (c2:cY):OT (Sum gq aT):=
 let z0:Nat:=Int.toNat a42
 let z1:ab:= {w0:=0,w1:=0,w2:=0,w3:=0}
 (.br (decide (a42<a41))
 (gd [inB a42 (List.length a1),inB a42 (List.length a3),decide ((List.length c2+1)*104<=140737488355328),inR (a42+(1:Int))] (.ok (.inl (((),a1,a3,(),(),a41,a42+(1:Int),()),(c0_0,()),(c1_0,()),c2++ [(List.getD a1 z0 z1,List.getD a3 z0 (z1,z1,false))],()))))
 (.ok (.inr ⟨(.exit 0,vg),(((),(),(),()),(c0_0,()),(c1_0,()),c2,())⟩)))
def Gb (s:gq):OT (Sum gq aT):=axZ s.1.2.1 s.1.2.2.1 s.1.2.2.2.2.2.1 s.1.2.2.2.2.2.2.1 s.2.1.1 s.2.2.1.1 s.2.2.2.1
def agF (g0_0:gq->yf) (s:gq):OT aT:=(.ok ⟨(.exit 0,vg),g0_0 s⟩)
def QL:aH:=⟨oP,[rc],false⟩
section
variable (ok0:gq->Bool) (g0_0:gq->yf)
def aq6 (a1:az) (a2:az) (a3:cB) (a4:ab) (c0_0:FM):OT yg.Y:=
 let z0:Nat:=pS c0_0.snd.fst
 let z1:ab:=aHd z0 a1 a2
 let z2:ab:= {w0:=0,w1:=0,w2:=0,w3:=0}
 let z3:gq:=(((),a1,a3,(),(),(↑(List.length a1):Int),(0:Int),()),(c0_0,()),((z2,z2,false),()),[(aQ z0 z1 c0_0.snd.snd.fst,c0_0.fst.snd.snd.snd.snd),(a4,c0_0.fst.snd.snd.snd.fst)],())
 let z4:=(g0_0 z3).snd
 let z5:=z4.fst.fst
 let z6:=z5.fst.fst
 let z7:=z4.snd.snd.fst
 (gd [Dy (((),a1,a2,()),(c0_0,()),()),dS ((c0_0.snd.fst,z1,c0_0.snd.snd.fst,()),()),ok0 z3,oa ((z6,z7,()),())] (.ok ⟨QL,((wc z6 (rE z6 z7),()),(z5,()),())⟩))
theorem alW (h0:aY Gb ok0 (agF g0_0)) (pre:VC->Bool) (F:VC->OT yg.Y) (hF:∀ (x:VC) oy,pre x=true->(F x).run=some oy->(aq6 ok0 g0_0 x.1.2.1 x.1.2.2.1 x.1.2.2.2.1 x.1.2.2.2.2.1 x.2.1.1).run=some oy):aa ag 138 (yg.aw pre F):=
 cC Et 138 Tryz.f138 yg [QL] (js Et 0 axW [(0,vg)] none none Gb bw h0 bw) (λx=>aq6 ok0 g0_0 x.1.2.1 x.1.2.2.1 x.1.2.2.2.1 x.1.2.2.2.2.1 x.2.1.1) hF
end
def TZ (o:Lf) (a b:az) (g:List Pt) (r:ab):List Tm:=upto (Bx g a) [(aQ (pS o.2.1) (aHd (pS o.2.1) a b) o.2.2.1,o.1.2.2.2.2),(r,o.1.2.2.2.1)] a.length
def akl (o:Lf) (a b:az) (g:List Pt) (r:ab):Pt:=wc o.1.1 (rE o.1.1 (TZ o a b g r))
theorem ads (G:List Pt) (l:az) (t:List Tm):∀ n,(upto (Bx G l) t n).length=n+t.length
 |0=>(Nat.zero_add _).symm
 |n+1=>by
  show (upto (Bx G l) t n++ [_]).length=_
  rw [bR,ads G l t n,List.length_singleton]
  omega
def VB (s:gq):Bool:=decide (s.1.2.2.2.2.2.1=(s.1.2.1.length:Int)/\s.1.2.2.2.2.2.2.1=0/\s.1.2.1.length<=s.1.2.2.1.length/\s.1.2.1.length<=1000/\s.2.2.2.1.length=2)
def agE (s:gq):yf:=(((),(),(),()),s.2.1,s.2.2.1,upto (Bx s.1.2.2.1 s.1.2.1) s.2.2.2.1 s.1.2.1.length,())
theorem axY:aY Gb VB (agF agE):=by
 rintro ⟨⟨⟨⟩,a,g,⟨⟩,⟨⟩,n,i,⟨⟩⟩,⟨o,c1,c2,⟨⟩⟩⟩ h
 have h':=bh h
 dsimp only at h'
 obtain ⟨rfl,rfl,hl,hm,h2⟩:=h'
 have:=(aW (T:=Gb) (λk e=>((((),a,g,(),(),(a.length:Int),(k:Int),()),o,c1,e,()):gq)) (Bx g a)
  (λe=>(⟨(.exit 0,vg),(((),(),(),()),o,c1,e,())⟩:aT)) a.length c2 (λk e=>e.length=k+2) h2 (λk e hk hq=>⟨?_,?_⟩) (λe _=> ?_)).1
 ·obtain ⟨m,hm⟩:=this
  exact ⟨m,_,hm,rfl⟩
 ·have hq:e.length=k+2:=hq
  refine (OT.ak (aj (by dsimp only;omega))).trans ((ae ?_).trans rfl)
  simp only [ax,aA,aC,av]
  exact ⟨aR (by omega),aR (by omega),aj (by omega),aL (by omega)⟩
 ·show (e++ [_]).length=_
  rw [bR,show e.length=k+2 from hq]
  rfl
 ·exact OT.al (bn (by dsimp only;omega))
def sP (x:VC):Bool:=decide (x.1.2.1.length<=x.1.2.2.1.length/\x.1.2.1.length<=x.1.2.2.2.1.length/\x.1.2.1.length<=1000)&&(ac x.2.1.1.2.1&&(ac x.2.1.1.1.1&&cH x.2.1.1.1.1 (TZ x.2.1.1 x.1.2.1 x.1.2.2.1 x.1.2.2.2.1 x.1.2.2.2.2.1)))
def ab5 (x:VC):OT yg.Y:=.ok ⟨QL,((akl x.2.1.1 x.1.2.1 x.1.2.2.1 x.1.2.2.2.1 x.1.2.2.2.2.1,()),x.2)⟩
theorem aq5:aa ag 138 (yg.aw sP ab5):=alW VB agE axY _ _ λx oy hp ho=>by
 rw [<-ho]
 obtain ⟨⟨⟨⟩,a,b,g,r,⟨⟩⟩,⟨⟨o,⟨⟩⟩,⟨⟩⟩⟩:=x
 have hp':(decide (a.length<=b.length/\a.length<=g.length/\a.length<=1000)&&(ac o.2.1&&(ac o.1.1&&cH o.1.1 (TZ o a b g r))))=true:=hp
 simp only [av] at hp'
 obtain ⟨h1,h2,h3,h4⟩:=hp'
 obtain ⟨h5,h6,h7⟩:=bh h1
 refine (ae ?_).trans rfl
 simp only [ax,aA,aC,av]
 refine ⟨ba (aj ⟨h5,?_⟩) h2,h2,aj ⟨rfl,rfl,h6,h7,rfl⟩,ba h3 (ba (aj ?_) h4)⟩
 ·show a.length<=140737488355328;omega
 ·show (TZ o a b g r).length<=100000
  unfold TZ
  rw [ads]
  show a.length+2<=100000
  omega
theorem ab4:azT aa5 (sl:= [.ptr 0 0 0,.val false (.list .elem),.val false (.list .elem),.val false (.list (.prod .elem (.prod .elem .bool))),.val true .elem]) (b:=false) (m:=false) ab5:=λx oy h=>by
 cases h
 exact ⟨[.val true (.prod .elem (.prod .elem .bool))],[],false,_,(),rfl,rfl⟩
def QK:bi:=HC (yg.aw sP ab5)
theorem axX:aa ag 138 QK:=HB rfl ab4 aq5
theorem aq4:au QK:=xr aq
def Dn:bi:=QK
theorem ab3:aa ag 138 Dn:=axX
theorem ab2:au Dn:=aq4
def avd:Env:=ap 138 Dn ai4
theorem Lp:bI ag te avd:=aP follows Et ab3 ab2
def yD:af:=⟨[dW,jt,dY],[(0,.cells [.val true aa5])],false,1,false⟩
abbrev V3:Type:=(Unit×az×oN)×tX×Unit
def ayf:Shape:=⟨46,[zw,(1,jt),rB,ry,(8,.own 2),(16,aB),zt],[rc,oR,(2,ft)],1,true⟩
abbrev gw:Type:=(Unit×az×Unit×Int×Unit×jv)×tX×ao×fq
def vm:Shape:=⟨46,[(8,mL)],[rc,(1,ft)],1,true⟩
abbrev yw:Type:=bQ×tX×fq
def ayi (a1:az) (a7:Int) (a16:Int) (a17:Int) (c0_0:FM) (c1:ao) (c2:az):OT (Sum gw aT):=
 let z0:Nat:=List.length a1
 let z1:ab:= {w0:=List.getD c1 0 0,w1:=List.getD c1 1 0,w2:=List.getD c1 2 0,w3:=List.getD c1 3 0}
 let z2:ab:= {w0:=0,w1:=0,w2:=0,w3:=0}
 let z3:ab:=List.getD a1 (Int.toNat (a7+a17)) z2
 let z4:Nat:=Int.toNat a17
 let z5:ab:=List.getD a1 z4 z2
 let z6:Nat:=pS c0_0.snd.fst
 let z7:ab:=aQ z6 z1 z3
 let z8:Nat:=List.length c2
 (.br (decide (a17<a16))
 (gd [inB a17 z0,decide (4<=List.length c1),inR (a7+a17),inB (a7+a17) z0,dS ((c0_0.snd.fst,z1,z3,()),()),hZ ((c0_0.snd.fst,z5,z7,()),()),inB a17 z8,decide (z4<z8),inR (a17+(1:Int))] (.ok (.inl (((),a1,(),a7,(),a16,a17+(1:Int),()),(c0_0,()),c1,List.set c2 z4 (fp z6 z5 z7),()))))
 (.ok (.inr ⟨(.exit 0,vm),(((),()),(c0_0,()),c2,())⟩)))
def Gi (s:gw):OT (Sum gw aT):=ayi s.1.2.1 s.1.2.2.2.1 s.1.2.2.2.2.2.1 s.1.2.2.2.2.2.2.1 s.2.1.1 s.2.2.1 s.2.2.2.1
def agT (g0_0:gw->yw) (s:gw):OT aT:=(.ok ⟨(.exit 0,vm),g0_0 s⟩)
def Q0:aH:=⟨[mL],[rc,(1,ft)],false⟩
section
variable (ok0:gw->Bool) (g0_0:gw->yw)
def Q2 (a1:az) (a2:ab) (c0_0:FM):OT yD.Y:=
 let z0:Int:=Int.tdiv (↑(List.length a1):Int) (2:Int)
 let z1:az:=List.replicate (Int.toNat z0) {w0:=0,w1:=0,w2:=0,w3:=0}
 let z2:gw:=(((),a1,(),z0,(),(↑(List.length z1):Int),(0:Int),()),(c0_0,()),[a2.w0,a2.w1,a2.w2,a2.w3],z1,())
 let z3:=(g0_0 z2).snd
 (gd [true&&inR z0,decide ((0:Int)<=z0)&&decide (z0<=z0)&&decide (z0*(32:Int)<=(140737488355328:Int))&&decide (z0<=(140737488355328:Int)),ok0 z2] (.ok ⟨Q0,(((),()),(z3.fst.fst,()),z3.snd.fst,())⟩))
theorem al2 (h0:aY Gi ok0 (agT g0_0)) (pre:V3->Bool) (F:V3->OT yD.Y) (hF:∀ (x:V3) oy,pre x=true->(F x).run=some oy->(Q2 ok0 g0_0 x.1.2.1 x.1.2.2.1 x.2.1.1).run=some oy):aa ag 139 (yD.aw pre F):=
 cC Lp 139 Tryz.f139 yD [Q0] (js Lp 0 ayf [(0,vm)] none none Gi bw h0 bw) (λx=>Q2 ok0 g0_0 x.1.2.1 x.1.2.2.1 x.2.1.1) hF
end
def ar6 (m:Nat) (a:az) (k:ab) (h:Nat) (i:Nat) (l:az):az:=l.set i (fp m (a.getD i ⟨0,0,0,0⟩) (aQ m k (a.getD (h+i) ⟨0,0,0,0⟩)))
def ar8 (m:Nat) (a:az) (k:ab):az:=upto (ar6 m a k (a.length/2)) (List.replicate (a.length/2) ⟨0,0,0,0⟩) (a.length/2)
def Ju (s:gw):Bool:=decide (s.1.2.2.2.1=((s.1.2.1.length/2:Nat):Int)/\s.1.2.2.2.2.2.1=((s.1.2.1.length/2:Nat):Int)/\s.1.2.2.2.2.2.2.1=0/\s.1.2.1.length<=140737488355328/\s.2.2.1.length=4/\s.2.2.2.1.length=s.1.2.1.length/2)&&ac s.2.1.1.2.1
def Q1 (s:gw):yw:=(((),()),s.2.1,upto (ar6 (pS s.2.1.1.2.1) s.1.2.1 ⟨s.2.2.1.getD 0 0,s.2.2.1.getD 1 0,s.2.2.1.getD 2 0,s.2.2.1.getD 3 0⟩ (s.1.2.1.length/2)) s.2.2.2.1 (s.1.2.1.length/2),())
theorem ayh:aY Gi Ju (agT Q1):=by
 rintro ⟨⟨⟨⟩,a,⟨⟩,h,⟨⟩,n,i,⟨⟩⟩,⟨⟨o,⟨⟩⟩,c1,c2,⟨⟩⟩⟩ h0
 have h1:(decide (h=((a.length/2:Nat):Int)/\n=((a.length/2:Nat):Int)/\i=0/\a.length<=140737488355328/\c1.length=4/\c2.length=a.length/2)&&ac o.2.1)=true:=h0
 rw [av] at h1
 obtain ⟨rfl,rfl,rfl,hm,h4,hc⟩:=bh h1.1
 have hs:=h1.2
 have:=(aW (T:=Gi) (λk e=>((((),a,(),((a.length/2:Nat):Int),(),((a.length/2:Nat):Int),(k:Int),()),(o,()),c1,e,()):gw)) (ar6 (pS o.2.1) a ⟨c1.getD 0 0,c1.getD 1 0,c1.getD 2 0,c1.getD 3 0⟩ (a.length/2))
  (λe=>(⟨(.exit 0,vm),(((),()),(o,()),e,())⟩:aT)) (a.length/2) c2 (λk e=>e.length=a.length/2) hc (λk e hk hq=>⟨?_,?_⟩) (λe _=> ?_)).1
 ·obtain ⟨m,hm⟩:=this
  exact ⟨m,_,hm,rfl⟩
 ·have hq:e.length=a.length/2:=hq
  have e1:(((a.length/2:Nat):Int)+(k:Int))=((a.length/2+k:Nat):Int):=by omega
  refine (OT.ak (aj (by dsimp only;omega))).trans ((ae ?_).trans rfl)
  simp only [ax,aA,aC,av]
  exact ⟨aR (by omega),aj (by omega),aL (by omega),aR (by omega),hs,hs,aR (by omega),aj (by show k<e.length;omega),aL (by omega)⟩
 ·show (List.set _ _ _).length=_
  rw [dm]
  exact hq
 ·exact OT.al (bn (by dsimp only;omega))
def sY (x:V3):Bool:=decide (x.1.2.1.length<=1000)&&ac x.2.1.1.2.1
def acp (x:V3):OT yD.Y:=.ok ⟨Q0,(((),()),x.2.1,ar8 (pS x.2.1.1.2.1) x.1.2.1 x.1.2.2.1,())⟩
theorem ary:aa ag 139 (yD.aw sY acp):=al2 Ju Q1 ayh _ _ λx oy hp ho=>by
 rw [<-ho]
 obtain ⟨⟨⟨⟩,a,k,⟨⟩⟩,⟨⟨o,⟨⟩⟩,⟨⟩⟩⟩:=x
 have hp':(decide (a.length<=1000)&&ac o.2.1)=true:=hp
 rw [av] at hp'
 have h1:=bh hp'.1
 have e:Int.tdiv (a.length:Int) 2=((a.length/2:Nat):Int):=rfl
 show (Q2 Ju Q1 a k o).run=_
 unfold Q2
 dsimp only
 rw [e]
 generalize hh:a.length/2=h at*
 have h2:h<=1000:=by omega
 refine (ae ?_).trans ?_
 ·simp only [ax,aA,aC,av,Bool.true_and]
  refine ⟨aL (by omega),⟨⟨⟨aj (by omega),aj (Int.le_refl _)⟩,aj (by omega)⟩,aj (by omega)⟩,ba (aj ?_) hp'.2⟩
  simp only [bH,nI,hh]
  exact ⟨trivial,trivial,trivial,by omega,rfl,trivial⟩
 ·subst hh
  rfl
theorem aco:azT aa5 (sl:= [.ptr 0 0 0,.val false (.list .elem),.val true .elem]) (b:=false) (m:=false) acp:=λx oy h=>by
 cases h
 exact ⟨[.own 1],[(1,.row .elem)],false,_,_,rfl,rfl⟩
def QZ:bi:=HC (yD.aw sY acp)
theorem ayg:aa ag 139 QZ:=HB rfl aco ary
theorem arx:au QZ:=xr aq
def Dz:bi:=QZ
theorem acn:aa ag 139 Dz:=ayg
theorem acm:au Dz:=arx
def avh:Env:=ap 139 Dz avd
theorem avg:bI ag te avh:=aP follows Lp acn acm
abbrev Tq:af:=jZ
def jC (x:wZ):Bool:=Ct x&&onB x.2.1.1 x.1.2.1
def Tt (x:wZ):OT jZ.Y:=.ok ⟨ke,(((0:Int),()),(x.2.1.1,(),(),()),(x.2.2.1.1,x.2.2.1.2.1,()),x.2.2.2.1++Gr x.2.1.1 x.1.2.1,())⟩
theorem ake:aa ag 92 (Tq.aw jC Tt):=cw (S:=jZ) aoD λx oy hp ho=>by
 have hp':(Ct x&&onB x.2.1.1 x.1.2.1)=true:=hp
 rw [av] at hp'
 exact ⟨hp'.1,(OT.ak (b:=onB x.2.1.1 x.1.2.1) hp'.2).trans ho⟩
def rN:bi:=(Tq.aw jC Tt)
theorem Pg:aa ag 92 rN:=ake
theorem Pf:au rN:=aq
def s6:bi:=rN
theorem Ra:aa ag 92 s6:=Pg
theorem Q9:au s6:=Pf
def YY:Env:=ap 92 s6 avh
theorem zD:bI ag te YY:=aP follows avg Ra Q9
def opC:CSh:=.cells [.val true aa5]
def wrC (k:Nat):CSh:=.cells [.val false .int,.ifp 165 2,.own k]
def lC:af:=⟨[dW,oV,fH],[(0,opC),(1,wrC 4),(2,ub),(3,B3),(4,jA)],false,4,true⟩
def sQ:aH:=⟨[],[(0,opC),(1,wrC 4),(2,ub),(3,B3),(4,jA)],false⟩
def kt:aH:=⟨zy,[(0,opC),(1,wrC 4),(2,ub),(3,B3),(4,jA)],true⟩
abbrev Ds:Type:=nC×tX×kC×jw×fq×df
def aq7:Shape:=⟨188,[zw,(6,BW),(7,Fs),(8,aB),(9,.ptr 7 0 0),(10,K9),(11,.own 9),(115,aB),(116,aB)],aBE,5,true⟩
abbrev eW:Type:=(Unit×Unit×Unit×Int×Unit×rv)×aBq
def qd:Shape:=⟨188,[zw,(6,BW),(7,Fs),(9,.ptr 7 0 0),(10,K9),(11,.own 9)],aBE,5,true⟩
abbrev sR:Type:=(Unit×Unit×K2)×aBq
def ara (a8:Int) (a115:Int) (a116:Int) (c0_0:kP) (c0_1:Int) (c0_2:ab) (c0_5:cB) (c0_6:ab) (c1_0:Int) (c2_0:Int) (c2_1:az) (c3_0:az) (c5:ao) (c6:ao) (c7:ao) (c8:ao) (c9:cB) (c10:az) (c11:az) (c12:aG):OT (Sum eW aT):=
 let z0:Nat:=List.length c0_5
 let z1:Nat:=List.length c9
 let z2:Nat:=Int.toNat a116
 let z3:ab:= {w0:=0,w1:=0,w2:=0,w3:=0}
 let z4:cM:=(z3,z3,false)
 (.br (decide (a116<a115))
 (gd [inB a116 z0,decide (4<=List.length c7),inR (a8+a116),inB (a8+a116) z0,inB a116 z1,decide (z2<z1),inR (a116+(1:Int))] (.ok (.inl (((),(),(),a8,(),(),(),a115,a116+(1:Int),()),(c0_0,c0_1,c0_2,(),(),c0_5,c0_6,()),(c1_0,(),(),()),(c2_0,c2_1,()),(c3_0,()),(),c5,c6,c7,c8,List.set c9 z2 (fS c0_0.fst (List.getD c0_5 z2 z4) (sB c0_0.fst {w0:=List.getD c7 0 0,w1:=List.getD c7 1 0,w2:=List.getD c7 2 0,w3:=List.getD c7 3 0} (List.getD c0_5 (Int.toNat (a8+a116)) z4))),c10,c11,c12,()))))
 (.ok (.inr ⟨(.exit 0,qd),(((),(),(),(),(),(),()),(c0_0,c0_1,c0_2,(),(),c0_5,c0_6,()),(c1_0,(),(),()),(c2_0,c2_1,()),(c3_0,()),(),c5,c6,c7,c8,c9,c10,c11,c12,())⟩)))
def A0 (s:eW):OT (Sum eW aT):=ara s.1.2.2.2.1 s.1.2.2.2.2.2.2.2.1 s.1.2.2.2.2.2.2.2.2.1 s.2.1.1 s.2.1.2.1 s.2.1.2.2.1 s.2.1.2.2.2.2.2.1 s.2.1.2.2.2.2.2.2.1 s.2.2.1.1 s.2.2.2.1.1 s.2.2.2.1.2.1 s.2.2.2.2.1.1 s.2.2.2.2.2.2.1 s.2.2.2.2.2.2.2.1 s.2.2.2.2.2.2.2.2.1 s.2.2.2.2.2.2.2.2.2.1 s.2.2.2.2.2.2.2.2.2.2.1 s.2.2.2.2.2.2.2.2.2.2.2.1 s.2.2.2.2.2.2.2.2.2.2.2.2.1 s.2.2.2.2.2.2.2.2.2.2.2.2.2.1
def VI (g0_0:eW->sR) (s:eW):OT aT:=(.ok ⟨(.exit 0,qd),g0_0 s⟩)
section
variable (ok0:eW->Bool) (g0_0:eW->sR)
def Gc (c0_0:FM) (c1_0:Int) (c2_0:Int) (c2_1:az) (c3_0:az) (c4:aG):OT lC.Y:=
 let z0:PUnit×PUnit:=((),())
 let z1:mI:=ay c3_0
 let z2:=z1.snd
 let z3:=z2.fst
 let z4:=z2.snd
 let z5:mI:=ay z4
 let z6:=z5.snd
 let z7:=z6.fst
 let z8:Nat:=List.length c0_0.snd.snd.snd.fst
 let z9:Int:=(↑z8:Int)
 let z10:Int:=Int.tdiv z9 (2:Int)
 let z11:Nat:=List.length c0_0.snd.snd.snd.snd.fst
 let z12:Nat:=List.length c0_0.snd.snd.snd.snd.snd.fst
 let z13:Nat:=Int.toNat z10
 let z14:az:=List.drop z13 c0_0.snd.snd.snd.fst
 let z15:az:=List.drop 0 (List.take z13 c0_0.snd.snd.snd.snd.fst)
 let z16:cB:=List.drop 0 (List.take z13 c0_0.snd.snd.snd.snd.snd.fst)
 let z17:=z1.fst
 let z18:(FM×PUnit)×PUnit:=((c0_0,()),())
 let z19:cM:=akl c0_0 z14 z15 z16 z17
 let z20:Int×BQ:=(c1_0,(),(),())
 let z21:K5:=(c2_0,c2_1,())
 let z22:az:=List.drop 0 (List.take z13 c0_0.snd.snd.snd.fst)
 let z23:az:=List.drop z13 c0_0.snd.snd.snd.snd.fst
 let z24:cB:=List.drop z13 c0_0.snd.snd.snd.snd.snd.fst
 let z25:=z5.fst
 let z26:cM:=akl c0_0 z22 z23 z24 z25
 let z27:aG:=c4++Gr c1_0 z19
 let z28:aG:=z27++Gr c1_0 z26
 let z29:mI:=ay c2_1
 let z30:=z29.snd
 let z31:=z30.fst
 let z32:ab:= {w0:=0,w1:=0,w2:=0,w3:=0}
 let z33:ab:=fp (pS c2_0) z29.fst z32
 let z34:=z30.snd
 let z35:=z6.snd
 let z36:Nat:=pS c0_0.snd.fst
 let z37:ab:=anI z36 z33
 let z38:cB:=List.replicate z13 (z32,z32,false)
 let z39:eW:=(((),(),(),z10,(),(),(),(↑(List.length z38):Int),(0:Int),()),(c0_0.fst,c0_0.snd.fst,c0_0.snd.snd.fst,(),(),c0_0.snd.snd.snd.snd.snd.fst,c0_0.snd.snd.snd.snd.snd.snd,()),(c1_0,(),(),()),(c2_0,z34,()),(z35,()),(),[z17.w0,z17.w1,z17.w2,z17.w3],[z25.w0,z25.w1,z25.w2,z25.w3],[z33.w0,z33.w1,z33.w2,z33.w3],[z37.w0,z37.w1,z37.w2,z37.w3],z38,ar8 z36 c0_0.snd.snd.snd.fst z37,ar8 z36 c0_0.snd.snd.snd.snd.fst z33,z28,())
 let z40:=(g0_0 z39).snd
 let z41:=z40.snd
 let z42:=z41.snd
 let z43:=z42.snd
 let z44:=z43.snd.snd
 let z45:=z44.snd
 let z46:=z45.snd
 let z47:=z46.snd
 let z48:=z47.fst
 let z49:=z44.fst
 let z50:=z40.fst
 let z51:=z50.snd
 let z52:=z51.fst
 let z53:ab:= {w0:=List.getD z48 0 0,w1:=List.getD z48 1 0,w2:=List.getD z48 2 0,w3:=List.getD z48 3 0}
 let z54:ab:= {w0:=List.getD z49 0 0,w1:=List.getD z49 1 0,w2:=List.getD z49 2 0,w3:=List.getD z49 3 0}
 let z55:=z46.fst
 let z56:=z45.fst
 let z57:ab:= {w0:=List.getD z55 0 0,w1:=List.getD z55 1 0,w2:=List.getD z55 2 0,w3:=List.getD z55 3 0}
 let z58:ab:= {w0:=List.getD z56 0 0,w1:=List.getD z56 1 0,w2:=List.getD z56 2 0,w3:=List.getD z56 3 0}
 let z59:Nat:=pS z52
 let z60:ab:=aQ z59 z53 z54
 let z61:ab:=aQ z59 z57 z58
 let z62:=z51.snd
 let z63:=z62.snd.snd.snd.snd.fst
 let z64:ab:=fp z59 z60 z61
 let z65:=z47.snd
 let z66:=z65.snd
 let z67:=z66.snd
 let z68:=z42.fst
 (gd [nZ (z0,(c3_0,()),())] (.br (z3==(0:Int))
 (gd [nZ (z0,(z4,()),())] (.br (z7==(0:Int))
  (gd [true&&inR z10,cj z10 z9 z8,cj (0:Int) z10 z11,cj (0:Int) z10 z12,sP (((),z14,z15,z16,z17,()),z18),jC (((),z19,()),z20,z21,c4,()),cj (0:Int) z10 z8,cj z10 (↑z11:Int) z11,cj z10 (↑z12:Int) z12,sP (((),z22,z23,z24,z25,()),z18),jC (((),z26,()),z20,z21,z27,()),rP (z0,z20,z21,z28,())] (.br (z31==(0:Int))
   (.br (bJ z33)
    (.ok ⟨kt,(((100:Int),()),(c0_0,()),(c1_0,(),(),()),(c2_0,z34,()),(z35,()),z28,())⟩)
    (gd [tz ((c0_0.snd.fst,z33,()),()),sY (((),c0_0.snd.snd.snd.fst,z37,()),z18),sY (((),c0_0.snd.snd.snd.snd.fst,z33,()),z18),decide ((0:Int)<=z10)&&decide (z10<=z10)&&decide (z10*(72:Int)<=(140737488355328:Int))&&decide (z10<=(140737488355328:Int)),ok0 z39,decide (4<=List.length z48),decide (4<=List.length z49),dS ((z52,z53,z54,()),()),decide (4<=List.length z55),decide (4<=List.length z56),dS ((z52,z57,z58,()),()),hZ ((z52,z60,z61,()),()),hZ ((z52,z63,z64,()),())] (.ok ⟨sQ,((),((z50.fst,z52,z62.fst,z66.fst,z67.fst,z65.fst,fp z59 z63 z64),()),(z41.fst.fst,(),(),()),(z68.fst,z68.snd.fst,()),(z43.fst.fst,()),z67.snd.fst,())⟩)))
   (.ok ⟨kt,((z31,()),(c0_0,()),(c1_0,(),(),()),(c2_0,z34,()),(z35,()),z28,())⟩)))
  (.ok ⟨kt,((z7,()),(c0_0,()),(c1_0,(),(),()),(c2_0,c2_1,()),(z35,()),c4,())⟩)))
 (.ok ⟨kt,((z3,()),(c0_0,()),(c1_0,(),(),()),(c2_0,c2_1,()),(z4,()),c4,())⟩)))
theorem ab7 (h0:aY A0 ok0 (VI g0_0)) (pre:Ds->Bool) (F:Ds->OT lC.Y) (hF:∀ (x:Ds) oy,pre x=true->(F x).run=some oy->(Gc ok0 g0_0 x.2.1.1 x.2.2.1.1 x.2.2.2.1.1 x.2.2.2.1.2.1 x.2.2.2.2.1.1 x.2.2.2.2.2.1).run=some oy):aa ag 93 (lC.aw pre F):=
 aEg zD 93 Tryz.f93 lC [sQ] [kt] (js zD 0 aq7 [(0,qd)] none none A0 bw h0 bw) (λx=>Gc ok0 g0_0 x.2.1.1 x.2.2.1.1 x.2.2.2.1.1 x.2.2.2.1.2.1 x.2.2.2.2.1.1 x.2.2.2.2.2.1) hF
end
def aAK (c:Int) (g:List Pt) (u:ab) (h:Nat) (i:Nat) (l:List Pt):List Pt:=l.set i (fS c (g.getD i Qe) (sB c u (g.getD (h+i) Qe)))
def aGh (c:Int) (g:List Pt) (u:ab) (h:Nat) (l:List Pt):List Pt:=upto (aAK c g u h) l h
def aF1 (o:Lf) (u l r:ab):Lf:=(o.1,o.2.1,o.2.2.1,ar8 (pS o.2.1) o.2.2.2.1 (anI (pS o.2.1) u),ar8 (pS o.2.1) o.2.2.2.2.1 u,
 (aGh o.1.1 o.2.2.2.2.2.1 u (o.2.2.2.1.length/2) (List.replicate (o.2.2.2.1.length/2) Qe),fp (pS o.2.1) o.2.2.2.2.2.2 (fp (pS o.2.1) (aQ (pS o.2.1) (anI (pS o.2.1) u) l) (aQ (pS o.2.1) u r))))
def aGa (o:Lf) (l:ab):Pt:=akl o (o.2.2.2.1.drop (o.2.2.2.1.length/2)) (o.2.2.2.2.1.take (o.2.2.2.1.length/2)) (o.2.2.2.2.2.1.take (o.2.2.2.1.length/2)) l
def ayk (o:Lf) (r:ab):Pt:=akl o (o.2.2.2.1.take (o.2.2.2.1.length/2)) (o.2.2.2.2.1.drop (o.2.2.2.1.length/2)) (o.2.2.2.2.2.1.drop (o.2.2.2.1.length/2)) r
abbrev aeh:Type:=Lf×(List ab×(List ab×List UInt8))
def cJ (c s:Int) (q:aeh):Int×aeh:=
 cond ((ay q.2.2.1).2.1==0) (cond ((ay (ay q.2.2.1).2.2).2.1==0)
  (cond ((ay q.2.1).2.1==0) (cond (bJ (fp (pS s) (ay q.2.1).1 ⟨0,0,0,0⟩))
   (100,q.1,(ay q.2.1).2.2,(ay (ay q.2.2.1).2.2).2.2,q.2.2.2++Gr c (aGa q.1 (ay q.2.2.1).1)++Gr c (ayk q.1 (ay (ay q.2.2.1).2.2).1))
   (0,aF1 q.1 (fp (pS s) (ay q.2.1).1 ⟨0,0,0,0⟩) (ay q.2.2.1).1 (ay (ay q.2.2.1).2.2).1,(ay q.2.1).2.2,(ay (ay q.2.2.1).2.2).2.2,q.2.2.2++Gr c (aGa q.1 (ay q.2.2.1).1)++Gr c (ayk q.1 (ay (ay q.2.2.1).2.2).1)))
   ((ay q.2.1).2.1,q.1,(ay q.2.1).2.2,(ay (ay q.2.2.1).2.2).2.2,q.2.2.2++Gr c (aGa q.1 (ay q.2.2.1).1)++Gr c (ayk q.1 (ay (ay q.2.2.1).2.2).1)))
  ((ay (ay q.2.2.1).2.2).2.1,q.1,q.2.1,(ay (ay q.2.2.1).2.2).2.2,q.2.2.2))
  ((ay q.2.2.1).2.1,q.1,q.2.1,(ay q.2.2.1).2.2,q.2.2.2)
def aIx (o:Lf) (l:ab):List Tm:=TZ o (o.2.2.2.1.drop (o.2.2.2.1.length/2)) (o.2.2.2.2.1.take (o.2.2.2.1.length/2)) (o.2.2.2.2.2.1.take (o.2.2.2.1.length/2)) l
def aHS (o:Lf) (r:ab):List Tm:=TZ o (o.2.2.2.1.take (o.2.2.2.1.length/2)) (o.2.2.2.2.1.drop (o.2.2.2.1.length/2)) (o.2.2.2.2.2.1.drop (o.2.2.2.1.length/2)) r
def aFN (q:aeh):Bool:=decide (q.1.2.2.2.2.1.length=q.1.2.2.2.1.length/\q.1.2.2.2.2.2.1.length=q.1.2.2.2.1.length/\q.1.2.2.2.1.length<=64/\q.1.2.2.2.1.length%2=0/\q.2.1.length<=140737488355328/\q.2.2.1.length<=140737488355328/\q.2.2.2.length<=140737488340000)
def PC (c s:Int) (q:aeh):Bool:=aFN q&&(ac s&&(ac q.1.1.1&&(q.1.2.1==s&&(cH q.1.1.1 (aIx q.1 (ay q.2.2.1).1)&&(cH q.1.1.1 (aHS q.1 (ay (ay q.2.2.1).2.2).1)&&(onB c (aGa q.1 (ay q.2.2.1).1)&&onB c (ayk q.1 (ay (ay q.2.2.1).2.2).1)))))))
theorem vC (l:az):(ay l).2.2.length<=l.length:=by
 cases l with
 |nil=>exact Nat.le_refl _
 |cons a r=>exact Nat.le_succ _
theorem aDa {s:Int} (h:ac s=true):Sm (pS s):=by
 rcases b6 h with rfl|rfl|rfl|rfl<;>exact ⟨by decide+kernel,by decide+kernel⟩
theorem atp {s:Int} (hs:ac s=true) {v:ab} (h:bJ (fp (pS s) v ⟨0,0,0,0⟩)=false):tz ((s,fp (pS s) v ⟨0,0,0,0⟩,()),())=true:=by
 show (ac s&& !Nat.beq ((fp (pS s) v ⟨0,0,0,0⟩).nat%pS s) 0)=true
 rw [hs,bj (Sr (aDa hs) v _),<-dM,h]
 rfl
def Dr (s:eW):Bool:=decide (s.1.2.2.2.1=((s.2.1.2.2.2.2.2.1.length/2:Nat):Int)/\s.1.2.2.2.2.2.2.2.1=((s.2.1.2.2.2.2.2.1.length/2:Nat):Int)/\s.1.2.2.2.2.2.2.2.2.1=0/\s.2.1.2.2.2.2.2.1.length<=64/\s.2.2.2.2.2.2.2.2.1.length=4/\s.2.2.2.2.2.2.2.2.2.2.1.length=s.2.1.2.2.2.2.2.1.length/2)
def AZ (s:eW):sR:=(((),(),(),(),(),(),()),s.2.1,s.2.2.1,s.2.2.2.1,s.2.2.2.2.1,(),s.2.2.2.2.2.2.1,s.2.2.2.2.2.2.2.1,s.2.2.2.2.2.2.2.2.1,s.2.2.2.2.2.2.2.2.2.1,
 aGh s.2.1.1.1 s.2.1.2.2.2.2.2.1 ⟨s.2.2.2.2.2.2.2.2.1.getD 0 0,s.2.2.2.2.2.2.2.2.1.getD 1 0,s.2.2.2.2.2.2.2.2.1.getD 2 0,s.2.2.2.2.2.2.2.2.1.getD 3 0⟩ (s.2.1.2.2.2.2.2.1.length/2) s.2.2.2.2.2.2.2.2.2.2.1,s.2.2.2.2.2.2.2.2.2.2.2.1,s.2.2.2.2.2.2.2.2.2.2.2.2.1,s.2.2.2.2.2.2.2.2.2.2.2.2.2.1,())
theorem aq9:aY A0 Dr (VI AZ):=by
 rintro ⟨⟨⟨⟩,⟨⟩,⟨⟩,h,⟨⟩,⟨⟩,⟨⟩,n,i,⟨⟩⟩,⟨⟨p,so,z,⟨⟩,⟨⟩,g,bl,⟨⟩⟩,x1,x2,x3,⟨⟩,c5,c6,c7,c8,c9,c10,c11,c12,⟨⟩⟩⟩ h0
 have h1:=bh h0
 dsimp only at h1
 obtain ⟨rfl,rfl,rfl,hm,h4,hc⟩:=h1
 have:=(aW (T:=A0) (λk e=>((((),(),(),((g.length/2:Nat):Int),(),(),(),((g.length/2:Nat):Int),(k:Int),()),(p,so,z,(),(),g,bl,()),x1,x2,x3,(),c5,c6,c7,c8,e,c10,c11,c12,()):eW)) (aAK p.1 g ⟨c7.getD 0 0,c7.getD 1 0,c7.getD 2 0,c7.getD 3 0⟩ (g.length/2))
  (λe=>(⟨(.exit 0,qd),(((),(),(),(),(),(),()),(p,so,z,(),(),g,bl,()),x1,x2,x3,(),c5,c6,c7,c8,e,c10,c11,c12,())⟩:aT)) (g.length/2) c9 (λk e=>e.length=g.length/2) hc (λk e hk hq=>⟨?_,?_⟩) (λe _=> ?_)).1
 ·obtain ⟨m,hm⟩:=this
  exact ⟨m,_,hm,rfl⟩
 ·have hq:e.length=g.length/2:=hq
  have e1:(((g.length/2:Nat):Int)+(k:Int))=((g.length/2+k:Nat):Int):=by omega
  refine (OT.ak (aj (by dsimp only;omega))).trans ((ae ?_).trans rfl)
  simp only [ax,aA,aC,av]
  exact ⟨aR (by omega),aj (by omega),aL (by omega),aR (by omega),aR (by omega),aj (by show k<e.length;omega),aL (by omega)⟩
 ·show (List.set _ _ _).length=_
  rw [dm]
  exact hq
 ·exact OT.al (bn (by dsimp only;omega))
def FD (x:Ds):aeh:=(x.2.1.1,x.2.2.2.1.2.1,x.2.2.2.2.1.1,x.2.2.2.2.2.1)
def Dq (x:Ds):Bool:=PC x.2.2.1.1 x.2.2.2.1.1 (FD x)
def QM (x:Ds):OT lC.Y:=.br ((cJ x.2.2.1.1 x.2.2.2.1.1 (FD x)).1==0)
 (.ok ⟨sQ,((),((cJ x.2.2.1.1 x.2.2.2.1.1 (FD x)).2.1,()),(x.2.2.1.1,(),(),()),(x.2.2.2.1.1,(cJ x.2.2.1.1 x.2.2.2.1.1 (FD x)).2.2.1,()),((cJ x.2.2.1.1 x.2.2.2.1.1 (FD x)).2.2.2.1,()),(cJ x.2.2.1.1 x.2.2.2.1.1 (FD x)).2.2.2.2,())⟩)
 (.ok ⟨kt,(((cJ x.2.2.1.1 x.2.2.2.1.1 (FD x)).1,()),((cJ x.2.2.1.1 x.2.2.2.1.1 (FD x)).2.1,()),(x.2.2.1.1,(),(),()),(x.2.2.2.1.1,(cJ x.2.2.1.1 x.2.2.2.1.1 (FD x)).2.2.1,()),((cJ x.2.2.1.1 x.2.2.2.1.1 (FD x)).2.2.2.1,()),(cJ x.2.2.1.1 x.2.2.2.1.1 (FD x)).2.2.2.2,())⟩)
theorem aq8:aa ag 93 (lC.aw Dq QM):=ab7 Dr AZ aq9 _ _ λx oy hp ho=>by
 rw [<-ho]
 obtain ⟨⟨⟨⟩,⟨⟩,⟨⟩,⟨⟩⟩,⟨⟨o,⟨⟩⟩,⟨c,⟨⟩,⟨⟩,⟨⟩⟩,⟨s,tp,⟨⟩⟩,⟨co,⟨⟩⟩,out,⟨⟩⟩⟩:=x
 have hp':PC c s (o,tp,co,out)=true:=hp
 unfold PC at hp'
 simp only [av] at hp'
 obtain ⟨hL,h1,h2,h3,h4,h5,h6,h7⟩:=hp'
 obtain ⟨l1,l2,l3,l4,l5,l6,l7⟩:=bh hL
 have hF:∀ (e:Int) (o':Lf) (tp' co':az) (out':aG),cJ c s (o,tp,co,out)=(e,o',tp',co',out')->
  (QM (((),(),(),()),(o,()),(c,(),(),()),(s,tp,()),(co,()),out,())).run=(OT.br (e==0) (.ok ⟨sQ,((),(o',()),(c,(),(),()),(s,tp',()),(co',()),out',())⟩) (.ok ⟨kt,((e,()),(o',()),(c,(),(),()),(s,tp',()),(co',()),out',())⟩):OT lC.Y).run:=λe o' tp' co' out' h=>by
  show (OT.br ((cJ c s (o,tp,co,out)).1==0) (.ok ⟨sQ,((),((cJ c s (o,tp,co,out)).2.1,()),(c,(),(),()),(s,(cJ c s (o,tp,co,out)).2.2.1,()),((cJ c s (o,tp,co,out)).2.2.2.1,()),(cJ c s (o,tp,co,out)).2.2.2.2,())⟩)
   (.ok ⟨kt,(((cJ c s (o,tp,co,out)).1,()),((cJ c s (o,tp,co,out)).2.1,()),(c,(),(),()),(s,(cJ c s (o,tp,co,out)).2.2.1,()),((cJ c s (o,tp,co,out)).2.2.2.1,()),(cJ c s (o,tp,co,out)).2.2.2.2,())⟩):OT lC.Y).run=_
  rw [h]
 unfold cJ at hF
 dsimp only at hF l1 l2 l3 l4 l5 l6 l7 h1 h2 h3 h4 h5 h6 h7
 have q1:=vC co
 have q2:=vC (ay co).2.2
 show (Gc Dr AZ o c s tp co out).run=_
 unfold Gc
 dsimp only
 have e10:Int.tdiv ((o.2.2.2.1.length:Nat):Int) 2=((o.2.2.2.1.length/2:Nat):Int):=rfl
 rw [e10]
 have hh:o.2.2.2.1.length=2*(o.2.2.2.1.length/2):=by omega
 refine (ae (by simp only [ax,aA,aC];exact aj l6)).trans ?_
 cases e1:(ay co).2.1==0
 ·rw [e1] at hF
  refine (OT.al rfl).trans (Eq.trans ?_ (hF _ _ _ _ _ rfl).symm)
  exact (OT.al e1).symm
 rw [e1] at hF
 refine (OT.ak rfl).trans ((ae (by simp only [ax,aA,aC];exact aj (gC q1 l6))).trans ?_)
 cases e2:(ay (ay co).2.2).2.1==0
 ·rw [e2] at hF
  refine (OT.al rfl).trans (Eq.trans ?_ (hF _ _ _ _ _ rfl).symm)
  exact (OT.al e2).symm
 rw [e2] at hF
 refine (OT.ak rfl).trans ((ae ?_).trans ?_)
 ·simp only [ax,aA,aC,av,Bool.true_and]
  have hs1:ac o.2.1=true:=by rw [eq_of_beq h3];exact h1
  have ss:∀ (a b:az) (g:List Pt) (r:ab),a.length<=b.length->a.length<=g.length->a.length<=64->cH o.1.1 (TZ o a b g r)=true->sP (((),a,b,g,r,()),(o,()),())=true:=λa b g r k1 k2 k3 k4=>
   ba (aj ⟨k1,k2,by show a.length<=1000;omega⟩) (ba hs1 (ba h2 k4))
  have tt:∀ (P:Pt) (w:aG),w.length<=140737488350000->onB c P=true->jC (((),P,()),(c,(),(),()),(s,tp,()),w,())=true:=λP w k1 k2=>ba (aj k1) k2
  have n1:(Gr c (aGa o (ay co).1)).length=32:=asS h6
  refine ⟨aL (by omega),cA (by omega),cA (by omega),cA (by omega),ss _ _ _ _ ?_ ?_ ?_ h4,tt _ _ (by omega) h6,
   cA (by omega),cA (by omega),cA (by omega),ss _ _ _ _ ?_ ?_ ?_ h5,tt _ _ ?_ h7,ba h1 (aj l5)⟩
  all_goals simp only [bH,List.drop_zero,gD,fI,bR]
  all_goals first|omega|(rw [show (Gr c (akl o (List.drop (o.2.2.2.1.length/2) o.2.2.2.1) (List.take (o.2.2.2.1.length/2) o.2.2.2.2.1) (List.take (o.2.2.2.1.length/2) o.2.2.2.2.2.1) (ay co).1)).length=32 from n1];omega)
 cases e3:(ay tp).2.1==0
 ·rw [e3] at hF
  refine (OT.al rfl).trans (Eq.trans ?_ (hF _ _ _ _ _ rfl).symm)
  exact (OT.al e3).symm
 rw [e3] at hF
 refine (OT.ak rfl).trans ?_
 cases e4:bJ (fp (pS s) (ay tp).1 ⟨0,0,0,0⟩)
 ·rw [e4] at hF
  refine (OT.al rfl).trans (Eq.trans ((ae ?_).trans ?_) (hF _ _ _ _ _ rfl).symm)
  ·simp only [ax,aA,aC,av,Bool.true_and]
   have hs1:ac o.2.1=true:=by rw [eq_of_beq h3];exact h1
   have fo:∀ (a:az) (k:ab),a.length<=64->sY (((),a,k,()),(o,()),())=true:=λa k hk=>ba (aj (by show a.length<=1000;omega)) hs1
   refine ⟨?_,fo _ _ l3,fo _ _ (by omega),⟨⟨⟨aj (by omega),aj (Int.le_refl _)⟩,aj (by omega)⟩,aj (by omega)⟩,aj ?_,rfl,rfl,hs1,rfl,rfl,hs1,hs1,hs1⟩
   ·have:=atp h1 e4
    rw [<-eq_of_beq h3] at this⊢
    exact this
   ·simp only [bH,nI]
    exact ⟨by rw [l2],by rw [l2],trivial,by omega,rfl,by rw [l2]⟩
  ·unfold AZ aF1
   dsimp only
   rw [l2]
   rfl
 ·rw [e4] at hF
  refine (OT.ak rfl).trans (Eq.trans ?_ (hF _ _ _ _ _ rfl).symm)
  rfl
def yh:bi:=(lC.aw Dq QM)
theorem VH:aa ag 93 yh:=aq8
theorem VG:au yh:=aq
def aiY:Env:=ap 93 yh YY
theorem wa:bI ag te aiY:=aP follows zD VH VG
def jM:af:=⟨[aB,dY,jt],[],true,0,false⟩
abbrev sN:Type:=(Int×ab×fq)×Unit
def abS:Shape:=⟨43,[ig,(7,.own 0),(15,jt),(16,aB),zt],[(0,ft)],0,true⟩
abbrev cq:Type:=(Int×Unit×az×jv)×fq
def abR:Shape:=⟨43,[ig,(9,dW),Ek,(15,jt),(16,aB),zt,(25,.own 2),(26,aB),(27,aB)],[fV,(1,ft),(2,ft)],0,true⟩
abbrev bK:Type:=(Int×Unit×Unit×az×Int×Int×Unit×jv)×ao×az×fq
def lv:Shape:=⟨43,[ig,(10,.own 0),(15,jt),(16,aB),zt],[(0,ft)],0,true⟩
abbrev fM:Type:=(Int×Unit×az×jv)×fq
def abW (a0:Int) (a15:az) (a16:Int) (a17:Int) (a26:Int) (a27:Int) (c0:ao) (c1:az) (c2:az):OT (Sum bK aT):=
 let z0:Nat:=List.length c2
 let z1:Nat:=Int.toNat a27
 let z2:ab:=List.getD c2 z1 {w0:=0,w1:=0,w2:=0,w3:=0}
 let z3:ab:= {w0:=List.getD c0 0 0,w1:=List.getD c0 1 0,w2:=List.getD c0 2 0,w3:=List.getD c0 3 0}
 (.br (decide (a27<a26))
 (gd [inB a27 z0,decide (z1<z0),decide (4<=List.length c0),dS ((a0,z2,z3,()),()),decide ((List.length c1+2)*32<=140737488355328),inR (a27+(1:Int))] (.ok (.inl ((a0,(),(),a15,a16,a17,(),a26,a27+(1:Int),()),c0,c1++ [z2,aQ (pS a0) z2 z3],c2,()))))
 (.ok (.inr ⟨(.exit 2,lv),((a0,(),a15,a16,a17,()),c1,())⟩)))
def pZ (s:bK):OT (Sum bK aT):=abW s.1.1 s.1.2.2.2.1 s.1.2.2.2.2.1 s.1.2.2.2.2.2.1 s.1.2.2.2.2.2.2.2.1 s.1.2.2.2.2.2.2.2.2.1 s.2.1 s.2.2.1 s.2.2.2.1
def I0 (g2_2:bK->fM) (s:bK):OT aT:=(.ok ⟨(.exit 2,lv),g2_2 s⟩)
def lx:Shape:=⟨43,[(7,.own 0)],[(0,ft)],0,true⟩
abbrev j5:Type:=bQ×fq
def abX (ok2:bK->Bool) (g2_2:bK->fM) (a0:Int) (a15:az) (a16:Int) (a17:Int) (c0:az):OT (Sum cq aT):=
 let z0:Int:=(↑(List.length c0):Int)
 let z1:Int:=(2:Int)*z0
 let z2:ab:=List.getD a15 (Int.toNat a17) {w0:=0,w1:=0,w2:=0,w3:=0}
 let z3:bK:=((a0,(),(),a15,a16,a17,(),z0,(0:Int),()),[z2.w0,z2.w1,z2.w2,z2.w3],[],c0,())
 let z4:cq:=g2_2 z3
 let z5:=z4.fst
 let z6:=z5.snd.snd
 let z7:=z6.snd
 (.br (decide (a17<a16))
 (gd [inB a17 (List.length a15),inR z1,true&&decide ((0:Int)<=z1)&&decide (z1*(32:Int)<=(140737488355328:Int))&&decide (z1<=(140737488355328:Int)),ok2 z3,inR (z7.snd.fst+(1:Int))] (.ok (.inl ((z5.fst,(),z6.fst,z7.fst,z7.snd.fst+(1:Int),()),z4.snd.fst,()))))
 (.ok (.inr ⟨(.exit 0,lx),(((),()),c0,())⟩)))
def p9 (ok2:bK->Bool) (g2_2:bK->fM) (s:cq):OT (Sum cq aT):=abX ok2 g2_2 s.1.1 s.1.2.2.1 s.1.2.2.2.1 s.1.2.2.2.2.1 s.2.1
def I1 (g0_0:cq->j5) (s:cq):OT aT:=(.ok ⟨(.exit 0,lx),g0_0 s⟩)
def xW:aH:=⟨[.own 0],[(0,ft)],false⟩
def Ng (ok2:bK->Bool) (g2_2:bK->fM) (ok0:cq->Bool) (g0_0:cq->j5) (a0:Int) (a1:ab) (a2:az):OT jM.Y:=
 let z0:cq:=((a0,(),a2,(↑(List.length a2):Int),(0:Int),()),[a1],())
 (gd [ok0 z0] (.ok ⟨xW,(((),()),(g0_0 z0).snd.fst,())⟩))
theorem QG (ok2:bK->Bool) (g2_2:bK->fM) (ok0:cq->Bool) (g0_0:cq->j5) (h2:aY pZ ok2 (I0 g2_2)) (h0:aY (p9 ok2 g2_2) ok0 (I1 g0_0)) (pre:sN->Bool) (F:sN->OT jM.Y) (hF:∀ (x:sN) oy,pre x=true->(F x).run=some oy->(Ng ok2 g2_2 ok0 g0_0 x.1.1 x.1.2.1 x.1.2.2.1).run=some oy):aa ag 72 (jM.aw pre F):=
 cC wa 72 Tryz.f72 jM [xW] (js wa 0 abS [(0,lx)] none none (p9 ok2 g2_2) (js wa 2 abR [(2,lv)] none none pZ bw h2 bw) h0 bw) (λx=>Ng ok2 g2_2 ok0 g0_0 x.1.1 x.1.2.1 x.1.2.2.1) hF
def aEF (m:Nat) (u:ab) (xs:az) (i:Nat) (l:az):az:=l++ [xs.getD i ⟨0,0,0,0⟩,aQ m (xs.getD i ⟨0,0,0,0⟩) u]
def aGy (m:Nat) (u:ab) (xs:az):az:=upto (aEF m u xs) [] xs.length
def wtE (m:Nat) (a:ab) (us:az):az:=upto (λk l=>aGy m (us.getD k ⟨0,0,0,0⟩) l) [a] us.length
theorem ado (m:Nat) (u:ab) (xs:az):∀ n,(upto (aEF m u xs) [] n).length=2*n
 |0=>rfl
 |n+1=>by
  show (_++ [_,_]).length=_
  rw [bR,ado m u xs n]
  rfl
theorem azW (m:Nat) (a:ab) (us:az):∀ n,(upto (λk l=>aGy m (us.getD k ⟨0,0,0,0⟩) l) [a] n).length=2^n
 |0=>rfl
 |n+1=>by
  refine (ado _ _ _ _).trans ?_
  rw [azW m a us n,Nat.pow_succ]
  omega
def elL (c:ao):ab:=⟨c.getD 0 0,c.getD 1 0,c.getD 2 0,c.getD 3 0⟩
def nq (s:bK):Bool:=decide (s.1.2.2.2.2.2.2.2.1=(s.2.2.2.1.length:Int)/\s.1.2.2.2.2.2.2.2.2.1=0/\s.2.1.length=4/\s.2.2.1= []/\s.2.2.2.1.length<=100000)&&ac s.1.1
def pY (s:bK):fM:=((s.1.1,(),s.1.2.2.2.1,s.1.2.2.2.2.1,s.1.2.2.2.2.2.1,()),aGy (pS s.1.1) (elL s.2.1) s.2.2.2.1,())
theorem abU:aY pZ nq (I0 pY):=by
 rintro ⟨⟨so,⟨⟩,⟨⟩,us,n,k0,⟨⟩,m,i,⟨⟩⟩,⟨c0,c1,c2,⟨⟩⟩⟩ h0
 have h1:(decide (m=(c2.length:Int)/\i=0/\c0.length=4/\c1= []/\c2.length<=100000)&&ac so)=true:=h0
 rw [av] at h1
 obtain ⟨rfl,rfl,h4,rfl,hm⟩:=bh h1.1
 have hs:=h1.2
 have:=(aW (T:=pZ) (λk e=>(((so,(),(),us,n,k0,(),(c2.length:Int),(k:Int),()),c0,e,c2,()):bK)) (aEF (pS so) (elL c0) c2)
  (λe=>(⟨(.exit 2,lv),((so,(),us,n,k0,()),e,())⟩:aT)) c2.length [] (λk e=>e.length=2*k) rfl (λk e hk hq=>⟨?_,?_⟩) (λe _=> ?_)).1
 ·obtain ⟨m,hm⟩:=this
  exact ⟨m,_,hm,rfl⟩
 ·have hq:e.length=2*k:=hq
  refine (OT.ak (aj (by dsimp only;omega))).trans ((ae ?_).trans rfl)
  simp only [ax,aA,aC,av]
  exact ⟨aR (by omega),aj (by show k<c2.length;omega),aj (by omega),hs,aj (by omega),aL (by omega)⟩
 ·show (_++ [_,_]).length=_
  rw [bR,show e.length=2*k from hq]
  show 2*k+2=2*(k+1)
  omega
 ·exact OT.al (bn (by dsimp only;omega))
def E3 (s:cq):Bool:=decide (s.1.2.2.2.1=(s.1.2.2.1.length:Int)/\s.1.2.2.2.2.1=0/\s.1.2.2.1.length<=10/\s.2.1.length=1)&&ac s.1.1
def IZ (s:cq):j5:=(((),()),upto (λk l=>aGy (pS s.1.1) (s.1.2.2.1.getD k ⟨0,0,0,0⟩) l) s.2.1 s.1.2.2.1.length,())
theorem abV:aY (p9 nq pY) E3 (I1 IZ):=by
 rintro ⟨⟨so,⟨⟩,us,n,i,⟨⟩⟩,⟨c0,⟨⟩⟩⟩ h0
 have h1:(decide (n=(us.length:Int)/\i=0/\us.length<=10/\c0.length=1)&&ac so)=true:=h0
 rw [av] at h1
 obtain ⟨rfl,rfl,h4,hm⟩:=bh h1.1
 have hs:=h1.2
 obtain ⟨a,rfl⟩:∃ a,c0= [a]:=by
  match c0,hm with
  | [a],_=>exact ⟨a,rfl⟩
 have:=(aW (T:=p9 nq pY) (λk e=>(((so,(),us,(us.length:Int),(k:Int),()),e,()):cq)) (λk l=>aGy (pS so) (us.getD k ⟨0,0,0,0⟩) l)
  (λe=>(⟨(.exit 0,lx),(((),()),e,())⟩:aT)) us.length [a] (λk e=>e.length=2^k) rfl (λk e hk hq=>⟨?_,?_⟩) (λe _=> ?_)).1
 ·obtain ⟨m,hm⟩:=this
  exact ⟨m,_,hm,rfl⟩
 ·have hq:e.length=2^k:=hq
  have hb:2^k<=1024:=Nat.pow_le_pow_right (by omega) (show k<=10 by omega)
  refine (OT.ak (aj (by dsimp only;omega))).trans ((ae ?_).trans rfl)
  simp only [ax,aA,aC,av,Bool.true_and]
  exact ⟨aR (by omega),aL (by omega),⟨⟨aj (by omega),aj (by omega)⟩,aj (by omega)⟩,ba (aj ⟨rfl,rfl,rfl,rfl,by show e.length<=100000;omega⟩) hs,aL (by show-9223372036854775808<=(k:Int)+1/\(k:Int)+1<=9223372036854775807;omega)⟩
 ·refine (ado _ _ _ _).trans ?_
  rw [show e.length=2^k from hq,Nat.pow_succ]
  omega
 ·exact OT.al (bn (by dsimp only;omega))
def sM (x:sN):Bool:=decide (x.1.2.2.1.length<=10)&&ac x.1.1
def Nh (x:sN):OT jM.Y:=.ok ⟨xW,(((),()),wtE (pS x.1.1) x.1.2.1 x.1.2.2.1,())⟩
theorem abT:aa ag 72 (jM.aw sM Nh):=QG nq pY E3 IZ abU abV _ _ λx oy hp ho=>by
 rw [<-ho]
 obtain ⟨⟨so,a,us,⟨⟩⟩,⟨⟩⟩:=x
 have hp':(decide (us.length<=10)&&ac so)=true:=hp
 rw [av] at hp'
 refine (ae ?_).trans rfl
 simp only [ax,aA,aC]
 exact ba (aj ⟨rfl,rfl,bh hp'.1,rfl⟩) hp'.2
def pX:bi:=(jM.aw sM Nh)
theorem LR:aa ag 72 pX:=abT
theorem LQ:au pX:=aq
def OA:Env:=ap 72 pX aiY
theorem Fw:bI ag te OA:=aP follows wa LR LQ
def mn:af:=⟨[aB,nH],[],true,0,false⟩
abbrev A6:Type:=Ym
def DA:aH:=⟨[kZ,aB],[],false⟩
def V8 (a0:Int) (a1:cY):OT mn.Y:=
 (gd [oa ((a0,a1,()),())] (.ok ⟨DA,(((wc a0 (rE a0 a1)).snd.snd,(0:Int),()),())⟩))
theorem V7 (pre:A6->Bool) (F:A6->OT mn.Y) (hF:∀ (x:A6) oy,pre x=true->(F x).run=some oy->(V8 x.1.1 x.1.2.1).run=some oy):aa ag 30 (mn.aw pre F):=
 cC Fw 30 Tryz.f30 mn [DA] bw (λx=>V8 x.1.1 x.1.2.1) hF
def qn (x:A6):Bool:=oa x
def V9 (x:A6):OT mn.Y:=.ok ⟨DA,(((wc x.1.1 (rE x.1.1 x.1.2.1)).2.2,(0:Int),()),())⟩
theorem al3:aa ag 30 (mn.aw qn V9):=V7 _ _ λx oy hp ho=>by
 rw [<-ho]
 obtain ⟨⟨c,l,⟨⟩⟩,⟨⟩⟩:=x
 refine (ae ?_).trans rfl
 rw [ax,show oa ((c,l,()),())=true from hp]
 rfl
def s4:bi:=(mn.aw qn V9)
theorem Q5:aa ag 30 s4:=al3
theorem Q4:au s4:=aq
def YV:Env:=ap 30 s4 OA
theorem aek:bI ag te YV:=aP follows Fw Q5 Q4
abbrev MP:af:=fB
def aEK (p:rG) (l:az) (b:ab):Pt:=wc p.1 (rE p.1 (adt p l b))
def ko (x:pI):Bool:=(gA x.1.1==0)&&(decide (x.1.2.1.length<=x.1.1.2.2.1.length)&&cH x.1.1.1 (adt x.1.1 x.1.2.1 x.1.2.2.1))
def MQ (x:pI):OT fB.Y:=.ok ⟨cW,((aEK x.1.1 x.1.2.1 x.1.2.2.1,(0:Int),()),())⟩
theorem am7 {p:rG} (h:(gA p==0)=true):ac p.1=true:=by
 unfold gA at h
 cases h1:ac p.1
 ·rw [h1] at h;cases h
 ·rfl
theorem aEJ {p:rG} {l:List ab} {b:ab} (h:(gA p==0)=true) (hl:l.length<=p.2.2.1.length) (ha:cH p.1 (adt p l b)=true):ay9 p l b=(aEK p l b,0):=by
 unfold ay9 aEK
 have h3:(adt p l b).length<=100000:=by
  unfold adt
  rw [NV]
  have:=Km h
  omega
 rw [h,bn (by omega),am7 h,aj h3,ha]
 rfl
theorem aaZ:aa ag 80 (MP.aw ko MQ):=cw (S:=fB) alb λx oy hp ho=>by
 obtain ⟨⟨p,l,b,⟨⟩⟩,⟨⟩⟩:=x
 have hp':((gA p==0)&&(decide (l.length<=p.2.2.1.length)&&cH p.1 (adt p l b)))=true:=hp
 rw [av,av] at hp'
 obtain ⟨h1,h2,h3⟩:=hp'
 have:=Km h1
 refine ⟨aj (by show p.2.2.1.length<=140737488355328;omega),?_⟩
 show (OT.ok ⟨cW,(((ay9 p l b).1,(ay9 p l b).2,()),())⟩:OT fB.Y).run=some oy
 rw [aEJ h1 (bh h2) h3]
 exact ho
def pG:bi:=(MP.aw ko MQ)
theorem LL:aa ag 80 pG:=aaZ
theorem LK:au pG:=aq
def Ox:Env:=ap 80 pG YV
theorem kG:bI ag te Ox:=aP follows aek LL LK
end
section
namespace Sx
open Go
def aCD (i j:Nat) (st:St):St:=match st.tm.getD i .fY with
 |.ptr c0 e0 0 0=>match dZ st.hp c0 e0 with
  |some (.cells vs)=>match vs[j]? with
   |some (.own c e)=>match dZ st.hp c e with
    |some (.row t xs)=>cond (Nat.beq c c0) st ⟨st.tm,cG st.hp (aCM c0 e0 vs j c e t xs)⟩
    |_=>st
   |_=>st
  |_=>st
 |_=>st
def aeO:List (Nat×Nat)->St->St
 | [],st=>st
 |p::r,st=>aeO r (aCD p.1 p.2 st)
theorem av4 {i j:Nat} {R:Ctx} {st:St} {a:Act} {w:World} (h:iF R st a w):∃ R1,R.Ext R1/\iF R1 (aCD i j st) a w:=by
 unfold aCD
 split
 ·rename_i c0 e0 _
  split
  ·rename_i vs hc0
   split
   ·rename_i c e hj
    split
    ·rename_i t xs hc
     cases hb:Nat.beq c c0
     ·have hne:c≠c0:=λe'=>by subst e';simp at hb
      rw [<-h.hp] at hc0 hc
      obtain ⟨R1,ha⟩:=Mr h.mem (bP hc0) hj (bP hc) hne
      exact ⟨R1,ha.ext,h.Te ha⟩
     ·exact ⟨R,.refl R,h⟩
    ·exact ⟨R,.refl R,h⟩
   ·exact ⟨R,.refl R,h⟩
  ·exact ⟨R,.refl R,h⟩
 ·exact ⟨R,.refl R,h⟩
theorem Tf:∀ (l:List (Nat×Nat)) {R:Ctx} {st:St} {a:Act} {w:World},iF R st a w->∃ R1,R.Ext R1/\iF R1 (aeO l st) a w
 | [],R,_,_,_,h=>⟨R,.refl R,h⟩
 |p::r,_,_,_,_,h=>by
  obtain ⟨R1,h1,h2⟩:=av4 (i:=p.1) (j:=p.2) h
  obtain ⟨R2,h3,h4⟩:=Tf r h2
  exact ⟨R2,h1.trans h3,h4⟩
theorem aj9 {P:Program} {R₀:Ctx} {b:Code} {l:St->(SE->St->Prop)->Prop} (t:List (Nat×Nat)) (h:zI P R₀ b l):zI P R₀ b λst K=>l (aeO t st) K:=λR st a w K Q hx hst hl hK=>by
 obtain ⟨R1,h1,h2⟩:=Tf t hst
 exact h R1 _ a w K Q (hx.trans h1) h2 hl hK
section
variable {P:Program} {te:TE} {Φ:Env}
theorem aIz (g:bI P te Φ) {k:Nat} {c:Code} (t:List (Nat×Nat)) (id:Nat) (sh:Shape) (l:List (Nat×Shape)) (r:Option Shape) (p:Option (TypeId×Shape)) (T:sh.T->OT (Sum sh.T aT)) {Λi Λ:Lam} {ok:sh.T->Bool} {f:sh.T->OT aT} (inner:rC P k Λi (IM c id)) (hf:aY T ok f) (rest:rC P k Λ c)
 (hd:distinct ((blocks c).map (·.1))=true:=by kernel_rfl) (hl:VE c id=true:=by kernel_rfl)
 (hk:(Nat.beq sh.fixed k&&((l.all λp=>Nat.beq p.2.fixed k)&&(r.all λs=>Nat.beq s.fixed k)&&p.all λq=>Nat.beq q.2.fixed k))=true:=by kernel_rfl)
 (hT:∀ s Q,wps te Φ Λi 1000 (IM c id) (sh.inj s) (Po sh (avU l r p) Q)=(T s).wpR Q:=by intro s Q;kernel_rfl):rC P k (QE id (λst K=>aqU sh id ok f (aeO t st) K) Λ) c:=
 λR hR=>Nf hd hl (aj9 t (agB g hk inner hT hf hR)) (rest R hR)
end
end Sx
end
end Go.Proofs.YthnnknnbfhkomaaGreat
