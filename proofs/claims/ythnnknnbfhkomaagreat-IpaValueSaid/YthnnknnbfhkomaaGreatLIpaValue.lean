/- With any other value a proof of an opening is not decided. The given statement, by the function's proof. -/
import Derived.Test.YthnnknnbfhkomaaGreatRows
import Derived.WalkKit
import Derived.ProofKit
import Derived.OpenShut
import Derived.ChangeOld
import Derived.Below
import Derived.SizedLaws
import Derived.Test.YthnnknnbfhkomaaGreatXf
set_option linter.unusedSimpArgs false
set_option linter.unusedVariables false
set_option linter.unusedSectionVars false
namespace Go.Proofs.YthnnknnbfhkomaaGreat
section
namespace IpaValueLaw
open Go Go.Proofs.YthnnknnbfhkomaaGreat Go.Proofs.YthnnknnbfhkomaaGreat.Sx
open Go.ChangeShapes Go.WideShapes Go.ChangeAt Go.RowKit

theorem own:ownKnob Tryz.prog.godebug=none:=by kernel_rfl
theorem laidOut:laidOutB Tryz.prog=true:=by kernel_rfl

abbrev kinds:List (Bool×Ty):= [(true,.prod (.prod .int (.prod .int (.prod (.list (.prod .elem (.prod .elem .bool))) (.prod (.prod .elem (.prod .elem .bool)) (.prod .elem (.prod .elem .bool)))))) (.prod (.prod .int (.list .elem)) (.prod (.list .elem) (.prod (.list .elem) (.prod .elem .elem))))),(true,.elem)]

theorem prj (x:ATy kinds):kl.inp.prj ⟨axN kinds x,ap3⟩=some (x,()):=by kernel_rfl

theorem walk (x:ATy kinds) (vs:List Value) (w:World) (hr:SV.bz (eX w) (axN kinds x) vs) (hp:oo (x,())=true):
 Calls Tryz.prog 6 vs.toArray w λe w'=>e=.returned (.bool true)/\Below w.heap.size w w':=
 aqG VA ⟨_,Tryz.func6,by kernel_rfl,by kernel_rfl⟩ hr (aww (prj x) (show oo (x,())=true from hp) (show _=some (Out.ret ⟨.bool true,[]⟩) by kernel_rfl))

set_option maxRecDepth 100000 in
theorem lifted (os:Os) (started:os.Started) (H:Type) (enc:TypeId×Value->H):
 ReturnsInHanded {} Tryz.checked os 6 .any (Rows.ipaValueSpec.pre6 enc Tryz.prog Tryz.f6 Rows.ipaValueRow.domain false) (Rows.ipaValueSpec.post enc Tryz.prog Tryz.f6 false true false false):=by
 refine returnsInHanded_of_change_sized (C:=Tryz.checked) own started (by kernel_rfl) Tryz.func6
  (ChangeSpec.witness6 (enc:=enc) (C:=Tryz.checked) false ⟨#[],#[.agg #[.int .i64 0,.int .i64 0,.slice none 0 0,.int .u64 0,.int .u64 0,.int .u64 0,.int .u64 0,.int .u64 0,.int .u64 0,.int .u64 0,.int .u64 0,.bool false,.int .u64 0,.int .u64 0,.int .u64 0,.int .u64 0,.int .u64 0,.int .u64 0,.int .u64 0,.int .u64 0,.bool false,.int .i64 0,.slice none 0 0,.slice none 0 0,.slice none 0 0,.int .u64 0,.int .u64 0,.int .u64 0,.int .u64 0,.int .u64 0,.int .u64 0,.int .u64 0,.int .u64 0],.agg #[.int .u64 0,.int .u64 0,.int .u64 0,.int .u64 0]],[]⟩ 8 (by kernel_rfl) (by kernel_rfl) (by kernel_rfl) (by kernel_rfl)) ?_
 intro W base args ds gs before hval0 hW hcnd hsz0 _
 have hsz:(DataW.weightsEach Tryz.prog (Tryz.f6.params.toList++Rows.ipaValueSpec.plain.varTypes Tryz.prog) (ds++gs)).all (· <=reachBytes)=true:=hsz0
 clear hsz0
 have hval:∀ (j:Nat) t v,Tryz.f6.params[j]? =some t->args[j]? =some v->Value.okWide Tryz.prog W .any base t v:=hval0
 have hW':=hW
 obtain ⟨p,q,hA0,hV,rfl,hfz,hnd⟩:=hW
 have hA:DataW.TrodAll enc Tryz.prog W 0 (λ_=>true) true Tryz.f6.params.toList args.toList ds p:=hA0
 rw [Tryz.params6] at hA hval hsz
 obtain ⟨rfl,rfl⟩:=trodVars_none hV
 obtain ⟨v0,vs0,d0,ds0,p0,q0,hargs,rfl,rfl,h0,r0⟩:=trodAll_cons hA
 obtain ⟨v1,vs1,d1,ds1,p1,q1,rfl,rfl,rfl,h1,r1⟩:=trodAll_cons r0
 obtain ⟨rfl,rfl,rfl⟩:=trodAll_nil r1
 obtain rfl:args= #[v0,v1]:=by cases args;simp_all
 obtain ⟨x,hx⟩:∃ x:ATy kinds,SV.bz (eX W) (axN kinds x) [v0,v1]:=Vh (te:=te) Mb (k:=12) (base:=base) (by kernel_rfl) (λj t v a b=>hval j t v (by simpa using a) (by simpa using b)) hA hsz
 clear hA0 hval0
 have hp:oo (x,())=true:=by
  obtain ⟨⟨⟨c,k,G,⟨wx,wy,wi⟩,ux,uy,ui⟩,⟨m,tp⟩,co,cs,bl,X⟩,v,⟨⟩⟩:=x
  simp only [axN,SV.bz] at hx
  obtain ⟨_,_,e0,hx0,_⟩:=hx
  cases e0
  have hx0:SV.rel (eX W) (.agg [.int c,.int k,.lst (.prod .elem (.prod .elem .bool)) G,_,_,_,_,_,_,_,_,_,_,_,_,_,_,_,_,_,_,.int m,.lst .elem tp,.lst .elem co,.lst .elem cs,_,_,_,_,_,_,_,_]) v0:=hx0
  simp only [SV.rel,SV.bz] at hx0
  obtain ⟨rs,rfl,⟨u0,_,ea0,_,u1,_,ea1,_,u2,_,ea2,hr2,u3,_,ea3,_,u4,_,ea4,_,u5,_,ea5,_,u6,_,ea6,_,u7,_,ea7,_,u8,_,ea8,_,u9,_,ea9,_,u10,_,ea10,_,u11,_,ea11,_,u12,_,ea12,_,u13,_,ea13,_,u14,_,ea14,_,u15,_,ea15,_,u16,_,ea16,_,u17,_,ea17,_,u18,_,ea18,_,u19,_,ea19,_,u20,_,ea20,_,u21,_,ea21,_,u22,_,ea22,hr22,u23,_,ea23,hr23,u24,_,ea24,hr24,_⟩,_⟩:=hx0
  subst ea24
  subst ea23
  subst ea22
  subst ea21
  subst ea20
  subst ea19
  subst ea18
  subst ea17
  subst ea16
  subst ea15
  subst ea14
  subst ea13
  subst ea12
  subst ea11
  subst ea10
  subst ea9
  subst ea8
  subst ea7
  subst ea6
  subst ea5
  subst ea4
  subst ea3
  subst ea2
  subst ea1
  subst ea0
  have hs2:Rep (eX W).F (.list (.prod .elem (.prod .elem .bool))) G [u2]:=hr2
  simp only [Rep] at hs2
  obtain ⟨_,ad2,cap2,hv2,_⟩:=hs2
  cases hv2
  have hs22:Rep (eX W).F (.list .elem) tp [u22]:=hr22
  simp only [Rep] at hs22
  obtain ⟨_,ad22,cap22,hv22,_⟩:=hs22
  cases hv22
  have hs23:Rep (eX W).F (.list .elem) co [u23]:=hr23
  simp only [Rep] at hs23
  obtain ⟨_,ad23,cap23,hv23,_⟩:=hs23
  cases hv23
  have hs24:Rep (eX W).F (.list .elem) cs [u24]:=hr24
  simp only [Rep] at hs24
  obtain ⟨_,ad24,cap24,hv24,_⟩:=hs24
  cases hv24
  have hsz2:(DataW.weightsEach Tryz.prog (_::_) (d0::_)).all (· <=reachBytes)=true:=hsz
  simp only [DataW.weightsEach,List.all_append,aw] at hsz2
  have hw:∀ n ∈ d0.weights Tryz.prog 34,n<=reachBytes:=λn hn=>by simpa using List.all_eq_true.1 hsz2.1 n hn
  obtain ⟨d,p,k1,k2⟩:=acS (T:=34) (T1:=29) (i:=0) (o:=0) (k:=21) (by kernel_rfl) (c:=.agg #[u0,u1,.slice ad2 G.length cap2,u3,u4,u5,u6,u7,u8,u9,u10,u11,u12,u13,u14,u15,u16,u17,u18,u19,u20]) rfl h0 hw
  have l1:=BN (T1:=22) (i:=2) (o:=2) Mb (by kernel_rfl) (e:=27) (ti:=aac) (ei:=PQ) rfl rfl rfl rfl k1 k2
  obtain ⟨d,p,k1,k2⟩:=acS (T:=34) (T1:=32) (i:=1) (o:=21) (k:=2) (by kernel_rfl) (c:=.agg #[u21,.slice ad22 tp.length cap22]) rfl h0 hw
  have l2:=BN (T1:=30) (i:=1) (o:=1) Mb (by kernel_rfl) (e:=25) (ti:=HO) (ei:=C0) rfl rfl rfl rfl k1 k2
  have l3:=BN (T1:=30) (i:=2) (o:=23) Mb (by kernel_rfl) (e:=25) (ti:=HO) (ei:=C0) rfl rfl rfl (v:=_) (ad:=ad23) (n:=co.length) (cap:=cap23) rfl h0 hw
  have l4:=BN (T1:=30) (i:=3) (o:=24) Mb (by kernel_rfl) (e:=25) (ti:=HO) (ei:=C0) rfl rfl rfl (v:=_) (ad:=ad24) (n:=cs.length) (cap:=cap24) rfl h0 hw
  have b1:PQ.bytes=72:=rfl
  have b2:C0.bytes=32:=rfl
  rw [b1] at l1
  rw [b2] at l2 l3 l4
  unfold reachBytes at l1 l2 l3 l4
  exact ag (show G.length*72<=140737488355328/\tp.length*32<=140737488355328/\co.length*32<=140737488355328/\cs.length*32<=140737488355328 by omega)
 refine (walk x [v0,v1] W hx hp).mono λe W' ⟨he,bel⟩=> ?_
 subst he
 exact ⟨_,rfl,_,_,_,[],_,[],hW',trodAll_mk1 (shut_bool Tryz.underlying4 _),OQ laidOut bel (by kernel_rfl) hA,rfl,bel.frame _,λh=>by cases h⟩

end IpaValueLaw
/-- With any other value a proof of an opening is not decided. -/
theorem ipaValue_holds:Rows.IpaValueSaid:=
 OpenClaim.holds_of_wide 6 Tryz.f6 rfl rfl rfl rfl rfl rfl rfl ⟨rfl,rfl,rfl,rfl,rfl⟩ rfl rfl rfl rfl rfl (by kernel_rfl) Tryz.func6 (by kernel_rfl)
  (bn (by kernel_rfl)) (by unfold Func.isWrapper;first|(rw [if_pos (by decide+kernel)];kernel_rfl)|(rw [if_neg (by decide+kernel)];exact ⟨rfl,rfl⟩))
  (λos started H enc _=>IpaValueLaw.lifted os started H enc)
end
end Go.Proofs.YthnnknnbfhkomaaGreat
