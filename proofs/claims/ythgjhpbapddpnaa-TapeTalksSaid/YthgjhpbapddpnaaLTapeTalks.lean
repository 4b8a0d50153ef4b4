/- What is said is heard as it was, and both have the same challenges (without the document's answer). The given statement, by the function's proof. -/
import Derived.Test.YthgjhpbapddpnaaRows
import Derived.WalkKit
import Derived.ProofKit
import Derived.OpenShut
import Derived.ChangeOld
import Derived.Below
import Derived.SizedLaws
import Derived.Test.YthgjhpbapddpnaaXf
set_option linter.unusedSimpArgs false
set_option linter.unusedVariables false
set_option linter.unusedSectionVars false

namespace Go.Proofs.Ythgjhpbapddpnaa
namespace TapeTalksLaw
open Go Go.Proofs.Ythgjhpbapddpnaa Go.Proofs.Ythgjhpbapddpnaa.Sx
open Go.ChangeShapes Go.WideShapes Go.ChangeAt Go.RowKit

theorem own:ownKnob Try.prog.godebug=none:=by kernel_rfl
theorem laidOut:laidOutB Try.prog=true:=by kernel_rfl

abbrev kinds:List (Bool×Ty):= [(false,.int),(true,.prod .int (.list .elem)),(false,.list (.prod .int (.prod .elem (.prod .elem (.prod .elem .bool))))),(false,.list .u8)]

theorem prj (x:ATy kinds):dp.inp.prj ⟨anN kinds x,aid⟩=some (x,()):=by kernel_rfl

theorem walk (x:ATy kinds) (vs:List Value) (w:World) (hr:SV.bA (eB w) (anN kinds x) vs) (hp:lJ (x,())=true):
 Calls Try.prog 4 vs.toArray w λe w'=>e=.returned (.bool true)/\Below w.heap.size w w':=
 aix PG ⟨_,Try.func4,by kernel_rfl,by kernel_rfl⟩ hr (amJ (prj x) (show lJ (x,())=true from hp) (show _=some (Out.ret ⟨.bool true,[]⟩) by kernel_rfl))

set_option maxRecDepth 100000 in
theorem lifted (os:Os) (started:os.Started) (H:Type) (enc:TypeId×Value->H):
 ReturnsInHanded {} Try.checked os 4 .any (Rows.tapeTalksSpec.pre6 enc Try.prog Try.f4 Rows.tapeTalksRow.domain false) (Rows.tapeTalksSpec.post enc Try.prog Try.f4 false true false false):=by
 refine returnsInHanded_of_change_sized (C:=Try.checked) own started (by kernel_rfl) Try.func4
  (ChangeSpec.witness6 (enc:=enc) (C:=Try.checked) false ⟨#[],#[.int .i64 0,.agg #[.int .i64 0,.slice none 0 0],.slice none 0 0,.slice none 0 0],[]⟩ 8 (by kernel_rfl) (by kernel_rfl) (by kernel_rfl) (by kernel_rfl)) ?_
 intro W base args ds gs before hval0 hW hcnd hsz0 _
 have hsz:(DataW.weightsEach Try.prog (Try.f4.params.toList++Rows.tapeTalksSpec.plain.varTypes Try.prog) (ds++gs)).all (· <=reachBytes)=true:=hsz0
 clear hsz0
 have hval:∀ (j:Nat) t v,Try.f4.params[j]? =some t->args[j]? =some v->Value.okWide Try.prog W .any base t v:=hval0
 have hW':=hW
 obtain ⟨p,q,hA0,hV,rfl,hfz,hnd⟩:=hW
 have hA:DataW.TrodAll enc Try.prog W 0 (λ_=>true) true Try.f4.params.toList args.toList ds p:=hA0
 rw [Try.params4] at hA hval hsz
 obtain ⟨rfl,rfl⟩:=trodVars_none hV
 obtain ⟨v0,vs0,d0,ds0,p0,q0,hargs,rfl,rfl,h0,r0⟩:=trodAll_cons hA
 obtain ⟨v1,vs1,d1,ds1,p1,q1,rfl,rfl,rfl,h1,r1⟩:=trodAll_cons r0
 obtain ⟨v2,vs2,d2,ds2,p2,q2,rfl,rfl,rfl,h2,r2⟩:=trodAll_cons r1
 obtain ⟨v3,vs3,d3,ds3,p3,q3,rfl,rfl,rfl,h3,r3⟩:=trodAll_cons r2
 obtain ⟨rfl,rfl,rfl⟩:=trodAll_nil r3
 obtain rfl:args= #[v0,v1,v2,v3]:=by cases args;simp_all
 obtain ⟨x,hx⟩:∃ x:ATy kinds,SV.bA (eB W) (anN kinds x) [v0,v1,v2,v3]:=PB (te:=te) ap (k:=12) (base:=base) (by kernel_rfl) (λj t v a b=>hval j t v (by simpa using a) (by simpa using b)) hA hsz
 clear hA0 hval0
 have hp:lJ (x,())=true:=by
  obtain ⟨c,⟨m,tp⟩,l,b,⟨⟩⟩:=x
  simp only [anN,SV.bA] at hx
  obtain ⟨_,_,e0,_,_,_,e1,hx1,_,_,e2,_,_,_,e3,hx3,_⟩:=hx
  cases e0
  cases e1
  cases e2
  cases e3
  have hx3:Rep (eB W).F (.list .u8) b [v3]:=hx3
  have hx1:SV.rel (eB W) (.agg [.int m,.lst .elem tp]) v1:=hx1
  simp only [SV.rel,SV.bA] at hx1
  obtain ⟨cs,rfl,⟨u0,_,ea,_,u1,_,eb,hr,ec⟩,_⟩:=hx1
  subst ec
  subst eb
  subst ea
  have hr1:Rep (eB W).F (.list .elem) tp [u1]:=hr
  have hr':=hr1
  simp only [Rep] at hr1
  obtain ⟨_,ad,cap,hv,_⟩:=hr1
  cases hv
  have hsz2:(DataW.weightsEach Try.prog (_::_::_::_::_) (d0::d1::d2::d3::_)).all (· <=reachBytes)=true:=hsz
  simp only [DataW.weightsEach,List.all_append,Bool.and_eq_true] at hsz2
  obtain ⟨d,p,k1,k2⟩:=asS (T:=38) (T1:=36) (by kernel_rfl) rfl rfl h1 (λn hn=>by simpa using List.all_eq_true.1 hsz2.2.1 n hn)
  have hlb:=C7 (te:=te) ap (T:=36) (e:=24) (ti:=Tw) (ei:=K5) rfl rfl rfl k1 k2
  have b1:K5.bytes=32:=rfl
  rw [b1] at hlb
  have hlc:=UW (te:=te) ap (ti:=Tx) (e:=5) (ei:=XB) rfl rfl rfl hx3 h3 hsz2.2.2.2.1
  have b2:XB.bytes=1:=rfl
  rw [b2] at hlc
  unfold reachBytes at hlb hlc
  exact decide_eq_true (show tp.length*32<=140737488355328/\b.length<=140737488351232 by omega)
 refine (walk x [v0,v1,v2,v3] W hx hp).mono λe W' ⟨he,bel⟩=> ?_
 subst he
 exact ⟨_,rfl,_,_,_,[],_,[],hW',trodAll_mk1 (shut_bool Try.underlying4 _),Kt laidOut bel (by kernel_rfl) hA,rfl,bel.frame _,λh=>by cases h⟩

end TapeTalksLaw
/-- What is said is heard as it was, and both have the same challenges (without the document's answer). -/
theorem tapeTalks_holds:Rows.TapeTalksSaid:=
 OpenClaim.holds_of_wide 4 Try.f4 rfl rfl rfl rfl rfl rfl rfl ⟨rfl,rfl,rfl,rfl,rfl⟩ rfl rfl rfl rfl rfl (by kernel_rfl) Try.func4 (by kernel_rfl)
  (of_decide_eq_true (by kernel_rfl)) (by unfold Func.isWrapper;first|(rw [if_pos (by decide+kernel)];kernel_rfl)|(rw [if_neg (by decide+kernel)];exact ⟨rfl,rfl⟩))
  (λos started H enc _=>TapeTalksLaw.lifted os started H enc)

end Go.Proofs.Ythgjhpbapddpnaa
