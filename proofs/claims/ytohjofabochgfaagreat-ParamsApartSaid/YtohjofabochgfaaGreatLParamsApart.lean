/- The generators of a Setup are points of the curve with even Y that are no Infinity, and another seed's first ones are told by Derive alone (without the document's answer). The given statement, by the function's proof. -/
import Derived.Test.YtohjofabochgfaaGreatRows
import Derived.WalkKit
import Derived.ProofKit
import Derived.OpenShut
import Derived.ChangeOld
import Derived.Below
import Derived.SizedLaws
import Derived.Test.YtohjofabochgfaaGreatXf
set_option linter.unusedSimpArgs false
set_option linter.unusedVariables false
set_option linter.unusedSectionVars false

namespace Go.Proofs.YtohjofabochgfaaGreat
namespace ParamsApartLaw
open Go Go.Proofs.YtohjofabochgfaaGreat Go.Proofs.YtohjofabochgfaaGreat.Sx
open Go.ChangeShapes Go.WideShapes Go.ChangeAt Go.RowKit

theorem own:ownKnob Tryz.prog.godebug=none:=by kernel_rfl
theorem laidOut:laidOutB Tryz.prog=true:=by kernel_rfl

abbrev kinds:List (Bool×Ty):= [(false,.int),(false,.int),(false,.list .u8)]

theorem prj (x:ATy kinds):gu.inp.prj ⟨az2 kinds x,azJ⟩=some (x,()):=by kernel_rfl

theorem walk (x:ATy kinds) (vs:List Value) (w:World) (hr:SV.ci (gF w) (az2 kinds x) vs) (hp:o7 (x,())=true):
 Calls Tryz.prog 9 vs.toArray w λe w'=>e=.returned (.bool true)/\Below w.heap.size w w':=
 atx Yk ⟨_,Tryz.func9,by kernel_rfl,by kernel_rfl⟩ hr (ayy (prj x) (show o7 (x,())=true from hp) (show _=some (Out.ret ⟨.bool true,[]⟩) by kernel_rfl))

set_option maxRecDepth 100000 in
theorem lifted (os:Os) (started:os.Started) (H:Type) (enc:TypeId×Value->H):
 ReturnsInHanded {} Tryz.checked os 9 .any (Rows.paramsApartSpec.pre6 enc Tryz.prog Tryz.f9 Rows.paramsApartRow.domain false) (Rows.paramsApartSpec.post enc Tryz.prog Tryz.f9 false true false false):=by
 refine returnsInHanded_of_change_sized (C:=Tryz.checked) own started (by kernel_rfl) Tryz.func9
  (ChangeSpec.witness6 (enc:=enc) (C:=Tryz.checked) false ⟨#[],#[.int .i64 0,.int .i64 0,.slice none 0 0],[]⟩ 8 (by kernel_rfl) (by kernel_rfl) (by kernel_rfl) (by kernel_rfl)) ?_
 intro W base args ds gs before hval0 hW hcnd hsz0 _
 have hsz:(DataW.weightsEach Tryz.prog (Tryz.f9.params.toList++Rows.paramsApartSpec.plain.varTypes Tryz.prog) (ds++gs)).all (· <=reachBytes)=true:=hsz0
 clear hsz0
 have hval:∀ (j:Nat) t v,Tryz.f9.params[j]? =some t->args[j]? =some v->Value.okWide Tryz.prog W .any base t v:=hval0
 have hW':=hW
 obtain ⟨p,q,hA0,hV,rfl,hfz,hnd⟩:=hW
 have hA:DataW.TrodAll enc Tryz.prog W 0 (λ_=>true) true Tryz.f9.params.toList args.toList ds p:=hA0
 rw [Tryz.params9] at hA hval hsz
 obtain ⟨rfl,rfl⟩:=trodVars_none hV
 obtain ⟨v0,vs0,d0,ds0,p0,q0,hargs,rfl,rfl,h0,r0⟩:=trodAll_cons hA
 obtain ⟨v1,vs1,d1,ds1,p1,q1,rfl,rfl,rfl,h1,r1⟩:=trodAll_cons r0
 obtain ⟨v2,vs2,d2,ds2,p2,q2,rfl,rfl,rfl,h2,r2⟩:=trodAll_cons r1
 obtain ⟨rfl,rfl,rfl⟩:=trodAll_nil r2
 obtain rfl:args= #[v0,v1,v2]:=by cases args;simp_all
 obtain ⟨x,hx⟩:∃ x:ATy kinds,SV.ci (gF W) (az2 kinds x) [v0,v1,v2]:=X3 (te:=te) aq (k:=12) (base:=base) (by kernel_rfl) (λj t v a b=>hval j t v (by simpa using a) (by simpa using b)) hA hsz
 clear hA0 hval0
 have hp:o7 (x,())=true:=by
  obtain ⟨c,k,b,⟨⟩⟩:=x
  simp only [az2,SV.ci] at hx
  obtain ⟨_,_,e0,_,_,_,e1,_,v',_,e2,hx1,_⟩:=hx
  cases e0
  cases e1
  cases e2
  have hx2:Rep (gF W).F (.list .u8) b [v2]:=hx1
  have hsz2:(DataW.weightsEach Tryz.prog (_::_::_::_) (d0::d1::d2::_)).all (· <=reachBytes)=true:=hsz
  simp only [DataW.weightsEach,List.all_append,Bool.and_eq_true] at hsz2
  have hlb:=adA (te:=te) aq (ti:=abi) (e:=5) (ei:=afU) rfl rfl rfl hx2 h2 hsz2.2.2.1
  refine decide_eq_true ?_
  show b.length<=140737488351232
  have e:b.length*afU.bytes=b.length*1:=rfl
  rw [e] at hlb
  unfold reachBytes at hlb
  omega
 refine (walk x [v0,v1,v2] W hx hp).mono λe W' ⟨he,bel⟩=> ?_
 subst he
 exact ⟨_,rfl,_,_,_,[],_,[],hW',trodAll_mk1 (shut_bool Tryz.underlying4 _),Rz laidOut bel (by kernel_rfl) hA,rfl,bel.frame _,λh=>by cases h⟩

end ParamsApartLaw
/-- The generators of a Setup are points of the curve with even Y that are no Infinity, and another seed's first ones are told by Derive alone (without the document's answer). -/
theorem paramsApart_holds:Rows.ParamsApartSaid:=
 OpenClaim.holds_of_wide 9 Tryz.f9 rfl rfl rfl rfl rfl rfl rfl ⟨rfl,rfl,rfl,rfl,rfl⟩ rfl rfl rfl rfl rfl (by kernel_rfl) Tryz.func9 (by kernel_rfl)
  (of_decide_eq_true (by kernel_rfl)) (by unfold Func.isWrapper;first|(rw [if_pos (by decide+kernel)];kernel_rfl)|(rw [if_neg (by decide+kernel)];exact ⟨rfl,rfl⟩))
  (λos started H enc _=>ParamsApartLaw.lifted os started H enc)

end Go.Proofs.YtohjofabochgfaaGreat
