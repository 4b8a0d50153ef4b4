/- What Setup answers is new memory, each time. The given statement, by the function's proof. -/
import Derived.Test.YtohjofabochgfaaGreatRows
import Derived.WalkKit
import Derived.ProofKit
import Derived.OpenShut
import Derived.ChangeOld
import Derived.Below
import Derived.SizedLaws
import Derived.Test.YtohjofabochgfaaGreatXf
set_option linter.unusedSimpArgs false
set_option linter.unusedVariables false
set_option linter.unusedSectionVars false

namespace Go.Proofs.YtohjofabochgfaaGreat
namespace ParamsMemoryLaw
open Go Go.Proofs.YtohjofabochgfaaGreat Go.Proofs.YtohjofabochgfaaGreat.Sx
open Go.ChangeShapes Go.WideShapes Go.ChangeAt Go.RowKit

theorem own:ownKnob Tryz.prog.godebug=none:=by kernel_rfl
theorem laidOut:laidOutB Tryz.prog=true:=by kernel_rfl

abbrev kinds:List (Bool×Ty):= [(false,.int),(false,.int),(false,.list .u8)]

theorem prj (x:ATy kinds):ia.inp.prj ⟨aC2 kinds x,aAQ⟩=some (x,()):=by kernel_rfl

theorem walk (x:ATy kinds) (vs:List Value) (w:World) (hr:SV.bV (iv w) (aC2 kinds x) vs):
 Calls Tryz.prog 10 vs.toArray w λe w'=>e=.returned (.bool true)/\Below w.heap.size w w':=
 auN aez ⟨_,Tryz.func10,by kernel_rfl,by kernel_rfl⟩ hr (azC (prj x) (show LL (x,())=true from rfl) (show _=some (Out.ret ⟨.bool true,[]⟩) by kernel_rfl))

set_option maxRecDepth 100000 in
theorem lifted (os:Os) (started:os.Started) (H:Type) (enc:TypeId×Value->H):
 ReturnsInHanded {} Tryz.checked os 10 .any (Rows.paramsMemorySpec.pre6 enc Tryz.prog Tryz.f10 Rows.paramsMemoryRow.domain false) (Rows.paramsMemorySpec.post enc Tryz.prog Tryz.f10 false true false false):=by
 refine returnsInHanded_of_change_sized (C:=Tryz.checked) own started (by kernel_rfl) Tryz.func10
  (ChangeSpec.witness6 (enc:=enc) (C:=Tryz.checked) false ⟨#[],#[.int .i64 0,.int .i64 0,.slice none 0 0],[]⟩ 8 (by kernel_rfl) (by kernel_rfl) (by kernel_rfl) (by kernel_rfl)) ?_
 intro W base args ds gs before hval0 hW hcnd hsz0 _
 have hsz:(DataW.weightsEach Tryz.prog (Tryz.f10.params.toList++Rows.paramsMemorySpec.plain.varTypes Tryz.prog) (ds++gs)).all (· <=reachBytes)=true:=hsz0
 clear hsz0
 have hval:∀ (j:Nat) t v,Tryz.f10.params[j]? =some t->args[j]? =some v->Value.okWide Tryz.prog W .any base t v:=hval0
 have hW':=hW
 obtain ⟨p,q,hA0,hV,rfl,hfz,hnd⟩:=hW
 have hA:DataW.TrodAll enc Tryz.prog W 0 (λ_=>true) true Tryz.f10.params.toList args.toList ds p:=hA0
 rw [Tryz.params10] at hA hval hsz
 obtain ⟨rfl,rfl⟩:=trodVars_none hV
 obtain ⟨v0,vs0,d0,ds0,p0,q0,hargs,rfl,rfl,h0,r0⟩:=trodAll_cons hA
 obtain ⟨v1,vs1,d1,ds1,p1,q1,rfl,rfl,rfl,h1,r1⟩:=trodAll_cons r0
 obtain ⟨v2,vs2,d2,ds2,p2,q2,rfl,rfl,rfl,h2,r2⟩:=trodAll_cons r1
 obtain ⟨rfl,rfl,rfl⟩:=trodAll_nil r2
 obtain rfl:args= #[v0,v1,v2]:=by cases args;simp_all
 obtain ⟨x,hx⟩:∃ x:ATy kinds,SV.bV (iv W) (aC2 kinds x) [v0,v1,v2]:=Zd (te:=te) ar (k:=12) (base:=base) (by kernel_rfl) (λj t v a b=>hval j t v (by simpa using a) (by simpa using b)) hA hsz
 clear hA0 hval0
 refine (walk x [v0,v1,v2] W hx).mono λe W' ⟨he,bel⟩=> ?_
 subst he
 exact ⟨_,rfl,_,_,_,[],_,[],hW',trodAll_mk1 (shut_bool Tryz.underlying4 _),Sr laidOut bel (by kernel_rfl) hA,rfl,bel.frame _,λh=>by cases h⟩

end ParamsMemoryLaw
/-- What Setup answers is new memory, each time. -/
theorem paramsMemory_holds:Rows.ParamsMemorySaid:=
 OpenClaim.holds_of_wide 10 Tryz.f10 rfl rfl rfl rfl rfl rfl rfl ⟨rfl,rfl,rfl,rfl,rfl⟩ rfl rfl rfl rfl rfl (by kernel_rfl) Tryz.func10 (by kernel_rfl)
  (of_decide_eq_true (by kernel_rfl)) (by unfold Func.isWrapper;first|(rw [if_pos (by decide+kernel)];kernel_rfl)|(rw [if_neg (by decide+kernel)];exact ⟨rfl,rfl⟩))
  (λos started H enc _=>ParamsMemoryLaw.lifted os started H enc)

end Go.Proofs.YtohjofabochgfaaGreat
