/- the commitment to a sum is the commitments' sum, with the blinds' sum; and so often so often (without the document's answer) The given statement, by the function's proof. -/
import Derived.Test.YtohjofabochgfaaGreatRows
import Derived.WalkKit
import Derived.ProofKit
import Derived.OpenShut
import Derived.ChangeOld
import Derived.Below
import Derived.SizedLaws
import Derived.Test.YtohjofabochgfaaGreatXf
set_option linter.unusedSimpArgs false
set_option linter.unusedVariables false
set_option linter.unusedSectionVars false

namespace Go.Proofs.YtohjofabochgfaaGreat
namespace ParamsLinearLaw
open Go Go.Proofs.YtohjofabochgfaaGreat Go.Proofs.YtohjofabochgfaaGreat.Sx
open Go.ChangeShapes Go.WideShapes Go.ChangeAt Go.RowKit

theorem own:ownKnob Tryz.prog.godebug=none:=by kernel_rfl
theorem laidOut:laidOutB Tryz.prog=true:=by kernel_rfl

abbrev kinds:List (Bool×Ty):= [(true,.prod .int (.prod .int (.prod (.list (.prod .elem (.prod .elem .bool))) (.prod (.prod .elem (.prod .elem .bool)) (.prod .elem (.prod .elem .bool)))))),(false,.list .elem),(false,.list .elem),(true,.elem),(true,.elem),(true,.elem)]

theorem prj (x:ATy kinds):gB.inp.prj ⟨ajO kinds x,ajn⟩=some (x,()):=by kernel_rfl

theorem walk (x:ATy kinds) (vs:List Value) (w:World) (hr:SV.bM (eX w) (ajO kinds x) vs) (hp:oz (x,())=true):
 Calls Tryz.prog 8 vs.toArray w λe w'=>e=.returned (.bool true)/\Below w.heap.size w w':=
 aeb QQ ⟨_,Tryz.func8,by kernel_rfl,by kernel_rfl⟩ hr (aip (prj x) (show oz (x,())=true from hp) (show _=some (Out.ret ⟨.bool true,[]⟩) by kernel_rfl))

set_option maxRecDepth 100000 in
theorem lifted (os:Os) (started:os.Started) (H:Type) (enc:TypeId×Value->H):
 ReturnsInHanded {} Tryz.checked os 8 .any (Rows.paramsLinearSpec.pre6 enc Tryz.prog Tryz.f8 Rows.paramsLinearRow.domain false) (Rows.paramsLinearSpec.post enc Tryz.prog Tryz.f8 false true false false):=by
 refine returnsInHanded_of_change_sized (C:=Tryz.checked) own started (by kernel_rfl) Tryz.func8
  (ChangeSpec.witness6 (enc:=enc) (C:=Tryz.checked) false ⟨#[],#[.agg #[.int .i64 0,.int .i64 0,.slice none 0 0,.int .u64 0,.int .u64 0,.int .u64 0,.int .u64 0,.int .u64 0,.int .u64 0,.int .u64 0,.int .u64 0,.bool false,.int .u64 0,.int .u64 0,.int .u64 0,.int .u64 0,.int .u64 0,.int .u64 0,.int .u64 0,.int .u64 0,.bool false],.slice none 0 0,.slice none 0 0,.agg #[.int .u64 0,.int .u64 0,.int .u64 0,.int .u64 0],.agg #[.int .u64 0,.int .u64 0,.int .u64 0,.int .u64 0],.agg #[.int .u64 0,.int .u64 0,.int .u64 0,.int .u64 0]],[]⟩ 8 (by kernel_rfl) (by kernel_rfl) (by kernel_rfl) (by kernel_rfl)) ?_
 intro W base args ds gs before hval0 hW hcnd hsz0 _
 have hsz:(DataW.weightsEach Tryz.prog (Tryz.f8.params.toList++Rows.paramsLinearSpec.plain.varTypes Tryz.prog) (ds++gs)).all (· <=reachBytes)=true:=hsz0
 clear hsz0
 have hval:∀ (j:Nat) t v,Tryz.f8.params[j]? =some t->args[j]? =some v->Value.okWide Tryz.prog W .any base t v:=hval0
 have hW':=hW
 obtain ⟨p,q,hA0,hV,rfl,hfz,hnd⟩:=hW
 have hA:DataW.TrodAll enc Tryz.prog W 0 (λ_=>true) true Tryz.f8.params.toList args.toList ds p:=hA0
 rw [Tryz.params8] at hA hval hsz
 obtain ⟨rfl,rfl⟩:=trodVars_none hV
 obtain ⟨v0,vs0,d0,ds0,p0,q0,hargs,rfl,rfl,h0,r0⟩:=trodAll_cons hA
 obtain ⟨v1,vs1,d1,ds1,p1,q1,rfl,rfl,rfl,h1,r1⟩:=trodAll_cons r0
 obtain ⟨v2,vs2,d2,ds2,p2,q2,rfl,rfl,rfl,h2,r2⟩:=trodAll_cons r1
 obtain ⟨v3,vs3,d3,ds3,p3,q3,rfl,rfl,rfl,h3,r3⟩:=trodAll_cons r2
 obtain ⟨v4,vs4,d4,ds4,p4,q4,rfl,rfl,rfl,h4,r4⟩:=trodAll_cons r3
 obtain ⟨v5,vs5,d5,ds5,p5,q5,rfl,rfl,rfl,h5,r5⟩:=trodAll_cons r4
 obtain ⟨rfl,rfl,rfl⟩:=trodAll_nil r5
 obtain rfl:args= #[v0,v1,v2,v3,v4,v5]:=by cases args;simp_all
 obtain ⟨x,hx⟩:∃ x:ATy kinds,SV.bM (eX W) (ajO kinds x) [v0,v1,v2,v3,v4,v5]:=Mk (te:=te) au (k:=12) (base:=base) (by kernel_rfl) (λj t v a b=>hval j t v (by simpa using a) (by simpa using b)) hA hsz
 clear hA0 hval0
 have hp:oz (x,())=true:=by
  obtain ⟨⟨c,k,G,⟨wx,wy,wi⟩,ux,uy,ui⟩,a,b,r,s,q,⟨⟩⟩:=x
  simp only [ajO,SV.bM] at hx
  obtain ⟨_,_,e0,hx0,_⟩:=hx
  cases e0
  have hx0:SV.rel (eX W) (.agg [.int c,.int k,.lst (.prod .elem (.prod .elem .bool)) G,_,_,_,_,_,_,_,_,_,_,_,_,_,_,_,_,_,_]) v0:=hx0
  simp only [SV.rel,SV.bM] at hx0
  obtain ⟨cs,rfl,⟨u0,_,ea,_,u1,_,eb,_,u2,_,ec,hr,ed⟩,_⟩:=hx0
  subst ec
  subst eb
  subst ea
  have hr1:Rep (eX W).F (.list (.prod .elem (.prod .elem .bool))) G [u2]:=hr
  simp only [Rep] at hr1
  obtain ⟨_,ad,cap,hv,_⟩:=hr1
  cases hv
  have hsz2:(DataW.weightsEach Tryz.prog (_::_) (d0::_)).all (· <=reachBytes)=true:=hsz
  simp only [DataW.weightsEach,List.all_append,Bool.and_eq_true] at hsz2
  obtain ⟨d,p,k1,k2⟩:=aqt (T:=69) (T1:=67) (i:=2) (o:=2) (by kernel_rfl) (c:=.slice ad G.length cap) rfl h0 (λn hn=>by simpa using List.all_eq_true.1 hsz2.1 n hn)
  have hlb:=O3 (te:=te) au (T:=67) (e:=43) (ti:=OU) (ei:=HH) rfl rfl rfl k1 k2
  have b1:HH.bytes=72:=rfl
  rw [b1] at hlb
  unfold reachBytes at hlb
  exact decide_eq_true (show G.length*72<=140737488355328 by omega)
 refine (walk x [v0,v1,v2,v3,v4,v5] W hx hp).mono λe W' ⟨he,bel⟩=> ?_
 subst he
 exact ⟨_,rfl,_,_,_,[],_,[],hW',trodAll_mk1 (shut_bool Tryz.underlying4 _),Hg laidOut bel (by kernel_rfl) hA,rfl,bel.frame _,λh=>by cases h⟩

end ParamsLinearLaw
/-- the commitment to a sum is the commitments' sum, with the blinds' sum; and so often so often (without the document's answer) -/
theorem paramsLinear_holds:Rows.ParamsLinearSaid:=
 OpenClaim.holds_of_wide 8 Tryz.f8 rfl rfl rfl rfl rfl rfl rfl ⟨rfl,rfl,rfl,rfl,rfl⟩ rfl rfl rfl rfl rfl (by kernel_rfl) Tryz.func8 (by kernel_rfl)
  (of_decide_eq_true (by kernel_rfl)) (by unfold Func.isWrapper;first|(rw [if_pos (by decide+kernel)];kernel_rfl)|(rw [if_neg (by decide+kernel)];exact ⟨rfl,rfl⟩))
  (λos started H enc _=>ParamsLinearLaw.lifted os started H enc)

end Go.Proofs.YtohjofabochgfaaGreat
