/- Every Read, and every answer of every script of what is heard; the proof is left as it was. The given statement, by the function's proof. -/
import Derived.Test.YtohjofabochgfaaGreatRows
import Derived.WalkKit
import Derived.ProofKit
import Derived.OpenShut
import Derived.ChangeOld
import Derived.Below
import Derived.SizedLaws
import Derived.Test.YtohjofabochgfaaGreatXf
set_option linter.unusedSimpArgs false
set_option linter.unusedVariables false
set_option linter.unusedSectionVars false

namespace Go.Proofs.YtohjofabochgfaaGreat
namespace TapeReadsLaw
open Go Go.Proofs.YtohjofabochgfaaGreat Go.Proofs.YtohjofabochgfaaGreat.Sx
open Go.ChangeShapes Go.WideShapes Go.ChangeAt Go.RowKit

theorem own:ownKnob Tryz.prog.godebug=none:=by kernel_rfl
theorem laidOut:laidOutB Tryz.prog=true:=by kernel_rfl

abbrev kinds:List (Bool×Ty):= [(false,.int),(true,.prod .int (.list .elem)),(false,.list .u8),(false,.list (.prod .int (.prod .elem (.prod .elem (.prod .elem .bool)))))]

theorem prj (x:ATy kinds):ff.inp.prj ⟨azd kinds x,asz⟩=some (x,()):=by kernel_rfl

theorem walk (x:ATy kinds) (vs:List Value) (w:World) (hr:SV.bL (fc w) (azd kinds x) vs) (hp:nM (x,())=true):
 Calls Tryz.prog 3 vs.toArray w λe w'=>e=.returned (.bool true)/\Below w.heap.size w w':=
 asQ Xp ⟨_,Tryz.func3,by kernel_rfl,by kernel_rfl⟩ hr (ax0 (prj x) (show nM (x,())=true from hp) (show _=some (Out.ret ⟨.bool true,[]⟩) by kernel_rfl))

set_option maxRecDepth 100000 in
theorem lifted (os:Os) (started:os.Started) (H:Type) (enc:TypeId×Value->H):
 ReturnsInHanded {} Tryz.checked os 3 .any (Rows.tapeReadsSpec.pre6 enc Tryz.prog Tryz.f3 Rows.tapeReadsRow.domain false) (Rows.tapeReadsSpec.post enc Tryz.prog Tryz.f3 false true false false):=by
 refine returnsInHanded_of_change_sized (C:=Tryz.checked) own started (by kernel_rfl) Tryz.func3
  (ChangeSpec.witness6 (enc:=enc) (C:=Tryz.checked) false ⟨#[],#[.int .i64 0,.agg #[.int .i64 0,.slice none 0 0],.slice none 0 0,.slice none 0 0],[]⟩ 8 (by kernel_rfl) (by kernel_rfl) (by kernel_rfl) (by kernel_rfl)) ?_
 intro W base args ds gs before hval0 hW hcnd hsz0 _
 have hsz:(DataW.weightsEach Tryz.prog (Tryz.f3.params.toList++Rows.tapeReadsSpec.plain.varTypes Tryz.prog) (ds++gs)).all (· <=reachBytes)=true:=hsz0
 clear hsz0
 have hval:∀ (j:Nat) t v,Tryz.f3.params[j]? =some t->args[j]? =some v->Value.okWide Tryz.prog W .any base t v:=hval0
 have hW':=hW
 obtain ⟨p,q,hA0,hV,rfl,hfz,hnd⟩:=hW
 have hA:DataW.TrodAll enc Tryz.prog W 0 (λ_=>true) true Tryz.f3.params.toList args.toList ds p:=hA0
 rw [Tryz.params3] at hA hval hsz
 obtain ⟨rfl,rfl⟩:=trodVars_none hV
 obtain ⟨v0,vs0,d0,ds0,p0,q0,hargs,rfl,rfl,h0,r0⟩:=trodAll_cons hA
 obtain ⟨v1,vs1,d1,ds1,p1,q1,rfl,rfl,rfl,h1,r1⟩:=trodAll_cons r0
 obtain ⟨v2,vs2,d2,ds2,p2,q2,rfl,rfl,rfl,h2,r2⟩:=trodAll_cons r1
 obtain ⟨v3,vs3,d3,ds3,p3,q3,rfl,rfl,rfl,h3,r3⟩:=trodAll_cons r2
 obtain ⟨rfl,rfl,rfl⟩:=trodAll_nil r3
 obtain rfl:args= #[v0,v1,v2,v3]:=by cases args;simp_all
 obtain ⟨x,hx⟩:∃ x:ATy kinds,SV.bL (fc W) (azd kinds x) [v0,v1,v2,v3]:=Xm (te:=te) al (k:=12) (base:=base) (by kernel_rfl) (λj t v a b=>hval j t v (by simpa using a) (by simpa using b)) hA hsz
 clear hA0 hval0
 have hp:nM (x,())=true:=by
  obtain ⟨c,⟨m,tp⟩,b,l,⟨⟩⟩:=x
  simp only [azd,SV.bL] at hx
  obtain ⟨_,_,e0,_,_,_,e1,hx1,_,_,e2,hx2,_⟩:=hx
  cases e0
  cases e1
  cases e2
  have hx2:Rep (fc W).F (.list .u8) b [v2]:=hx2
  have hx1:SV.rel (fc W) (.agg [.int m,.lst .elem tp]) v1:=hx1
  simp only [SV.rel,SV.bL] at hx1
  obtain ⟨cs,rfl,⟨u0,_,ea,_,u1,_,eb,hr,ec⟩,_⟩:=hx1
  subst ec
  subst eb
  subst ea
  have hr1:Rep (fc W).F (.list .elem) tp [u1]:=hr
  have hr':=hr1
  simp only [Rep] at hr1
  obtain ⟨_,ad,cap,hv,_⟩:=hr1
  cases hv
  have hsz2:(DataW.weightsEach Tryz.prog (_::_::_::_) (d0::d1::d2::_)).all (· <=reachBytes)=true:=hsz
  simp only [DataW.weightsEach,List.all_append,Bool.and_eq_true] at hsz2
  obtain ⟨d,p,k1,k2⟩:=aEk (T:=24) (T1:=22) (by kernel_rfl) rfl rfl h1 (λn hn=>by simpa using List.all_eq_true.1 hsz2.2.1 n hn)
  have hlb:=HR (te:=te) al (T:=22) (e:=41) (ti:=abf) (ei:=Rl) rfl rfl rfl k1 k2
  have b1:Rl.bytes=32:=rfl
  rw [b1] at hlb
  have hlc:=ac1 (te:=te) al (ti:=abe) (e:=5) (ei:=afT) rfl rfl rfl hx2 h2 hsz2.2.2.1
  have b2:afT.bytes=1:=rfl
  rw [b2] at hlc
  unfold reachBytes at hlb hlc
  exact decide_eq_true (show tp.length*32<=140737488355328/\b.length<=140737488351232 by omega)
 refine (walk x [v0,v1,v2,v3] W hx hp).mono λe W' ⟨he,bel⟩=> ?_
 subst he
 exact ⟨_,rfl,_,_,_,[],_,[],hW',trodAll_mk1 (shut_bool Tryz.underlying4 _),QD laidOut bel (by kernel_rfl) hA,rfl,bel.frame _,λh=>by cases h⟩

end TapeReadsLaw
/-- Every Read, and every answer of every script of what is heard; the proof is left as it was. -/
theorem tapeReads_holds:Rows.TapeReadsSaid:=
 OpenClaim.holds_of_wide 3 Tryz.f3 rfl rfl rfl rfl rfl rfl rfl ⟨rfl,rfl,rfl,rfl,rfl⟩ rfl rfl rfl rfl rfl (by kernel_rfl) Tryz.func3 (by kernel_rfl)
  (of_decide_eq_true (by kernel_rfl)) (by unfold Func.isWrapper;first|(rw [if_pos (by decide+kernel)];kernel_rfl)|(rw [if_neg (by decide+kernel)];exact ⟨rfl,rfl⟩))
  (λos started H enc _=>TapeReadsLaw.lifted os started H enc)

end Go.Proofs.YtohjofabochgfaaGreat
