/- Every Check answers what the document says; the parameters are left as they were. The given statement, by the function's proof. -/
import Derived.Test.YtohjofabochgfaaGreatRows
import Derived.WalkKit
import Derived.ProofKit
import Derived.OpenShut
import Derived.ChangeOld
import Derived.Below
import Derived.SizedLaws
import Derived.Test.YtohjofabochgfaaGreatXf
set_option linter.unusedSimpArgs false
set_option linter.unusedVariables false
set_option linter.unusedSectionVars false

namespace Go.Proofs.YtohjofabochgfaaGreat
namespace ParamsChecksLaw
open Go Go.Proofs.YtohjofabochgfaaGreat Go.Proofs.YtohjofabochgfaaGreat.Sx
open Go.ChangeShapes Go.WideShapes Go.ChangeAt Go.RowKit

theorem own : ownKnob Tryz.prog.godebug = none := by kernel_rfl
theorem laidOut : laidOutB Tryz.prog = true := by kernel_rfl

abbrev kinds : List (Bool × Ty) := [(true, .prod .int (.prod .int (.prod (.list (.prod .elem (.prod .elem .bool))) (.prod (.prod .elem (.prod .elem .bool)) (.prod .elem (.prod .elem .bool))))))]

theorem prj (x : ATy kinds) : cU.inp.prj ⟨agY kinds x, afs⟩ = some (x, ()) := by kernel_rfl

theorem walk (x : ATy kinds) (vs : List Value) (w : World) (hr : SV.bH (eW w) (agY kinds x) vs) :
    Calls Tryz.prog 6 vs.toArray w fun e w' => e = .returned (.bool true) ∧ Below w.heap.size w w' :=
  aav Gp ⟨_, Tryz.func6, by kernel_rfl, by kernel_rfl⟩ hr (aey (prj x) (show qu (x, ()) = true from rfl) (show _ = some (Out.ret ⟨.bool true, []⟩) by kernel_rfl))

set_option maxRecDepth 100000 in
theorem lifted (os : Os) (started : os.Started) (H : Type) (enc : TypeId × Value → H) :
    ReturnsInHanded {} Tryz.checked os 6 .any (Rows.paramsChecksSpec.pre6 enc Tryz.prog Tryz.f6 Rows.paramsChecksRow.domain false) (Rows.paramsChecksSpec.post enc Tryz.prog Tryz.f6 false true false false) := by
  refine returnsInHanded_of_change_sized (C := Tryz.checked) own started (by kernel_rfl) Tryz.func6
    (ChangeSpec.witness6 (enc := enc) (C := Tryz.checked) false ⟨#[], #[.agg #[.int .i64 0, .int .i64 0, .slice none 0 0, .int .u64 0, .int .u64 0, .int .u64 0, .int .u64 0, .int .u64 0, .int .u64 0, .int .u64 0, .int .u64 0, .bool false, .int .u64 0, .int .u64 0, .int .u64 0, .int .u64 0, .int .u64 0, .int .u64 0, .int .u64 0, .int .u64 0, .bool false]], []⟩ 8 (by kernel_rfl) (by kernel_rfl) (by kernel_rfl) (by kernel_rfl)) ?_
  intro W base args ds gs before hval0 hW hcnd hsz0 _
  have hsz : (DataW.weightsEach Tryz.prog (Tryz.f6.params.toList ++ Rows.paramsChecksSpec.plain.varTypes Tryz.prog) (ds ++ gs)).all (· ≤ reachBytes) = true := hsz0
  clear hsz0
  have hval : ∀ (j : Nat) t v, Tryz.f6.params[j]? = some t → args[j]? = some v → Value.okWide Tryz.prog W .any base t v := hval0
  have hW' := hW
  obtain ⟨p, q, hA0, hV, rfl, hfz, hnd⟩ := hW
  have hA : DataW.TrodAll enc Tryz.prog W 0 (fun _ => true) true Tryz.f6.params.toList args.toList ds p := hA0
  rw [Tryz.params6] at hA hval hsz
  obtain ⟨rfl, rfl⟩ := trodVars_none hV
  obtain ⟨v0, vs0, d0, ds0, p0, q0, hargs, rfl, rfl, h0, r0⟩ := trodAll_cons hA
  obtain ⟨rfl, rfl, rfl⟩ := trodAll_nil r0
  obtain rfl : args = #[v0] := by cases args; simp_all
  obtain ⟨x, hx⟩ : ∃ x : ATy kinds, SV.bH (eW W) (agY kinds x) [v0] := Ju (te := te) ar (k := 12) (base := base) (by kernel_rfl) (fun j t v a b => hval j t v (by simpa using a) (by simpa using b)) hA hsz
  clear hA0 hval0
  refine (walk x [v0] W hx).mono fun e W' ⟨he, bel⟩ => ?_
  subst he
  exact ⟨_, rfl, _, _, _, [], _, [], hW', trodAll_mk1 (shut_bool Tryz.underlying4 _), EQ laidOut bel (by kernel_rfl) hA, rfl, bel.frame _, fun h => by cases h⟩

end ParamsChecksLaw

/-- Every Check answers what the document says; the parameters are left as they were. -/
theorem paramsChecks_holds : Rows.ParamsChecksSaid :=
  OpenClaim.holds_of_wide 6 Tryz.f6 rfl rfl rfl rfl rfl rfl rfl ⟨rfl, rfl, rfl, rfl, rfl⟩ rfl rfl rfl rfl rfl (by kernel_rfl) Tryz.func6 (by kernel_rfl)
    (of_decide_eq_true (by kernel_rfl)) (by unfold Func.isWrapper; first | (rw [if_pos (by decide +kernel)]; kernel_rfl) | (rw [if_neg (by decide +kernel)]; exact ⟨rfl, rfl⟩))
    (fun os started H enc _ => ParamsChecksLaw.lifted os started H enc)

end Go.Proofs.YtohjofabochgfaaGreat
