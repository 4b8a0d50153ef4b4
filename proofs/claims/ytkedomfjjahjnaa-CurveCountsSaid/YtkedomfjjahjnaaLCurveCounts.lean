/- So often and so often is so often together. The given statement, by the function's proof. -/
import Derived.Test.YtkedomfjjahjnaaRows
import Derived.WalkKit
import Derived.ProofKit
import Derived.OpenShut
import Derived.ChangeOld
import Derived.Below
import Derived.SizedLaws
import Derived.Test.YtkedomfjjahjnaaXf
set_option linter.unusedSimpArgs false
set_option linter.unusedVariables false
set_option linter.unusedSectionVars false

namespace Go.Proofs.Ytkedomfjjahjnaa
namespace CurveCountsLaw
open Go Go.Proofs.Ytkedomfjjahjnaa Go.Proofs.Ytkedomfjjahjnaa.Sx
open Go.ChangeShapes Go.WideShapes Go.ChangeAt Go.RowKit

theorem own : ownKnob Try.prog.godebug = none := by kernel_rfl
theorem laidOut : laidOutB Try.prog = true := by kernel_rfl

abbrev kinds : List (Bool × Ty) := [(false, .int), (true, .elem), (true, .elem), (true, .prod .elem (.prod .elem .bool))]

theorem prj (x : ATy kinds) : lcounts_S.inp.prj ⟨injs kinds x, noHp⟩ = some (x, ()) := by kernel_rfl

theorem walk (x : ATy kinds) (vs : List Value) (w : World) (hr : SV.relL (startCtx w) (injs kinds x) vs) :
    Calls Try.prog 7 vs.toArray w fun e w' => e = .returned (.bool true) ∧ Below w.heap.size w w' :=
  law_calls lcounts_known ⟨_, Try.func7, by kernel_rfl, by kernel_rfl⟩ hr (summ_run (prj x) (show lcounts_pre (x, ()) = true from rfl) (show _ = some (Out.ret ⟨.bool true, []⟩) by kernel_rfl))

set_option maxRecDepth 100000 in
theorem lifted (os : Os) (started : os.Started) (H : Type) (enc : TypeId × Value → H) :
    ReturnsInHanded {} Try.checked os 7 .any (Rows.curveCountsSpec.pre6 enc Try.prog Try.f7 Rows.curveCountsRow.domain false) (Rows.curveCountsSpec.post enc Try.prog Try.f7 false true false false) := by
  refine returnsInHanded_of_change_sized (C := Try.checked) own started (by kernel_rfl) Try.func7
    (ChangeSpec.witness6 (enc := enc) (C := Try.checked) false ⟨#[], #[.int .i64 0, .agg #[.int .u64 0, .int .u64 0, .int .u64 0, .int .u64 0], .agg #[.int .u64 0, .int .u64 0, .int .u64 0, .int .u64 0], .agg #[.int .u64 0, .int .u64 0, .int .u64 0, .int .u64 0, .int .u64 0, .int .u64 0, .int .u64 0, .int .u64 0, .bool false]], []⟩ 8 (by kernel_rfl) (by kernel_rfl) (by kernel_rfl) (by kernel_rfl)) ?_
  intro W base args ds gs before hval0 hW hcnd hsz0 _
  have hsz : (DataW.weightsEach Try.prog (Try.f7.params.toList ++ Rows.curveCountsSpec.plain.varTypes Try.prog) (ds ++ gs)).all (· ≤ reachBytes) = true := hsz0
  clear hsz0
  have hval : ∀ (j : Nat) t v, Try.f7.params[j]? = some t → args[j]? = some v → Value.okWide Try.prog W .any base t v := hval0
  have hW' := hW
  obtain ⟨p, q, hA0, hV, rfl, hfz, hnd⟩ := hW
  have hA : DataW.TrodAll enc Try.prog W 0 (fun _ => true) true Try.f7.params.toList args.toList ds p := hA0
  rw [Try.params7] at hA hval hsz
  obtain ⟨rfl, rfl⟩ := trodVars_none hV
  obtain ⟨v0, vs0, d0, ds0, p0, q0, hargs, rfl, rfl, h0, r0⟩ := trodAll_cons hA
  obtain ⟨v1, vs1, d1, ds1, p1, q1, rfl, rfl, rfl, h1, r1⟩ := trodAll_cons r0
  obtain ⟨v2, vs2, d2, ds2, p2, q2, rfl, rfl, rfl, h2, r2⟩ := trodAll_cons r1
  obtain ⟨v3, vs3, d3, ds3, p3, q3, rfl, rfl, rfl, h3, r3⟩ := trodAll_cons r2
  obtain ⟨rfl, rfl, rfl⟩ := trodAll_nil r3
  obtain rfl : args = #[v0, v1, v2, v3] := by cases args; simp_all
  obtain ⟨x, hx⟩ : ∃ x : ATy kinds, SV.relL (startCtx W) (injs kinds x) [v0, v1, v2, v3] := open_args (te := te) te_ok (k := 12) (base := base) (by kernel_rfl) (fun j t v a b => hval j t v (by simpa using a) (by simpa using b)) hA hsz
  clear hA0 hval0
  refine (walk x [v0, v1, v2, v3] W hx).mono fun e W' ⟨he, bel⟩ => ?_
  subst he
  exact ⟨_, rfl, _, _, _, [], _, [], hW', trodAll_mk1 (shut_bool Try.underlying4 _), args_again laidOut bel (by kernel_rfl) hA, rfl, bel.frame _, fun h => by cases h⟩

end CurveCountsLaw

/-- So often and so often is so often together. -/
theorem curveCounts_holds : Rows.CurveCountsSaid :=
  OpenClaim.holds_of_wide 7 Try.f7 rfl rfl rfl rfl rfl rfl rfl ⟨rfl, rfl, rfl, rfl, rfl⟩ rfl rfl rfl rfl rfl (by kernel_rfl) Try.func7 (by kernel_rfl)
    (of_decide_eq_true (by kernel_rfl)) (by unfold Func.isWrapper; first | (rw [if_pos (by decide +kernel)]; kernel_rfl) | (rw [if_neg (by decide +kernel)]; exact ⟨rfl, rfl⟩))
    (fun os started H enc _ => CurveCountsLaw.lifted os started H enc)

end Go.Proofs.Ytkedomfjjahjnaa
