/- Every answer of every script over two sums that are put off. The given statement, by the function's proof. -/
import Derived.Test.YtkedomfjjahjnaaRows
import Derived.WalkKit
import Derived.ProofKit
import Derived.OpenShut
import Derived.ChangeOld
import Derived.Below
import Derived.SizedLaws
import Derived.Test.YtkedomfjjahjnaaXf
set_option linter.unusedSimpArgs false
set_option linter.unusedVariables false
set_option linter.unusedSectionVars false

namespace Go.Proofs.Ytkedomfjjahjnaa
namespace MsmStepsLaw
open Go Go.Proofs.Ytkedomfjjahjnaa Go.Proofs.Ytkedomfjjahjnaa.Sx
open Go.ChangeShapes Go.WideShapes Go.ChangeAt Go.RowKit

theorem own : ownKnob Try.prog.godebug = none := by kernel_rfl
theorem laidOut : laidOutB Try.prog = true := by kernel_rfl

abbrev kinds : List (Bool × Ty) := [(false, .int), (false, .list (.prod .int (.prod .elem (.prod .elem (.prod .elem .bool)))))]

theorem prj (x : ATy kinds) : eH.inp.prj ⟨ahL kinds x, ahh⟩ = some (x, ()) := by kernel_rfl

theorem walk (x : ATy kinds) (vs : List Value) (w : World) (hr : SV.bO (fu w) (ahL kinds x) vs) (hp : l5 (x, ()) = true) :
    Calls Try.prog 13 vs.toArray w fun e w' => e = .returned (.bool true) ∧ Below w.heap.size w w' :=
  adw MU ⟨_, Try.func13, by kernel_rfl, by kernel_rfl⟩ hr (agm (prj x) (show l5 (x, ()) = true from hp) (show _ = some (Out.ret ⟨.bool true, []⟩) by kernel_rfl))

set_option maxRecDepth 100000 in
theorem lifted (os : Os) (started : os.Started) (H : Type) (enc : TypeId × Value → H) :
    ReturnsInHanded {} Try.checked os 13 .any (Rows.msmStepsSpec.pre6 enc Try.prog Try.f13 Rows.msmStepsRow.domain false) (Rows.msmStepsSpec.post enc Try.prog Try.f13 false true false false) := by
  refine returnsInHanded_of_change_sized (C := Try.checked) own started (by kernel_rfl) Try.func13
    (ChangeSpec.witness6 (enc := enc) (C := Try.checked) false ⟨#[], #[.int .i64 0, .slice none 0 0], []⟩ 8 (by kernel_rfl) (by kernel_rfl) (by kernel_rfl) (by kernel_rfl)) ?_
  intro W base args ds gs before hval0 hW hcnd hsz0 _
  have hsz : (DataW.weightsEach Try.prog (Try.f13.params.toList ++ Rows.msmStepsSpec.plain.varTypes Try.prog) (ds ++ gs)).all (· ≤ reachBytes) = true := hsz0
  clear hsz0
  have hval : ∀ (j : Nat) t v, Try.f13.params[j]? = some t → args[j]? = some v → Value.okWide Try.prog W .any base t v := hval0
  have hW' := hW
  obtain ⟨p, q, hA0, hV, rfl, hfz, hnd⟩ := hW
  have hA : DataW.TrodAll enc Try.prog W 0 (fun _ => true) true Try.f13.params.toList args.toList ds p := hA0
  rw [Try.params13] at hA hval hsz
  obtain ⟨rfl, rfl⟩ := trodVars_none hV
  obtain ⟨v0, vs0, d0, ds0, p0, q0, hargs, rfl, rfl, h0, r0⟩ := trodAll_cons hA
  obtain ⟨v1, vs1, d1, ds1, p1, q1, rfl, rfl, rfl, h1, r1⟩ := trodAll_cons r0
  obtain ⟨rfl, rfl, rfl⟩ := trodAll_nil r1
  obtain rfl : args = #[v0, v1] := by cases args; simp_all
  obtain ⟨x, hx⟩ : ∃ x : ATy kinds, SV.bO (fu W) (ahL kinds x) [v0, v1] := Mm (te := te) av (k := 12) (base := base) (by kernel_rfl) (fun j t v a b => hval j t v (by simpa using a) (by simpa using b)) hA hsz
  clear hA0 hval0
  have hp : l5 (x, ()) = true := by
    obtain ⟨c, l, ⟨⟩⟩ := x
    simp only [ahL, SV.bO] at hx
    obtain ⟨_, _, e0, _, _, _, e1, hx1, _⟩ := hx
    cases e0
    cases e1
    have hx1 : Rep (fu W).F (.list (.prod .int (.prod .elem (.prod .elem (.prod .elem .bool))))) l [v1] := hx1
    have hsz2 : (DataW.weightsEach Try.prog (_ :: _ :: _) (d0 :: d1 :: _)).all (· ≤ reachBytes) = true := hsz
    simp only [DataW.weightsEach, List.all_append, Bool.and_eq_true] at hsz2
    have hl1 := Rg (te := te) av (ti := Pn) (e := 65) (ei := H3) rfl rfl rfl hx1 h1 hsz2.2.1
    have b1 : H3.bytes = 112 := rfl
    rw [b1] at hl1
    unfold reachBytes at hl1
    refine decide_eq_true (show l.length ≤ 140737488355328 from by omega)
  refine (walk x [v0, v1] W hx hp).mono fun e W' ⟨he, bel⟩ => ?_
  subst he
  exact ⟨_, rfl, _, _, _, [], _, [], hW', trodAll_mk1 (shut_bool Try.underlying4 _), HG laidOut bel (by kernel_rfl) hA, rfl, bel.frame _, fun h => by cases h⟩

end MsmStepsLaw

/-- Every answer of every script over two sums that are put off. -/
theorem msmSteps_holds : Rows.MsmStepsSaid :=
  OpenClaim.holds_of_wide 13 Try.f13 rfl rfl rfl rfl rfl rfl rfl ⟨rfl, rfl, rfl, rfl, rfl⟩ rfl rfl rfl rfl rfl (by kernel_rfl) Try.func13 (by kernel_rfl)
    (of_decide_eq_true (by kernel_rfl)) (by unfold Func.isWrapper; first | (rw [if_pos (by decide +kernel)]; kernel_rfl) | (rw [if_neg (by decide +kernel)]; exact ⟨rfl, rfl⟩))
    (fun os started H enc _ => MsmStepsLaw.lifted os started H enc)

end Go.Proofs.Ytkedomfjjahjnaa
