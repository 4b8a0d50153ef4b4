/- Encode and Decode are there and back. The given statement, by the function's proof. -/
import Derived.Test.YtkedomfjjahjnaaRows
import Derived.WalkKit
import Derived.ProofKit
import Derived.OpenShut
import Derived.ChangeOld
import Derived.Below
import Derived.SizedLaws
import Derived.Test.YtkedomfjjahjnaaXf
set_option linter.unusedSimpArgs false
set_option linter.unusedVariables false
set_option linter.unusedSectionVars false

namespace Go.Proofs.Ytkedomfjjahjnaa
namespace CurveRoundLaw
open Go Go.Proofs.Ytkedomfjjahjnaa Go.Proofs.Ytkedomfjjahjnaa.Sx
open Go.ChangeShapes Go.WideShapes Go.ChangeAt Go.RowKit

theorem own : ownKnob Try.prog.godebug = none := by kernel_rfl
theorem laidOut : laidOutB Try.prog = true := by kernel_rfl

abbrev kinds : List (Bool × Ty) := [(false, .int), (true, .prod .elem (.prod .elem .bool)), (false, .list .u8)]

theorem prj (x : ATy kinds) : lround_S.inp.prj ⟨injs kinds x, noHp⟩ = some (x, ()) := by kernel_rfl

theorem walk (x : ATy kinds) (vs : List Value) (w : World) (hr : SV.relL (startCtx w) (injs kinds x) vs) (hp : lround_pre (x, ()) = true) :
    Calls Try.prog 11 vs.toArray w fun e w' => e = .returned (.bool true) ∧ Below w.heap.size w w' :=
  law_calls lround_known ⟨_, Try.func11, by kernel_rfl, by kernel_rfl⟩ hr (summ_run (prj x) (show lround_pre (x, ()) = true from hp) (show _ = some (Out.ret ⟨.bool true, []⟩) by kernel_rfl))

set_option maxRecDepth 100000 in
theorem lifted (os : Os) (started : os.Started) (H : Type) (enc : TypeId × Value → H) :
    ReturnsInHanded {} Try.checked os 11 .any (Rows.curveRoundSpec.pre6 enc Try.prog Try.f11 Rows.curveRoundRow.domain false) (Rows.curveRoundSpec.post enc Try.prog Try.f11 false true false false) := by
  refine returnsInHanded_of_change_sized (C := Try.checked) own started (by kernel_rfl) Try.func11
    (ChangeSpec.witness6 (enc := enc) (C := Try.checked) false ⟨#[], #[.int .i64 0, .agg #[.int .u64 0, .int .u64 0, .int .u64 0, .int .u64 0, .int .u64 0, .int .u64 0, .int .u64 0, .int .u64 0, .bool false], .slice none 0 0], []⟩ 8 (by kernel_rfl) (by kernel_rfl) (by kernel_rfl) (by kernel_rfl)) ?_
  intro W base args ds gs before hval0 hW hcnd hsz0 _
  have hsz : (DataW.weightsEach Try.prog (Try.f11.params.toList ++ Rows.curveRoundSpec.plain.varTypes Try.prog) (ds ++ gs)).all (· ≤ reachBytes) = true := hsz0
  clear hsz0
  have hval : ∀ (j : Nat) t v, Try.f11.params[j]? = some t → args[j]? = some v → Value.okWide Try.prog W .any base t v := hval0
  have hW' := hW
  obtain ⟨p, q, hA0, hV, rfl, hfz, hnd⟩ := hW
  have hA : DataW.TrodAll enc Try.prog W 0 (fun _ => true) true Try.f11.params.toList args.toList ds p := hA0
  rw [Try.params11] at hA hval hsz
  obtain ⟨rfl, rfl⟩ := trodVars_none hV
  obtain ⟨v0, vs0, d0, ds0, p0, q0, hargs, rfl, rfl, h0, r0⟩ := trodAll_cons hA
  obtain ⟨v1, vs1, d1, ds1, p1, q1, rfl, rfl, rfl, h1, r1⟩ := trodAll_cons r0
  obtain ⟨v2, vs2, d2, ds2, p2, q2, rfl, rfl, rfl, h2, r2⟩ := trodAll_cons r1
  obtain ⟨rfl, rfl, rfl⟩ := trodAll_nil r2
  obtain rfl : args = #[v0, v1, v2] := by cases args; simp_all
  obtain ⟨x, hx⟩ : ∃ x : ATy kinds, SV.relL (startCtx W) (injs kinds x) [v0, v1, v2] := open_args (te := te) te_ok (k := 12) (base := base) (by kernel_rfl) (fun j t v a b => hval j t v (by simpa using a) (by simpa using b)) hA hsz
  clear hA0 hval0
  have hp : lround_pre (x, ()) = true := by
    obtain ⟨c, P, b, ⟨⟩⟩ := x
    simp only [injs, SV.relL] at hx
    obtain ⟨_, _, e0, _, _, _, e1, _, v', _, e2, hx1, _⟩ := hx
    cases e0
    cases e1
    cases e2
    have hx2 : Rep (startCtx W).F (.list .u8) b [v2] := hx1
    have hsz2 : (DataW.weightsEach Try.prog (_ :: _ :: _ :: _) (d0 :: d1 :: d2 :: _)).all (· ≤ reachBytes) = true := hsz
    simp only [DataW.weightsEach, List.all_append, Bool.and_eq_true] at hsz2
    have hlb := list_bytes1 (te := te) te_ok (ti := te_ti54) (e := 5) (ei := te_ti5) rfl rfl rfl hx2 h2 hsz2.2.2.1
    refine decide_eq_true ?_
    show b.length ≤ 140737488355328
    have e : b.length * te_ti5.bytes = b.length * 1 := rfl
    rw [e] at hlb
    unfold reachBytes at hlb
    omega
  refine (walk x [v0, v1, v2] W hx hp).mono fun e W' ⟨he, bel⟩ => ?_
  subst he
  exact ⟨_, rfl, _, _, _, [], _, [], hW', trodAll_mk1 (shut_bool Try.underlying4 _), args_again laidOut bel (by kernel_rfl) hA, rfl, bel.frame _, fun h => by cases h⟩

end CurveRoundLaw

/-- Encode and Decode are there and back. -/
theorem curveRound_holds : Rows.CurveRoundSaid :=
  OpenClaim.holds_of_wide 11 Try.f11 rfl rfl rfl rfl rfl rfl rfl ⟨rfl, rfl, rfl, rfl, rfl⟩ rfl rfl rfl rfl rfl (by kernel_rfl) Try.func11 (by kernel_rfl)
    (of_decide_eq_true (by kernel_rfl)) (by unfold Func.isWrapper; first | (rw [if_pos (by decide +kernel)]; kernel_rfl) | (rw [if_neg (by decide +kernel)]; exact ⟨rfl, rfl⟩))
    (fun os started H enc _ => CurveRoundLaw.lifted os started H enc)

end Go.Proofs.Ytkedomfjjahjnaa
