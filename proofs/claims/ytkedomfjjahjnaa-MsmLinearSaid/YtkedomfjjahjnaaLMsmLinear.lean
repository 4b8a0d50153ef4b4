/- Sums of joined terms are the sums' sum, and a scaled sum is the sum so often. The given statement, by the function's proof. -/
import Derived.Test.YtkedomfjjahjnaaRows
import Derived.WalkKit
import Derived.ProofKit
import Derived.OpenShut
import Derived.ChangeOld
import Derived.Below
import Derived.SizedLaws
import Derived.Test.YtkedomfjjahjnaaXf
set_option linter.unusedSimpArgs false
set_option linter.unusedVariables false
set_option linter.unusedSectionVars false

namespace Go.Proofs.Ytkedomfjjahjnaa
namespace MsmLinearLaw
open Go Go.Proofs.Ytkedomfjjahjnaa Go.Proofs.Ytkedomfjjahjnaa.Sx
open Go.ChangeShapes Go.WideShapes Go.ChangeAt Go.RowKit

theorem own : ownKnob Try.prog.godebug = none := by kernel_rfl
theorem laidOut : laidOutB Try.prog = true := by kernel_rfl

abbrev kinds : List (Bool × Ty) := [(false, .int), (false, .list (.prod .elem (.prod .elem (.prod .elem .bool)))), (false, .list (.prod .elem (.prod .elem (.prod .elem .bool)))), (true, .elem)]

theorem prj (x : ATy kinds) : dA.inp.prj ⟨aeL kinds x, ael⟩ = some (x, ()) := by kernel_rfl

theorem walk (x : ATy kinds) (vs : List Value) (w : World) (hr : SV.bK (eO w) (aeL kinds x) vs) (hp : jE (x, ()) = true) :
    Calls Try.prog 9 vs.toArray w fun e w' => e = .returned (.bool true) ∧ Below w.heap.size w w' :=
  aaC Hh ⟨_, Try.func9, by kernel_rfl, by kernel_rfl⟩ hr (ady (prj x) (show jE (x, ()) = true from hp) (show _ = some (Out.ret ⟨.bool true, []⟩) by kernel_rfl))

set_option maxRecDepth 100000 in
theorem lifted (os : Os) (started : os.Started) (H : Type) (enc : TypeId × Value → H) :
    ReturnsInHanded {} Try.checked os 9 .any (Rows.msmLinearSpec.pre6 enc Try.prog Try.f9 Rows.msmLinearRow.domain false) (Rows.msmLinearSpec.post enc Try.prog Try.f9 false true false false) := by
  refine returnsInHanded_of_change_sized (C := Try.checked) own started (by kernel_rfl) Try.func9
    (ChangeSpec.witness6 (enc := enc) (C := Try.checked) false ⟨#[], #[.int .i64 0, .slice none 0 0, .slice none 0 0, .agg #[.int .u64 0, .int .u64 0, .int .u64 0, .int .u64 0]], []⟩ 8 (by kernel_rfl) (by kernel_rfl) (by kernel_rfl) (by kernel_rfl)) ?_
  intro W base args ds gs before hval0 hW hcnd hsz0 _
  have hsz : (DataW.weightsEach Try.prog (Try.f9.params.toList ++ Rows.msmLinearSpec.plain.varTypes Try.prog) (ds ++ gs)).all (· ≤ reachBytes) = true := hsz0
  clear hsz0
  have hval : ∀ (j : Nat) t v, Try.f9.params[j]? = some t → args[j]? = some v → Value.okWide Try.prog W .any base t v := hval0
  have hW' := hW
  obtain ⟨p, q, hA0, hV, rfl, hfz, hnd⟩ := hW
  have hA : DataW.TrodAll enc Try.prog W 0 (fun _ => true) true Try.f9.params.toList args.toList ds p := hA0
  rw [Try.params9] at hA hval hsz
  obtain ⟨rfl, rfl⟩ := trodVars_none hV
  obtain ⟨v0, vs0, d0, ds0, p0, q0, hargs, rfl, rfl, h0, r0⟩ := trodAll_cons hA
  obtain ⟨v1, vs1, d1, ds1, p1, q1, rfl, rfl, rfl, h1, r1⟩ := trodAll_cons r0
  obtain ⟨v2, vs2, d2, ds2, p2, q2, rfl, rfl, rfl, h2, r2⟩ := trodAll_cons r1
  obtain ⟨v3, vs3, d3, ds3, p3, q3, rfl, rfl, rfl, h3, r3⟩ := trodAll_cons r2
  obtain ⟨rfl, rfl, rfl⟩ := trodAll_nil r3
  obtain rfl : args = #[v0, v1, v2, v3] := by cases args; simp_all
  obtain ⟨x, hx⟩ : ∃ x : ATy kinds, SV.bK (eO W) (aeL kinds x) [v0, v1, v2, v3] := Kb (te := te) au (k := 12) (base := base) (by kernel_rfl) (fun j t v a b => hval j t v (by simpa using a) (by simpa using b)) hA hsz
  clear hA0 hval0
  have hp : jE (x, ()) = true := by
    obtain ⟨c, l, m, k, ⟨⟩⟩ := x
    simp only [aeL, SV.bK] at hx
    obtain ⟨_, _, e0, _, _, _, e1, hx1, _, _, e2, hx2, _⟩ := hx
    cases e0
    cases e1
    cases e2
    have hx1 : Rep (eO W).F (.list iW) l [v1] := hx1
    have hx2 : Rep (eO W).F (.list iW) m [v2] := hx2
    have hsz2 : (DataW.weightsEach Try.prog (_ :: _ :: _ :: _ :: _) (d0 :: d1 :: d2 :: d3 :: _)).all (· ≤ reachBytes) = true := hsz
    simp only [DataW.weightsEach, List.all_append, Bool.and_eq_true] at hsz2
    have hl1 := Bh (te := te) au (ti := F3) (e := 32) (ei := zK) rfl rfl rfl hx1 h1 hsz2.2.1
    have hl2 := Bh (te := te) au (ti := F3) (e := 32) (ei := zK) rfl rfl rfl hx2 h2 hsz2.2.2.1
    have b1 : zK.bytes = 104 := rfl
    rw [b1] at hl1 hl2
    unfold reachBytes at hl1 hl2
    refine decide_eq_true (show l.length ≤ 140737488355328 ∧ m.length ≤ 140737488355328 from ⟨by omega, by omega⟩)
  refine (walk x [v0, v1, v2, v3] W hx hp).mono fun e W' ⟨he, bel⟩ => ?_
  subst he
  exact ⟨_, rfl, _, _, _, [], _, [], hW', trodAll_mk1 (shut_bool Try.underlying4 _), FG laidOut bel (by kernel_rfl) hA, rfl, bel.frame _, fun h => by cases h⟩

end MsmLinearLaw

/-- Sums of joined terms are the sums' sum, and a scaled sum is the sum so often. -/
theorem msmLinear_holds : Rows.MsmLinearSaid :=
  OpenClaim.holds_of_wide 9 Try.f9 rfl rfl rfl rfl rfl rfl rfl ⟨rfl, rfl, rfl, rfl, rfl⟩ rfl rfl rfl rfl rfl (by kernel_rfl) Try.func9 (by kernel_rfl)
    (of_decide_eq_true (by kernel_rfl)) (by unfold Func.isWrapper; first | (rw [if_pos (by decide +kernel)]; kernel_rfl) | (rw [if_neg (by decide +kernel)]; exact ⟨rfl, rfl⟩))
    (fun os started H enc _ => MsmLinearLaw.lifted os started H enc)

end Go.Proofs.Ytkedomfjjahjnaa
