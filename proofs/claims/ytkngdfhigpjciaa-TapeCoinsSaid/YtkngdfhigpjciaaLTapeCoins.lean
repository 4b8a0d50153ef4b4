/- Coins are taken in their order, and the list is not kept. The given statement, by the function's proof. -/
import Derived.Test.YtkngdfhigpjciaaRows
import Derived.WalkKit
import Derived.ProofKit
import Derived.OpenShut
import Derived.ChangeOld
import Derived.Below
import Derived.SizedLaws
import Derived.Test.YtkngdfhigpjciaaXe
set_option linter.unusedSimpArgs false
set_option linter.unusedVariables false
set_option linter.unusedSectionVars false
namespace Go.Proofs.Ytkngdfhigpjciaa
namespace TapeCoinsLaw
open Go Go.Proofs.Ytkngdfhigpjciaa Go.Proofs.Ytkngdfhigpjciaa.Sx
open Go.ChangeShapes Go.WideShapes Go.ChangeAt Go.RowKit

theorem own : ownKnob Try.prog.godebug = none := by kernel_rfl
theorem laidOut : laidOutB Try.prog = true := by kernel_rfl

abbrev kinds : List (Bool × Ty) := [(false, .list .elem)]

theorem prj (x : ATy kinds) : lcoins_S.inp.prj ⟨injs kinds x, noHp⟩ = some (x, ()) := by kernel_rfl

theorem walk (x : ATy kinds) (vs : List Value) (w : World) (hr : SV.relL (startCtx w) (injs kinds x) vs) (hp : lcoins_pre (x, ()) = true) :
    Calls Try.prog 6 vs.toArray w fun e w' => e = .returned (.bool true) ∧ Below w.heap.size w w' :=
  law_calls lcoins_known ⟨_, Try.func6, by kernel_rfl, by kernel_rfl⟩ hr (summ_run (prj x) (show lcoins_pre (x, ()) = true from hp) (show _ = some (Out.ret ⟨.bool true, []⟩) by kernel_rfl))

set_option maxRecDepth 100000 in
theorem lifted (os : Os) (started : os.Started) (H : Type) (enc : TypeId × Value → H) :
    ReturnsInHanded {} Try.checked os 6 .any (Rows.tapeCoinsSpec.pre6 enc Try.prog Try.f6 Rows.tapeCoinsRow.domain false) (Rows.tapeCoinsSpec.post enc Try.prog Try.f6 false true false false) := by
  refine returnsInHanded_of_change_sized (C := Try.checked) own started (by kernel_rfl) Try.func6
    (ChangeSpec.witness6 (enc := enc) (C := Try.checked) false ⟨#[], #[.slice none 0 0], []⟩ 8 (by kernel_rfl) (by kernel_rfl) (by kernel_rfl) (by kernel_rfl)) ?_
  intro W base args ds gs before hval0 hW hcnd hsz0 _
  have hsz : (DataW.weightsEach Try.prog (Try.f6.params.toList ++ Rows.tapeCoinsSpec.plain.varTypes Try.prog) (ds ++ gs)).all (· ≤ reachBytes) = true := hsz0
  clear hsz0
  have hval : ∀ (j : Nat) t v, Try.f6.params[j]? = some t → args[j]? = some v → Value.okWide Try.prog W .any base t v := hval0
  have hW' := hW
  obtain ⟨p, q, hA0, hV, rfl, hfz, hnd⟩ := hW
  have hA : DataW.TrodAll enc Try.prog W 0 (fun _ => true) true Try.f6.params.toList args.toList ds p := hA0
  rw [Try.params6] at hA hval hsz
  obtain ⟨rfl, rfl⟩ := trodVars_none hV
  obtain ⟨v0, vs0, d0, ds0, p0, q0, hargs, rfl, rfl, h0, r0⟩ := trodAll_cons hA
  obtain ⟨rfl, rfl, rfl⟩ := trodAll_nil r0
  obtain rfl : args = #[v0] := by cases args; simp_all
  obtain ⟨x, hx⟩ : ∃ x : ATy kinds, SV.relL (startCtx W) (injs kinds x) [v0] := open_args (te := te) te_ok (k := 12) (base := base) (by kernel_rfl) (fun j t v a b => hval j t v (by simpa using a) (by simpa using b)) hA hsz
  clear hA0 hval0
  have hp : lcoins_pre (x, ()) = true := by
    obtain ⟨l, ⟨⟩⟩ := x
    simp only [injs, SV.relL] at hx
    obtain ⟨v', _, he, hx1, _⟩ := hx
    cases he
    have hx2 : Rep (startCtx W).F (.list .elem) l [v0] := hx1
    have hlb := list_bytes (te := te) te_ok (ti := te_ti38) (e := 44) (ei := te_ti44) rfl rfl rfl hx2 h0 hsz
    refine decide_eq_true ?_
    show l.length * 32 ≤ 140737488355328
    have e : l.length * te_ti44.bytes = l.length * 32 := rfl
    rw [e] at hlb
    unfold reachBytes at hlb
    omega
  refine (walk x [v0] W hx hp).mono fun e W' ⟨he, bel⟩ => ?_
  subst he
  exact ⟨_, rfl, _, _, _, [], _, [], hW', trodAll_mk1 (shut_bool Try.underlying4 _), args_again laidOut bel (by kernel_rfl) hA, rfl, bel.frame _, fun h => by cases h⟩

end TapeCoinsLaw

/-- Coins are taken in their order, and the list is not kept. -/
theorem tapeCoins_holds : Rows.TapeCoinsSaid :=
  OpenClaim.holds_of_wide 6 Try.f6 rfl rfl rfl rfl rfl rfl rfl ⟨rfl, rfl, rfl, rfl, rfl⟩ rfl rfl rfl rfl rfl (by kernel_rfl) Try.func6 (by kernel_rfl)
    (of_decide_eq_true (by kernel_rfl)) (by unfold Func.isWrapper; first | (rw [if_pos (by decide +kernel)]; kernel_rfl) | (rw [if_neg (by decide +kernel)]; exact ⟨rfl, rfl⟩))
    (fun os started H enc _ => TapeCoinsLaw.lifted os started H enc)

end Go.Proofs.Ytkngdfhigpjciaa
