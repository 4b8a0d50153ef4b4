/- Every Write, and every answer of every script of what is said. The given statement, by the function's proof. -/
import Derived.Test.YtohjofabochgfaaRows
import Derived.WalkKit
import Derived.ProofKit
import Derived.OpenShut
import Derived.ChangeOld
import Derived.Below
import Derived.SizedLaws
import Derived.Test.YtohjofabochgfaaXf
set_option linter.unusedSimpArgs false
set_option linter.unusedVariables false
set_option linter.unusedSectionVars false

namespace Go.Proofs.Ytohjofabochgfaa
namespace TapeWritesLaw
open Go Go.Proofs.Ytohjofabochgfaa Go.Proofs.Ytohjofabochgfaa.Sx
open Go.ChangeShapes Go.WideShapes Go.ChangeAt Go.RowKit

theorem own : ownKnob Try.prog.godebug = none := by kernel_rfl
theorem laidOut : laidOutB Try.prog = true := by kernel_rfl

abbrev kinds : List (Bool × Ty) := [(false, .int), (true, .prod .int (.list .elem)), (false, .list (.prod .int (.prod .elem (.prod .elem (.prod .elem .bool)))))]

theorem prj (x : ATy kinds) : dP.inp.prj ⟨amx kinds x, ahl⟩ = some (x, ()) := by kernel_rfl

theorem walk (x : ATy kinds) (vs : List Value) (w : World) (hr : SV.bA (e9 w) (amx kinds x) vs) (hp : ka (x, ()) = true) :
    Calls Try.prog 4 vs.toArray w fun e w' => e = .returned (.bool true) ∧ Below w.heap.size w w' :=
  ahF Mz ⟨_, Try.func4, by kernel_rfl, by kernel_rfl⟩ hr (alD (prj x) (show ka (x, ()) = true from hp) (show _ = some (Out.ret ⟨.bool true, []⟩) by kernel_rfl))

set_option maxRecDepth 100000 in
theorem lifted (os : Os) (started : os.Started) (H : Type) (enc : TypeId × Value → H) :
    ReturnsInHanded {} Try.checked os 4 .any (Rows.tapeWritesSpec.pre6 enc Try.prog Try.f4 Rows.tapeWritesRow.domain false) (Rows.tapeWritesSpec.post enc Try.prog Try.f4 false true false false) := by
  refine returnsInHanded_of_change_sized (C := Try.checked) own started (by kernel_rfl) Try.func4
    (ChangeSpec.witness6 (enc := enc) (C := Try.checked) false ⟨#[], #[.int .i64 0, .agg #[.int .i64 0, .slice none 0 0], .slice none 0 0], []⟩ 8 (by kernel_rfl) (by kernel_rfl) (by kernel_rfl) (by kernel_rfl)) ?_
  intro W base args ds gs before hval0 hW hcnd hsz0 _
  have hsz : (DataW.weightsEach Try.prog (Try.f4.params.toList ++ Rows.tapeWritesSpec.plain.varTypes Try.prog) (ds ++ gs)).all (· ≤ reachBytes) = true := hsz0
  clear hsz0
  have hval : ∀ (j : Nat) t v, Try.f4.params[j]? = some t → args[j]? = some v → Value.okWide Try.prog W .any base t v := hval0
  have hW' := hW
  obtain ⟨p, q, hA0, hV, rfl, hfz, hnd⟩ := hW
  have hA : DataW.TrodAll enc Try.prog W 0 (fun _ => true) true Try.f4.params.toList args.toList ds p := hA0
  rw [Try.params4] at hA hval hsz
  obtain ⟨rfl, rfl⟩ := trodVars_none hV
  obtain ⟨v0, vs0, d0, ds0, p0, q0, hargs, rfl, rfl, h0, r0⟩ := trodAll_cons hA
  obtain ⟨v1, vs1, d1, ds1, p1, q1, rfl, rfl, rfl, h1, r1⟩ := trodAll_cons r0
  obtain ⟨v2, vs2, d2, ds2, p2, q2, rfl, rfl, rfl, h2, r2⟩ := trodAll_cons r1
  obtain ⟨rfl, rfl, rfl⟩ := trodAll_nil r2
  obtain rfl : args = #[v0, v1, v2] := by cases args; simp_all
  obtain ⟨x, hx⟩ : ∃ x : ATy kinds, SV.bA (e9 W) (amx kinds x) [v0, v1, v2] := Qg (te := te) ak (k := 12) (base := base) (by kernel_rfl) (fun j t v a b => hval j t v (by simpa using a) (by simpa using b)) hA hsz
  clear hA0 hval0
  have hp : ka (x, ()) = true := by
    obtain ⟨c, ⟨m, tp⟩, l, ⟨⟩⟩ := x
    simp only [amx, SV.bA] at hx
    obtain ⟨_, _, e0, _, _, _, e1, hx1, _⟩ := hx
    cases e0
    cases e1
    have hx1 : SV.rel (e9 W) (.agg [.int m, .lst .elem tp]) v1 := hx1
    simp only [SV.rel, SV.bA] at hx1
    obtain ⟨cs, rfl, ⟨u0, _, ea, _, u1, _, eb, hr, ec⟩, _⟩ := hx1
    subst ec
    subst eb
    subst ea
    have hr1 : Rep (e9 W).F (.list .elem) tp [u1] := hr
    have hr' := hr1
    simp only [Rep] at hr1
    obtain ⟨_, ad, cap, hv, _⟩ := hr1
    cases hv
    have hsz2 : (DataW.weightsEach Try.prog (_ :: _ :: _) (d0 :: d1 :: _)).all (· ≤ reachBytes) = true := hsz
    simp only [DataW.weightsEach, List.all_append, Bool.and_eq_true] at hsz2
    obtain ⟨d, p, k1, k2⟩ := aqK (T := 32) (T1 := 22) (by kernel_rfl) rfl rfl h1 (fun n hn => by simpa using List.all_eq_true.1 hsz2.2.1 n hn)
    have hlb := TT (te := te) ak (T := 22) (e := 25) (ti := TL) (ei := Lb) rfl rfl rfl k1 k2
    have b1 : Lb.bytes = 32 := rfl
    rw [b1] at hlb
    unfold reachBytes at hlb
    exact decide_eq_true (show tp.length * 32 ≤ 140737488355328 by omega)
  refine (walk x [v0, v1, v2] W hx hp).mono fun e W' ⟨he, bel⟩ => ?_
  subst he
  exact ⟨_, rfl, _, _, _, [], _, [], hW', trodAll_mk1 (shut_bool Try.underlying4 _), KG laidOut bel (by kernel_rfl) hA, rfl, bel.frame _, fun h => by cases h⟩

end TapeWritesLaw

/-- Every Write, and every answer of every script of what is said. -/
theorem tapeWrites_holds : Rows.TapeWritesSaid :=
  OpenClaim.holds_of_wide 4 Try.f4 rfl rfl rfl rfl rfl rfl rfl ⟨rfl, rfl, rfl, rfl, rfl⟩ rfl rfl rfl rfl rfl (by kernel_rfl) Try.func4 (by kernel_rfl)
    (of_decide_eq_true (by kernel_rfl)) (by unfold Func.isWrapper; first | (rw [if_pos (by decide +kernel)]; kernel_rfl) | (rw [if_neg (by decide +kernel)]; exact ⟨rfl, rfl⟩))
    (fun os started H enc _ => TapeWritesLaw.lifted os started H enc)

end Go.Proofs.Ytohjofabochgfaa
