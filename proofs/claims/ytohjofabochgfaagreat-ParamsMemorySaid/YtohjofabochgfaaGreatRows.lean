/-
  No cell of these rows narrows 'for every input' (looked for: loops, veiled, ifaces, maps, wideKeys, modest, calm, conditions, laid).
  DERIVED. THE GIVEN ROWS OF THIS SEAT. 8 by the template 'for every input the law returns true; each argument reads behind the call as it read before'; 0 by the template 'total and deterministic' (their statements: YtohjofabochgfaaGreatTotals.lean).
  GIVEN WITH THE SEED: the statements are not yours to turn. If you find one false, say at which input.
  Laid BY PROGRAM, IN A SANDBOX (cutbox-rows.mjs): the forced cells as the released guide's own fill.sh prints them over the translation 3b92b56f5aedc5e7… (all of the seat's roots in one cut). By AI agents, Wed Nov 11 2026. No macro, syntax, notation, axiom, sorry.
-/
import Derived.Test.YtohjofabochgfaaGreatChecked
import GoSem.Claim
import GoSem.ClaimJoined
import GoSem.ClaimMapViews
import Derived.JoinedTies
import Derived.KernelRfl
namespace Go.Proofs.YtohjofabochgfaaGreat
/- THE CELL 'sum', in the pinned program and in every row, IS THE sha256 OF THE DUMP (.gsa) THAT YtohjofabochgfaaGreatProg.lean LOADS. Nothing in Lean hashes anything: it is a label: what it is worth is what the hold of that sum in a sandbox is worth. -/
noncomputable def Tryz.pinned : Pinned := { name := "ytohjofabochgfaagreat", sum := "3b92b56f5aedc5e7629959903b54c79ad8c534d82f2b4a0244f3656b9c45f5a6", checked := Tryz.checked }
namespace Rows
def none {H : Type} : Left H := { results := [], args := [] }

/-- 'sigillaw08.TapeReads': WHATEVER THE INPUT: true; the input reads as it did. -/
def tapeReadsSpec : ChangeSpec := { name := "tapeReads", fn := fun _ => fun
  | [d1, d2, d3, d4] => { results := [.lit (.bool true)], args := [d1, d2, d3, d4] }
  | _ => none }
def tapeReadsRow : OpenClaim := { program := "ytohjofabochgfaagreat", sum := "3b92b56f5aedc5e7629959903b54c79ad8c534d82f2b4a0244f3656b9c45f5a6", func := "sigil/sigillaw08.TapeReads", spec := "tapeReads", inPlace := ["math/bits.Sub64", "math/bits.Add64"], unfollowed := true, recurses := true, named := ["math/bits.divideError", "math/bits.overflowError"], apart := false }
def TapeReadsSaid : Prop := tapeReadsRow.holds Tryz.pinned (OpenSpec.ofChange tapeReadsSpec)

/-- ITS FALSE NEIGHBOUR: 'it returns false'. Refute it at one input. -/
def tapeReadsWrong : ChangeSpec := { name := "tapeReads", fn := fun _ => fun
  | [d1, d2, d3, d4] => { results := [.lit (.bool false)], args := [d1, d2, d3, d4] }
  | _ => none }
def TapeReadsWrongFalsely : Prop := tapeReadsRow.holds Tryz.pinned (OpenSpec.ofChange tapeReadsWrong)

/-- 'sigillaw09.ParamsDerives': WHATEVER THE INPUT: true; the input reads as it did. -/
def paramsDerivesSpec : ChangeSpec := { name := "paramsDerives", fn := fun _ => fun
  | [d1, d2, d3] => { results := [.lit (.bool true)], args := [d1, d2, d3] }
  | _ => none }
def paramsDerivesRow : OpenClaim := { program := "ytohjofabochgfaagreat", sum := "3b92b56f5aedc5e7629959903b54c79ad8c534d82f2b4a0244f3656b9c45f5a6", func := "sigil/sigillaw09.ParamsDerives", spec := "paramsDerives", inPlace := ["math/bits.Sub64", "math/bits.Add64"], unfollowed := true, recurses := true, named := ["math/bits.divideError", "math/bits.overflowError"], apart := false }
def ParamsDerivesSaid : Prop := paramsDerivesRow.holds Tryz.pinned (OpenSpec.ofChange paramsDerivesSpec)

/-- ITS FALSE NEIGHBOUR: 'it returns false'. Refute it at one input. -/
def paramsDerivesWrong : ChangeSpec := { name := "paramsDerives", fn := fun _ => fun
  | [d1, d2, d3] => { results := [.lit (.bool false)], args := [d1, d2, d3] }
  | _ => none }
def ParamsDerivesWrongFalsely : Prop := paramsDerivesRow.holds Tryz.pinned (OpenSpec.ofChange paramsDerivesWrong)

/-- 'sigillaw09.ParamsSetups': WHATEVER THE INPUT: true; the input reads as it did. -/
def paramsSetupsSpec : ChangeSpec := { name := "paramsSetups", fn := fun _ => fun
  | [d1, d2, d3] => { results := [.lit (.bool true)], args := [d1, d2, d3] }
  | _ => none }
def paramsSetupsRow : OpenClaim := { program := "ytohjofabochgfaagreat", sum := "3b92b56f5aedc5e7629959903b54c79ad8c534d82f2b4a0244f3656b9c45f5a6", func := "sigil/sigillaw09.ParamsSetups", spec := "paramsSetups", inPlace := ["math/bits.Sub64", "math/bits.Add64"], unfollowed := true, recurses := true, named := ["math/bits.divideError", "math/bits.overflowError"], apart := false }
def ParamsSetupsSaid : Prop := paramsSetupsRow.holds Tryz.pinned (OpenSpec.ofChange paramsSetupsSpec)

/-- ITS FALSE NEIGHBOUR: 'it returns false'. Refute it at one input. -/
def paramsSetupsWrong : ChangeSpec := { name := "paramsSetups", fn := fun _ => fun
  | [d1, d2, d3] => { results := [.lit (.bool false)], args := [d1, d2, d3] }
  | _ => none }
def ParamsSetupsWrongFalsely : Prop := paramsSetupsRow.holds Tryz.pinned (OpenSpec.ofChange paramsSetupsWrong)

/-- 'sigillaw09.ParamsChecks': WHATEVER THE INPUT: true; the input reads as it did. -/
def paramsChecksSpec : ChangeSpec := { name := "paramsChecks", fn := fun _ => fun
  | [d] => { results := [.lit (.bool true)], args := [d] }
  | _ => none }
def paramsChecksRow : OpenClaim := { program := "ytohjofabochgfaagreat", sum := "3b92b56f5aedc5e7629959903b54c79ad8c534d82f2b4a0244f3656b9c45f5a6", func := "sigil/sigillaw09.ParamsChecks", spec := "paramsChecks", inPlace := ["math/bits.Sub64", "math/bits.Add64"], unfollowed := true, recurses := true, named := ["math/bits.divideError", "math/bits.overflowError"], apart := false }
def ParamsChecksSaid : Prop := paramsChecksRow.holds Tryz.pinned (OpenSpec.ofChange paramsChecksSpec)

/-- ITS FALSE NEIGHBOUR: 'it returns false'. Refute it at one input. -/
def paramsChecksWrong : ChangeSpec := { name := "paramsChecks", fn := fun _ => fun
  | [d] => { results := [.lit (.bool false)], args := [d] }
  | _ => none }
def ParamsChecksWrongFalsely : Prop := paramsChecksRow.holds Tryz.pinned (OpenSpec.ofChange paramsChecksWrong)

/-- 'sigillaw09.ParamsCommits': WHATEVER THE INPUT: true; the input reads as it did. -/
def paramsCommitsSpec : ChangeSpec := { name := "paramsCommits", fn := fun _ => fun
  | [d1, d2, d3] => { results := [.lit (.bool true)], args := [d1, d2, d3] }
  | _ => none }
def paramsCommitsRow : OpenClaim := { program := "ytohjofabochgfaagreat", sum := "3b92b56f5aedc5e7629959903b54c79ad8c534d82f2b4a0244f3656b9c45f5a6", func := "sigil/sigillaw09.ParamsCommits", spec := "paramsCommits", inPlace := ["math/bits.Sub64", "math/bits.Add64"], unfollowed := true, recurses := true, named := ["math/bits.divideError", "math/bits.overflowError"], apart := false }
def ParamsCommitsSaid : Prop := paramsCommitsRow.holds Tryz.pinned (OpenSpec.ofChange paramsCommitsSpec)

/-- ITS FALSE NEIGHBOUR: 'it returns false'. Refute it at one input. -/
def paramsCommitsWrong : ChangeSpec := { name := "paramsCommits", fn := fun _ => fun
  | [d1, d2, d3] => { results := [.lit (.bool false)], args := [d1, d2, d3] }
  | _ => none }
def ParamsCommitsWrongFalsely : Prop := paramsCommitsRow.holds Tryz.pinned (OpenSpec.ofChange paramsCommitsWrong)

/-- 'sigillaw09.ParamsLinear': WHATEVER THE INPUT: true; the input reads as it did. -/
def paramsLinearSpec : ChangeSpec := { name := "paramsLinear", fn := fun _ => fun
  | [d1, d2, d3, d4, d5, d6] => { results := [.lit (.bool true)], args := [d1, d2, d3, d4, d5, d6] }
  | _ => none }
def paramsLinearRow : OpenClaim := { program := "ytohjofabochgfaagreat", sum := "3b92b56f5aedc5e7629959903b54c79ad8c534d82f2b4a0244f3656b9c45f5a6", func := "sigil/sigillaw09.ParamsLinear", spec := "paramsLinear", inPlace := ["math/bits.Sub64", "math/bits.Add64"], unfollowed := true, recurses := true, named := ["math/bits.divideError", "math/bits.overflowError"], apart := false }
def ParamsLinearSaid : Prop := paramsLinearRow.holds Tryz.pinned (OpenSpec.ofChange paramsLinearSpec)

/-- ITS FALSE NEIGHBOUR: 'it returns false'. Refute it at one input. -/
def paramsLinearWrong : ChangeSpec := { name := "paramsLinear", fn := fun _ => fun
  | [d1, d2, d3, d4, d5, d6] => { results := [.lit (.bool false)], args := [d1, d2, d3, d4, d5, d6] }
  | _ => none }
def ParamsLinearWrongFalsely : Prop := paramsLinearRow.holds Tryz.pinned (OpenSpec.ofChange paramsLinearWrong)

/-- 'sigillaw09.ParamsApart': WHATEVER THE INPUT: true; the input reads as it did. -/
def paramsApartSpec : ChangeSpec := { name := "paramsApart", fn := fun _ => fun
  | [d1, d2, d3] => { results := [.lit (.bool true)], args := [d1, d2, d3] }
  | _ => none }
def paramsApartRow : OpenClaim := { program := "ytohjofabochgfaagreat", sum := "3b92b56f5aedc5e7629959903b54c79ad8c534d82f2b4a0244f3656b9c45f5a6", func := "sigil/sigillaw09.ParamsApart", spec := "paramsApart", inPlace := ["math/bits.Sub64", "math/bits.Add64"], unfollowed := true, recurses := true, named := ["math/bits.divideError", "math/bits.overflowError"], apart := false }
def ParamsApartSaid : Prop := paramsApartRow.holds Tryz.pinned (OpenSpec.ofChange paramsApartSpec)

/-- ITS FALSE NEIGHBOUR: 'it returns false'. Refute it at one input. -/
def paramsApartWrong : ChangeSpec := { name := "paramsApart", fn := fun _ => fun
  | [d1, d2, d3] => { results := [.lit (.bool false)], args := [d1, d2, d3] }
  | _ => none }
def ParamsApartWrongFalsely : Prop := paramsApartRow.holds Tryz.pinned (OpenSpec.ofChange paramsApartWrong)

/-- 'sigillaw09.ParamsMemory': WHATEVER THE INPUT: true; the input reads as it did. -/
def paramsMemorySpec : ChangeSpec := { name := "paramsMemory", fn := fun _ => fun
  | [d1, d2, d3] => { results := [.lit (.bool true)], args := [d1, d2, d3] }
  | _ => none }
def paramsMemoryRow : OpenClaim := { program := "ytohjofabochgfaagreat", sum := "3b92b56f5aedc5e7629959903b54c79ad8c534d82f2b4a0244f3656b9c45f5a6", func := "sigil/sigillaw09.ParamsMemory", spec := "paramsMemory", inPlace := ["math/bits.Sub64", "math/bits.Add64"], unfollowed := true, recurses := true, named := ["math/bits.divideError", "math/bits.overflowError"], apart := false }
def ParamsMemorySaid : Prop := paramsMemoryRow.holds Tryz.pinned (OpenSpec.ofChange paramsMemorySpec)

/-- ITS FALSE NEIGHBOUR: 'it returns false'. Refute it at one input. -/
def paramsMemoryWrong : ChangeSpec := { name := "paramsMemory", fn := fun _ => fun
  | [d1, d2, d3] => { results := [.lit (.bool false)], args := [d1, d2, d3] }
  | _ => none }
def ParamsMemoryWrongFalsely : Prop := paramsMemoryRow.holds Tryz.pinned (OpenSpec.ofChange paramsMemoryWrong)

/- THE SECOND FORM. 'bulk': how many values and letters a reading holds, each counted each time it is reached (what is shared counts as often as it is met; a slice's spare places count too). A statement '..UptoSaid' is the law's where the arguments, and the package variables that the reading takes, are together of bulk at most 1048576: NARROWER than '..Said'. Prove '..Said' where nothing that the law and all that it calls make is longer than what came in: it says more and counts as full. Else prove '..UptoSaid'. A law counts once. -/
mutual
def uptoBulk {H : Type} : DataW H → Nat
  | .lit (.string bytes) => bytes.length + 1
  | .lit _ => 1
  | .nil => 1
  | .ptr d => uptoBulk d + 1
  | .slice elems spare => uptoBulkAll elems + uptoBulkAll spare + 1
  | .agg parts => uptoBulkAll parts + 1
  | .iface _ d => uptoBulk d + 1
  | .map entries => uptoBulkEntries entries + 1
  | .held _ => 1
def uptoBulkAll {H : Type} : List (DataW H) → Nat
  | [] => 0
  | d :: r => uptoBulk d + uptoBulkAll r
def uptoBulkEntries {H : Type} : List (Lit × DataW H) → Nat
  | [] => 0
  | x :: r => uptoBulkEntry x + uptoBulkEntries r
def uptoBulkEntry {H : Type} : Lit × DataW H → Nat
  | (.string bytes, d) => bytes.length + uptoBulk d + 1
  | (_, d) => uptoBulk d + 1
 end
def uptoSmall : (H : Type) → List (DataW H) → Bool := fun _ ds => decide (uptoBulkAll ds ≤ 1048576)
def OpenSpec.upto (s : _root_.Go.ChangeSpec) : _root_.Go.OpenSpec := { _root_.Go.OpenSpec.ofChange s with cond := some uptoSmall }

/-- 'sigillaw08.TapeReads', WHERE WHAT IT READS IS OF BULK AT MOST 1048576: true; the input reads as it did. -/
def tapeReadsUptoRow : OpenClaim := { program := "ytohjofabochgfaagreat", sum := "3b92b56f5aedc5e7629959903b54c79ad8c534d82f2b4a0244f3656b9c45f5a6", func := "sigil/sigillaw08.TapeReads", spec := "tapeReads", inPlace := ["math/bits.Sub64", "math/bits.Add64"], unfollowed := true, recurses := true, named := ["math/bits.divideError", "math/bits.overflowError"], apart := false, narrowed := true }
def TapeReadsUptoSaid : Prop := tapeReadsUptoRow.holds Tryz.pinned (OpenSpec.upto tapeReadsSpec)

/-- 'sigillaw09.ParamsDerives', WHERE WHAT IT READS IS OF BULK AT MOST 1048576: true; the input reads as it did. -/
def paramsDerivesUptoRow : OpenClaim := { program := "ytohjofabochgfaagreat", sum := "3b92b56f5aedc5e7629959903b54c79ad8c534d82f2b4a0244f3656b9c45f5a6", func := "sigil/sigillaw09.ParamsDerives", spec := "paramsDerives", inPlace := ["math/bits.Sub64", "math/bits.Add64"], unfollowed := true, recurses := true, named := ["math/bits.divideError", "math/bits.overflowError"], apart := false, narrowed := true }
def ParamsDerivesUptoSaid : Prop := paramsDerivesUptoRow.holds Tryz.pinned (OpenSpec.upto paramsDerivesSpec)

/-- 'sigillaw09.ParamsSetups', WHERE WHAT IT READS IS OF BULK AT MOST 1048576: true; the input reads as it did. -/
def paramsSetupsUptoRow : OpenClaim := { program := "ytohjofabochgfaagreat", sum := "3b92b56f5aedc5e7629959903b54c79ad8c534d82f2b4a0244f3656b9c45f5a6", func := "sigil/sigillaw09.ParamsSetups", spec := "paramsSetups", inPlace := ["math/bits.Sub64", "math/bits.Add64"], unfollowed := true, recurses := true, named := ["math/bits.divideError", "math/bits.overflowError"], apart := false, narrowed := true }
def ParamsSetupsUptoSaid : Prop := paramsSetupsUptoRow.holds Tryz.pinned (OpenSpec.upto paramsSetupsSpec)

/-- 'sigillaw09.ParamsChecks', WHERE WHAT IT READS IS OF BULK AT MOST 1048576: true; the input reads as it did. -/
def paramsChecksUptoRow : OpenClaim := { program := "ytohjofabochgfaagreat", sum := "3b92b56f5aedc5e7629959903b54c79ad8c534d82f2b4a0244f3656b9c45f5a6", func := "sigil/sigillaw09.ParamsChecks", spec := "paramsChecks", inPlace := ["math/bits.Sub64", "math/bits.Add64"], unfollowed := true, recurses := true, named := ["math/bits.divideError", "math/bits.overflowError"], apart := false, narrowed := true }
def ParamsChecksUptoSaid : Prop := paramsChecksUptoRow.holds Tryz.pinned (OpenSpec.upto paramsChecksSpec)

/-- 'sigillaw09.ParamsCommits', WHERE WHAT IT READS IS OF BULK AT MOST 1048576: true; the input reads as it did. -/
def paramsCommitsUptoRow : OpenClaim := { program := "ytohjofabochgfaagreat", sum := "3b92b56f5aedc5e7629959903b54c79ad8c534d82f2b4a0244f3656b9c45f5a6", func := "sigil/sigillaw09.ParamsCommits", spec := "paramsCommits", inPlace := ["math/bits.Sub64", "math/bits.Add64"], unfollowed := true, recurses := true, named := ["math/bits.divideError", "math/bits.overflowError"], apart := false, narrowed := true }
def ParamsCommitsUptoSaid : Prop := paramsCommitsUptoRow.holds Tryz.pinned (OpenSpec.upto paramsCommitsSpec)

/-- 'sigillaw09.ParamsLinear', WHERE WHAT IT READS IS OF BULK AT MOST 1048576: true; the input reads as it did. -/
def paramsLinearUptoRow : OpenClaim := { program := "ytohjofabochgfaagreat", sum := "3b92b56f5aedc5e7629959903b54c79ad8c534d82f2b4a0244f3656b9c45f5a6", func := "sigil/sigillaw09.ParamsLinear", spec := "paramsLinear", inPlace := ["math/bits.Sub64", "math/bits.Add64"], unfollowed := true, recurses := true, named := ["math/bits.divideError", "math/bits.overflowError"], apart := false, narrowed := true }
def ParamsLinearUptoSaid : Prop := paramsLinearUptoRow.holds Tryz.pinned (OpenSpec.upto paramsLinearSpec)

/-- 'sigillaw09.ParamsApart', WHERE WHAT IT READS IS OF BULK AT MOST 1048576: true; the input reads as it did. -/
def paramsApartUptoRow : OpenClaim := { program := "ytohjofabochgfaagreat", sum := "3b92b56f5aedc5e7629959903b54c79ad8c534d82f2b4a0244f3656b9c45f5a6", func := "sigil/sigillaw09.ParamsApart", spec := "paramsApart", inPlace := ["math/bits.Sub64", "math/bits.Add64"], unfollowed := true, recurses := true, named := ["math/bits.divideError", "math/bits.overflowError"], apart := false, narrowed := true }
def ParamsApartUptoSaid : Prop := paramsApartUptoRow.holds Tryz.pinned (OpenSpec.upto paramsApartSpec)

/-- 'sigillaw09.ParamsMemory', WHERE WHAT IT READS IS OF BULK AT MOST 1048576: true; the input reads as it did. -/
def paramsMemoryUptoRow : OpenClaim := { program := "ytohjofabochgfaagreat", sum := "3b92b56f5aedc5e7629959903b54c79ad8c534d82f2b4a0244f3656b9c45f5a6", func := "sigil/sigillaw09.ParamsMemory", spec := "paramsMemory", inPlace := ["math/bits.Sub64", "math/bits.Add64"], unfollowed := true, recurses := true, named := ["math/bits.divideError", "math/bits.overflowError"], apart := false, narrowed := true }
def ParamsMemoryUptoSaid : Prop := paramsMemoryUptoRow.holds Tryz.pinned (OpenSpec.upto paramsMemorySpec)

end Rows
end Go.Proofs.YtohjofabochgfaaGreat
