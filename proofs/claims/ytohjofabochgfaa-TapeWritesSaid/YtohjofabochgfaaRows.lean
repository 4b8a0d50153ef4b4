/-
  No cell of these rows narrows 'for every input' (looked for: loops, veiled, ifaces, maps, wideKeys, modest, calm, conditions, laid).
  DERIVED. THE GIVEN ROWS OF THIS SEAT. 3 by the template 'for every input the law returns true; each argument reads behind the call as it read before'; 0 by the template 'total and deterministic' (their statements: YtohjofabochgfaaTotals.lean).
  GIVEN WITH THE SEED: the statements are not yours to turn. If you find one false, say at which input.
  Laid BY PROGRAM, IN A SANDBOX (cutbox-rows.mjs): the forced cells as the released guide's own fill.sh prints them over the translation 10e5ec230d9e71f9… (all of the seat's roots in one cut). By AI agents, Wed Nov 11 2026. No macro, syntax, notation, axiom, sorry.
-/
import Derived.Test.YtohjofabochgfaaChecked
import GoSem.Claim
import GoSem.ClaimJoined
import GoSem.ClaimMapViews
import Derived.JoinedTies
import Derived.KernelRfl
namespace Go.Proofs.Ytohjofabochgfaa
/- THE CELL 'sum', in the pinned program and in every row, IS THE sha256 OF THE DUMP (.gsa) THAT YtohjofabochgfaaProg.lean LOADS. Nothing in Lean hashes anything: it is a label: what it is worth is what the hold of that sum in a sandbox is worth. -/
noncomputable def Try.pinned : Pinned := { name := "ytohjofabochgfaa", sum := "10e5ec230d9e71f95ccbb2cef1f5c3c97922cd6fe2cd40166a95b25e58771720", checked := Try.checked }
namespace Rows
def none {H : Type} : Left H := { results := [], args := [] }

/-- 'sigillaw08.TapeBinds': WHATEVER THE INPUT: true; the input reads as it did. -/
def tapeBindsSpec : ChangeSpec := { name := "tapeBinds", fn := fun _ => fun
  | [d1, d2, d3, d4, d5] => { results := [.lit (.bool true)], args := [d1, d2, d3, d4, d5] }
  | _ => none }
def tapeBindsRow : OpenClaim := { program := "ytohjofabochgfaa", sum := "10e5ec230d9e71f95ccbb2cef1f5c3c97922cd6fe2cd40166a95b25e58771720", func := "sigil/sigillaw08.TapeBinds", spec := "tapeBinds", inPlace := ["math/bits.Sub64", "math/bits.Add64"], unfollowed := true, recurses := true, named := ["math/bits.divideError", "math/bits.overflowError"], apart := false }
def TapeBindsSaid : Prop := tapeBindsRow.holds Try.pinned (OpenSpec.ofChange tapeBindsSpec)

/-- ITS FALSE NEIGHBOUR: 'it returns false'. Refute it at one input. -/
def tapeBindsWrong : ChangeSpec := { name := "tapeBinds", fn := fun _ => fun
  | [d1, d2, d3, d4, d5] => { results := [.lit (.bool false)], args := [d1, d2, d3, d4, d5] }
  | _ => none }
def TapeBindsWrongFalsely : Prop := tapeBindsRow.holds Try.pinned (OpenSpec.ofChange tapeBindsWrong)

/-- 'sigillaw08.TapeWrites': WHATEVER THE INPUT: true; the input reads as it did. -/
def tapeWritesSpec : ChangeSpec := { name := "tapeWrites", fn := fun _ => fun
  | [d1, d2, d3] => { results := [.lit (.bool true)], args := [d1, d2, d3] }
  | _ => none }
def tapeWritesRow : OpenClaim := { program := "ytohjofabochgfaa", sum := "10e5ec230d9e71f95ccbb2cef1f5c3c97922cd6fe2cd40166a95b25e58771720", func := "sigil/sigillaw08.TapeWrites", spec := "tapeWrites", inPlace := ["math/bits.Sub64", "math/bits.Add64"], unfollowed := true, recurses := true, named := ["math/bits.divideError", "math/bits.overflowError"], apart := false }
def TapeWritesSaid : Prop := tapeWritesRow.holds Try.pinned (OpenSpec.ofChange tapeWritesSpec)

/-- ITS FALSE NEIGHBOUR: 'it returns false'. Refute it at one input. -/
def tapeWritesWrong : ChangeSpec := { name := "tapeWrites", fn := fun _ => fun
  | [d1, d2, d3] => { results := [.lit (.bool false)], args := [d1, d2, d3] }
  | _ => none }
def TapeWritesWrongFalsely : Prop := tapeWritesRow.holds Try.pinned (OpenSpec.ofChange tapeWritesWrong)

/-- 'sigillaw08.TapeTalks': WHATEVER THE INPUT: true; the input reads as it did. -/
def tapeTalksSpec : ChangeSpec := { name := "tapeTalks", fn := fun _ => fun
  | [d1, d2, d3, d4] => { results := [.lit (.bool true)], args := [d1, d2, d3, d4] }
  | _ => none }
def tapeTalksRow : OpenClaim := { program := "ytohjofabochgfaa", sum := "10e5ec230d9e71f95ccbb2cef1f5c3c97922cd6fe2cd40166a95b25e58771720", func := "sigil/sigillaw08.TapeTalks", spec := "tapeTalks", inPlace := ["math/bits.Sub64", "math/bits.Add64"], unfollowed := true, recurses := true, named := ["math/bits.divideError", "math/bits.overflowError"], apart := false }
def TapeTalksSaid : Prop := tapeTalksRow.holds Try.pinned (OpenSpec.ofChange tapeTalksSpec)

/-- ITS FALSE NEIGHBOUR: 'it returns false'. Refute it at one input. -/
def tapeTalksWrong : ChangeSpec := { name := "tapeTalks", fn := fun _ => fun
  | [d1, d2, d3, d4] => { results := [.lit (.bool false)], args := [d1, d2, d3, d4] }
  | _ => none }
def TapeTalksWrongFalsely : Prop := tapeTalksRow.holds Try.pinned (OpenSpec.ofChange tapeTalksWrong)

/- THE SECOND FORM. 'bulk': how many values and letters a reading holds, each counted each time it is reached (what is shared counts as often as it is met; a slice's spare places count too). A statement '..UptoSaid' is the law's where the arguments, and the package variables that the reading takes, are together of bulk at most 1048576: NARROWER than '..Said'. Prove '..Said' where nothing that the law and all that it calls make is longer than what came in: it says more and counts as full. Else prove '..UptoSaid'. A law counts once. -/
mutual
def uptoBulk {H : Type} : DataW H → Nat
  | .lit (.string bytes) => bytes.length + 1
  | .lit _ => 1
  | .nil => 1
  | .ptr d => uptoBulk d + 1
  | .slice elems spare => uptoBulkAll elems + uptoBulkAll spare + 1
  | .agg parts => uptoBulkAll parts + 1
  | .iface _ d => uptoBulk d + 1
  | .map entries => uptoBulkEntries entries + 1
  | .held _ => 1
def uptoBulkAll {H : Type} : List (DataW H) → Nat
  | [] => 0
  | d :: r => uptoBulk d + uptoBulkAll r
def uptoBulkEntries {H : Type} : List (Lit × DataW H) → Nat
  | [] => 0
  | x :: r => uptoBulkEntry x + uptoBulkEntries r
def uptoBulkEntry {H : Type} : Lit × DataW H → Nat
  | (.string bytes, d) => bytes.length + uptoBulk d + 1
  | (_, d) => uptoBulk d + 1
 end
def uptoSmall : (H : Type) → List (DataW H) → Bool := fun _ ds => decide (uptoBulkAll ds ≤ 1048576)
def OpenSpec.upto (s : _root_.Go.ChangeSpec) : _root_.Go.OpenSpec := { _root_.Go.OpenSpec.ofChange s with cond := some uptoSmall }

/-- 'sigillaw08.TapeBinds', WHERE WHAT IT READS IS OF BULK AT MOST 1048576: true; the input reads as it did. -/
def tapeBindsUptoRow : OpenClaim := { program := "ytohjofabochgfaa", sum := "10e5ec230d9e71f95ccbb2cef1f5c3c97922cd6fe2cd40166a95b25e58771720", func := "sigil/sigillaw08.TapeBinds", spec := "tapeBinds", inPlace := ["math/bits.Sub64", "math/bits.Add64"], unfollowed := true, recurses := true, named := ["math/bits.divideError", "math/bits.overflowError"], apart := false, narrowed := true }
def TapeBindsUptoSaid : Prop := tapeBindsUptoRow.holds Try.pinned (OpenSpec.upto tapeBindsSpec)

/-- 'sigillaw08.TapeWrites', WHERE WHAT IT READS IS OF BULK AT MOST 1048576: true; the input reads as it did. -/
def tapeWritesUptoRow : OpenClaim := { program := "ytohjofabochgfaa", sum := "10e5ec230d9e71f95ccbb2cef1f5c3c97922cd6fe2cd40166a95b25e58771720", func := "sigil/sigillaw08.TapeWrites", spec := "tapeWrites", inPlace := ["math/bits.Sub64", "math/bits.Add64"], unfollowed := true, recurses := true, named := ["math/bits.divideError", "math/bits.overflowError"], apart := false, narrowed := true }
def TapeWritesUptoSaid : Prop := tapeWritesUptoRow.holds Try.pinned (OpenSpec.upto tapeWritesSpec)

/-- 'sigillaw08.TapeTalks', WHERE WHAT IT READS IS OF BULK AT MOST 1048576: true; the input reads as it did. -/
def tapeTalksUptoRow : OpenClaim := { program := "ytohjofabochgfaa", sum := "10e5ec230d9e71f95ccbb2cef1f5c3c97922cd6fe2cd40166a95b25e58771720", func := "sigil/sigillaw08.TapeTalks", spec := "tapeTalks", inPlace := ["math/bits.Sub64", "math/bits.Add64"], unfollowed := true, recurses := true, named := ["math/bits.divideError", "math/bits.overflowError"], apart := false, narrowed := true }
def TapeTalksUptoSaid : Prop := tapeTalksUptoRow.holds Try.pinned (OpenSpec.upto tapeTalksSpec)

end Rows
end Go.Proofs.Ytohjofabochgfaa
