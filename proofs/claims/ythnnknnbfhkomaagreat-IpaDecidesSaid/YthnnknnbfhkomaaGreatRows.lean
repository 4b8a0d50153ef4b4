/-
  No cell of these rows narrows 'for every input' (looked for: loops, veiled, ifaces, maps, wideKeys, modest, calm, conditions, laid).
  DERIVED. THE GIVEN ROWS OF THIS SEAT. 6 by the template 'for every input the law returns true; each argument reads behind the call as it read before'; 0 by the template 'total and deterministic' (their statements: YthnnknnbfhkomaaGreatTotals.lean).
  GIVEN WITH THE SEED: the statements are not yours to turn. If you find one false, say at which input.
  Laid BY PROGRAM, IN A SANDBOX (cutbox-rows.mjs): the forced cells as the released guide's own fill.sh prints them over the translation edc9d201436790e2… (all of the seat's roots in one cut). By AI agents, Wed Nov 11 2026. No macro, syntax, notation, axiom, sorry.
-/
import Derived.Test.YthnnknnbfhkomaaGreatChecked
import GoSem.Claim
import GoSem.ClaimJoined
import GoSem.ClaimMapViews
import Derived.JoinedTies
import Derived.KernelRfl
namespace Go.Proofs.YthnnknnbfhkomaaGreat
/- THE CELL 'sum', in the pinned program and in every row, IS THE sha256 OF THE DUMP (.gsa) THAT YthnnknnbfhkomaaGreatProg.lean LOADS. Nothing in Lean hashes anything: it is a label: what it is worth is what the hold of that sum in a sandbox is worth. -/
noncomputable def Tryz.pinned : Pinned := { name := "ythnnknnbfhkomaagreat", sum := "edc9d201436790e2ea732276764ca47a729ed998ab83a8e83c1ed70cbfa7e0bd", checked := Tryz.checked }
namespace Rows
def none {H : Type} : Left H := { results := [], args := [] }

/-- 'sigillaw10.IpaOpens': WHATEVER THE INPUT: true; the input reads as it did. -/
def ipaOpensSpec : ChangeSpec := { name := "ipaOpens", fn := fun _ => fun
  | [d] => { results := [.lit (.bool true)], args := [d] }
  | _ => none }
def ipaOpensRow : OpenClaim := { program := "ythnnknnbfhkomaagreat", sum := "edc9d201436790e2ea732276764ca47a729ed998ab83a8e83c1ed70cbfa7e0bd", func := "sigil/sigillaw10.IpaOpens", spec := "ipaOpens", inPlace := ["math/bits.Sub64", "math/bits.Add64"], unfollowed := true, recurses := true, named := ["math/bits.divideError", "math/bits.overflowError"], apart := false }
def IpaOpensSaid : Prop := ipaOpensRow.holds Tryz.pinned (OpenSpec.ofChange ipaOpensSpec)

/-- ITS FALSE NEIGHBOUR: 'it returns false'. Refute it at one input. -/
def ipaOpensWrong : ChangeSpec := { name := "ipaOpens", fn := fun _ => fun
  | [d] => { results := [.lit (.bool false)], args := [d] }
  | _ => none }
def IpaOpensWrongFalsely : Prop := ipaOpensRow.holds Tryz.pinned (OpenSpec.ofChange ipaOpensWrong)

/-- 'sigillaw10.IpaVerifies': WHATEVER THE INPUT: true; the input reads as it did. -/
def ipaVerifiesSpec : ChangeSpec := { name := "ipaVerifies", fn := fun _ => fun
  | [d1, d2, d3, d4, d5, d6] => { results := [.lit (.bool true)], args := [d1, d2, d3, d4, d5, d6] }
  | _ => none }
def ipaVerifiesRow : OpenClaim := { program := "ythnnknnbfhkomaagreat", sum := "edc9d201436790e2ea732276764ca47a729ed998ab83a8e83c1ed70cbfa7e0bd", func := "sigil/sigillaw10.IpaVerifies", spec := "ipaVerifies", inPlace := ["math/bits.Sub64", "math/bits.Add64"], unfollowed := true, recurses := true, named := ["math/bits.divideError", "math/bits.overflowError"], apart := false }
def IpaVerifiesSaid : Prop := ipaVerifiesRow.holds Tryz.pinned (OpenSpec.ofChange ipaVerifiesSpec)

/-- ITS FALSE NEIGHBOUR: 'it returns false'. Refute it at one input. -/
def ipaVerifiesWrong : ChangeSpec := { name := "ipaVerifies", fn := fun _ => fun
  | [d1, d2, d3, d4, d5, d6] => { results := [.lit (.bool false)], args := [d1, d2, d3, d4, d5, d6] }
  | _ => none }
def IpaVerifiesWrongFalsely : Prop := ipaVerifiesRow.holds Tryz.pinned (OpenSpec.ofChange ipaVerifiesWrong)

/-- 'sigillaw10.IpaComplete': WHATEVER THE INPUT: true; the input reads as it did. -/
def ipaCompleteSpec : ChangeSpec := { name := "ipaComplete", fn := fun _ => fun
  | [d] => { results := [.lit (.bool true)], args := [d] }
  | _ => none }
def ipaCompleteRow : OpenClaim := { program := "ythnnknnbfhkomaagreat", sum := "edc9d201436790e2ea732276764ca47a729ed998ab83a8e83c1ed70cbfa7e0bd", func := "sigil/sigillaw10.IpaComplete", spec := "ipaComplete", inPlace := ["math/bits.Sub64", "math/bits.Add64"], unfollowed := true, recurses := true, named := ["math/bits.divideError", "math/bits.overflowError"], apart := false }
def IpaCompleteSaid : Prop := ipaCompleteRow.holds Tryz.pinned (OpenSpec.ofChange ipaCompleteSpec)

/-- ITS FALSE NEIGHBOUR: 'it returns false'. Refute it at one input. -/
def ipaCompleteWrong : ChangeSpec := { name := "ipaComplete", fn := fun _ => fun
  | [d] => { results := [.lit (.bool false)], args := [d] }
  | _ => none }
def IpaCompleteWrongFalsely : Prop := ipaCompleteRow.holds Tryz.pinned (OpenSpec.ofChange ipaCompleteWrong)

/-- 'sigillaw10.IpaValue': WHATEVER THE INPUT: true; the input reads as it did. -/
def ipaValueSpec : ChangeSpec := { name := "ipaValue", fn := fun _ => fun
  | [d1, d2] => { results := [.lit (.bool true)], args := [d1, d2] }
  | _ => none }
def ipaValueRow : OpenClaim := { program := "ythnnknnbfhkomaagreat", sum := "edc9d201436790e2ea732276764ca47a729ed998ab83a8e83c1ed70cbfa7e0bd", func := "sigil/sigillaw10.IpaValue", spec := "ipaValue", inPlace := ["math/bits.Sub64", "math/bits.Add64"], unfollowed := true, recurses := true, named := ["math/bits.divideError", "math/bits.overflowError"], apart := false }
def IpaValueSaid : Prop := ipaValueRow.holds Tryz.pinned (OpenSpec.ofChange ipaValueSpec)

/-- ITS FALSE NEIGHBOUR: 'it returns false'. Refute it at one input. -/
def ipaValueWrong : ChangeSpec := { name := "ipaValue", fn := fun _ => fun
  | [d1, d2] => { results := [.lit (.bool false)], args := [d1, d2] }
  | _ => none }
def IpaValueWrongFalsely : Prop := ipaValueRow.holds Tryz.pinned (OpenSpec.ofChange ipaValueWrong)

/-- 'sigillaw10.IpaShort': WHATEVER THE INPUT: true; the input reads as it did. -/
def ipaShortSpec : ChangeSpec := { name := "ipaShort", fn := fun _ => fun
  | [d1, d2] => { results := [.lit (.bool true)], args := [d1, d2] }
  | _ => none }
def ipaShortRow : OpenClaim := { program := "ythnnknnbfhkomaagreat", sum := "edc9d201436790e2ea732276764ca47a729ed998ab83a8e83c1ed70cbfa7e0bd", func := "sigil/sigillaw10.IpaShort", spec := "ipaShort", inPlace := ["math/bits.Sub64", "math/bits.Add64"], unfollowed := true, recurses := true, named := ["math/bits.divideError", "math/bits.overflowError"], apart := false }
def IpaShortSaid : Prop := ipaShortRow.holds Tryz.pinned (OpenSpec.ofChange ipaShortSpec)

/-- ITS FALSE NEIGHBOUR: 'it returns false'. Refute it at one input. -/
def ipaShortWrong : ChangeSpec := { name := "ipaShort", fn := fun _ => fun
  | [d1, d2] => { results := [.lit (.bool false)], args := [d1, d2] }
  | _ => none }
def IpaShortWrongFalsely : Prop := ipaShortRow.holds Tryz.pinned (OpenSpec.ofChange ipaShortWrong)

/-- 'sigillaw10.IpaDecides': WHATEVER THE INPUT: true; the input reads as it did. -/
def ipaDecidesSpec : ChangeSpec := { name := "ipaDecides", fn := fun _ => fun
  | [d1, d2, d3] => { results := [.lit (.bool true)], args := [d1, d2, d3] }
  | _ => none }
def ipaDecidesRow : OpenClaim := { program := "ythnnknnbfhkomaagreat", sum := "edc9d201436790e2ea732276764ca47a729ed998ab83a8e83c1ed70cbfa7e0bd", func := "sigil/sigillaw10.IpaDecides", spec := "ipaDecides", inPlace := ["math/bits.Sub64", "math/bits.Add64"], unfollowed := true, recurses := true, named := ["math/bits.divideError", "math/bits.overflowError"], apart := false }
def IpaDecidesSaid : Prop := ipaDecidesRow.holds Tryz.pinned (OpenSpec.ofChange ipaDecidesSpec)

/-- ITS FALSE NEIGHBOUR: 'it returns false'. Refute it at one input. -/
def ipaDecidesWrong : ChangeSpec := { name := "ipaDecides", fn := fun _ => fun
  | [d1, d2, d3] => { results := [.lit (.bool false)], args := [d1, d2, d3] }
  | _ => none }
def IpaDecidesWrongFalsely : Prop := ipaDecidesRow.holds Tryz.pinned (OpenSpec.ofChange ipaDecidesWrong)

/- THE SECOND FORM. 'bulk': how many values and letters a reading holds, each counted each time it is reached (what is shared counts as often as it is met; a slice's spare places count too). A statement '..UptoSaid' is the law's where the arguments, and the package variables that the reading takes, are together of bulk at most 1048576: NARROWER than '..Said'. Prove '..Said' where nothing that the law and all that it calls make is longer than what came in: it says more and counts as full. Else prove '..UptoSaid'. A law counts once. -/
mutual
def uptoBulk {H : Type} : DataW H → Nat
  | .lit (.string bytes) => bytes.length + 1
  | .lit _ => 1
  | .nil => 1
  | .ptr d => uptoBulk d + 1
  | .slice elems spare => uptoBulkAll elems + uptoBulkAll spare + 1
  | .agg parts => uptoBulkAll parts + 1
  | .iface _ d => uptoBulk d + 1
  | .map entries => uptoBulkEntries entries + 1
  | .held _ => 1
def uptoBulkAll {H : Type} : List (DataW H) → Nat
  | [] => 0
  | d :: r => uptoBulk d + uptoBulkAll r
def uptoBulkEntries {H : Type} : List (Lit × DataW H) → Nat
  | [] => 0
  | x :: r => uptoBulkEntry x + uptoBulkEntries r
def uptoBulkEntry {H : Type} : Lit × DataW H → Nat
  | (.string bytes, d) => bytes.length + uptoBulk d + 1
  | (_, d) => uptoBulk d + 1
 end
def uptoSmall : (H : Type) → List (DataW H) → Bool := fun _ ds => decide (uptoBulkAll ds ≤ 1048576)
def OpenSpec.upto (s : _root_.Go.ChangeSpec) : _root_.Go.OpenSpec := { _root_.Go.OpenSpec.ofChange s with cond := some uptoSmall }

/-- 'sigillaw10.IpaOpens', WHERE WHAT IT READS IS OF BULK AT MOST 1048576: true; the input reads as it did. -/
def ipaOpensUptoRow : OpenClaim := { program := "ythnnknnbfhkomaagreat", sum := "edc9d201436790e2ea732276764ca47a729ed998ab83a8e83c1ed70cbfa7e0bd", func := "sigil/sigillaw10.IpaOpens", spec := "ipaOpens", inPlace := ["math/bits.Sub64", "math/bits.Add64"], unfollowed := true, recurses := true, named := ["math/bits.divideError", "math/bits.overflowError"], apart := false, narrowed := true }
def IpaOpensUptoSaid : Prop := ipaOpensUptoRow.holds Tryz.pinned (OpenSpec.upto ipaOpensSpec)

/-- 'sigillaw10.IpaVerifies', WHERE WHAT IT READS IS OF BULK AT MOST 1048576: true; the input reads as it did. -/
def ipaVerifiesUptoRow : OpenClaim := { program := "ythnnknnbfhkomaagreat", sum := "edc9d201436790e2ea732276764ca47a729ed998ab83a8e83c1ed70cbfa7e0bd", func := "sigil/sigillaw10.IpaVerifies", spec := "ipaVerifies", inPlace := ["math/bits.Sub64", "math/bits.Add64"], unfollowed := true, recurses := true, named := ["math/bits.divideError", "math/bits.overflowError"], apart := false, narrowed := true }
def IpaVerifiesUptoSaid : Prop := ipaVerifiesUptoRow.holds Tryz.pinned (OpenSpec.upto ipaVerifiesSpec)

/-- 'sigillaw10.IpaComplete', WHERE WHAT IT READS IS OF BULK AT MOST 1048576: true; the input reads as it did. -/
def ipaCompleteUptoRow : OpenClaim := { program := "ythnnknnbfhkomaagreat", sum := "edc9d201436790e2ea732276764ca47a729ed998ab83a8e83c1ed70cbfa7e0bd", func := "sigil/sigillaw10.IpaComplete", spec := "ipaComplete", inPlace := ["math/bits.Sub64", "math/bits.Add64"], unfollowed := true, recurses := true, named := ["math/bits.divideError", "math/bits.overflowError"], apart := false, narrowed := true }
def IpaCompleteUptoSaid : Prop := ipaCompleteUptoRow.holds Tryz.pinned (OpenSpec.upto ipaCompleteSpec)

/-- 'sigillaw10.IpaValue', WHERE WHAT IT READS IS OF BULK AT MOST 1048576: true; the input reads as it did. -/
def ipaValueUptoRow : OpenClaim := { program := "ythnnknnbfhkomaagreat", sum := "edc9d201436790e2ea732276764ca47a729ed998ab83a8e83c1ed70cbfa7e0bd", func := "sigil/sigillaw10.IpaValue", spec := "ipaValue", inPlace := ["math/bits.Sub64", "math/bits.Add64"], unfollowed := true, recurses := true, named := ["math/bits.divideError", "math/bits.overflowError"], apart := false, narrowed := true }
def IpaValueUptoSaid : Prop := ipaValueUptoRow.holds Tryz.pinned (OpenSpec.upto ipaValueSpec)

/-- 'sigillaw10.IpaShort', WHERE WHAT IT READS IS OF BULK AT MOST 1048576: true; the input reads as it did. -/
def ipaShortUptoRow : OpenClaim := { program := "ythnnknnbfhkomaagreat", sum := "edc9d201436790e2ea732276764ca47a729ed998ab83a8e83c1ed70cbfa7e0bd", func := "sigil/sigillaw10.IpaShort", spec := "ipaShort", inPlace := ["math/bits.Sub64", "math/bits.Add64"], unfollowed := true, recurses := true, named := ["math/bits.divideError", "math/bits.overflowError"], apart := false, narrowed := true }
def IpaShortUptoSaid : Prop := ipaShortUptoRow.holds Tryz.pinned (OpenSpec.upto ipaShortSpec)

/-- 'sigillaw10.IpaDecides', WHERE WHAT IT READS IS OF BULK AT MOST 1048576: true; the input reads as it did. -/
def ipaDecidesUptoRow : OpenClaim := { program := "ythnnknnbfhkomaagreat", sum := "edc9d201436790e2ea732276764ca47a729ed998ab83a8e83c1ed70cbfa7e0bd", func := "sigil/sigillaw10.IpaDecides", spec := "ipaDecides", inPlace := ["math/bits.Sub64", "math/bits.Add64"], unfollowed := true, recurses := true, named := ["math/bits.divideError", "math/bits.overflowError"], apart := false, narrowed := true }
def IpaDecidesUptoSaid : Prop := ipaDecidesUptoRow.holds Tryz.pinned (OpenSpec.upto ipaDecidesSpec)

end Rows
end Go.Proofs.YthnnknnbfhkomaaGreat
