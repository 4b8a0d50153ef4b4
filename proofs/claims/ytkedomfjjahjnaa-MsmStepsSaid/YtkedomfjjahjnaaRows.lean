/-
  No cell of these rows narrows 'for every input' (looked for: loops, veiled, ifaces, maps, wideKeys, modest, calm, conditions, laid).
  DERIVED. THE GIVEN ROWS OF THIS SEAT. 11 by the template 'for every input the law returns true; each argument reads behind the call as it read before'; 0 by the template 'total and deterministic' (their statements: YtkedomfjjahjnaaTotals.lean).
  GIVEN WITH THE SEED: the statements are not yours to turn. If you find one false, say at which input.
  Laid BY PROGRAM, IN A SANDBOX (cutbox-rows.mjs): the forced cells as the released guide's own fill.sh prints them over the translation af4d3df606236e52… (all of the seat's roots in one cut). By AI agents, Wed Nov 11 2026. No macro, syntax, notation, axiom, sorry.
-/
import Derived.Test.YtkedomfjjahjnaaChecked
import GoSem.Claim
import GoSem.ClaimJoined
import GoSem.ClaimMapViews
import Derived.JoinedTies
import Derived.KernelRfl
namespace Go.Proofs.Ytkedomfjjahjnaa
/- THE CELL 'sum', in the pinned program and in every row, IS THE sha256 OF THE DUMP (.gsa) THAT YtkedomfjjahjnaaProg.lean LOADS. Nothing in Lean hashes anything: it is a label: what it is worth is what the hold of that sum in a sandbox is worth. -/
noncomputable def Try.pinned : Pinned := { name := "ytkedomfjjahjnaa", sum := "af4d3df606236e52170b82b8accba1097cd78adc273fa7515e85f11f1add58d7", checked := Try.checked }
namespace Rows
def none {H : Type} : Left H := { results := [], args := [] }

/-- 'sigillaw04.CurveProducts': WHATEVER THE INPUT: true; the input reads as it did. -/
def curveProductsSpec : ChangeSpec := { name := "curveProducts", fn := fun _ => fun
  | [d1, d2, d3] => { results := [.lit (.bool true)], args := [d1, d2, d3] }
  | _ => none }
def curveProductsRow : OpenClaim := { program := "ytkedomfjjahjnaa", sum := "af4d3df606236e52170b82b8accba1097cd78adc273fa7515e85f11f1add58d7", func := "sigil/sigillaw04.CurveProducts", spec := "curveProducts", inPlace := ["math/bits.Sub64", "math/bits.Add64"], named := ["math/bits.divideError", "math/bits.overflowError"], apart := false }
def CurveProductsSaid : Prop := curveProductsRow.holds Try.pinned (OpenSpec.ofChange curveProductsSpec)

/-- ITS FALSE NEIGHBOUR: 'it returns false'. Refute it at one input. -/
def curveProductsWrong : ChangeSpec := { name := "curveProducts", fn := fun _ => fun
  | [d1, d2, d3] => { results := [.lit (.bool false)], args := [d1, d2, d3] }
  | _ => none }
def CurveProductsWrongFalsely : Prop := curveProductsRow.holds Try.pinned (OpenSpec.ofChange curveProductsWrong)

/-- 'sigillaw05.MsmOrder': WHATEVER THE INPUT: true; the input reads as it did. -/
def msmOrderSpec : ChangeSpec := { name := "msmOrder", fn := fun _ => fun
  | [d1, d2] => { results := [.lit (.bool true)], args := [d1, d2] }
  | _ => none }
def msmOrderRow : OpenClaim := { program := "ytkedomfjjahjnaa", sum := "af4d3df606236e52170b82b8accba1097cd78adc273fa7515e85f11f1add58d7", func := "sigil/sigillaw05.MsmOrder", spec := "msmOrder", inPlace := ["math/bits.Sub64", "math/bits.Add64"], unfollowed := true, recurses := true, named := ["math/bits.divideError", "math/bits.overflowError"], apart := false }
def MsmOrderSaid : Prop := msmOrderRow.holds Try.pinned (OpenSpec.ofChange msmOrderSpec)

/-- ITS FALSE NEIGHBOUR: 'it returns false'. Refute it at one input. -/
def msmOrderWrong : ChangeSpec := { name := "msmOrder", fn := fun _ => fun
  | [d1, d2] => { results := [.lit (.bool false)], args := [d1, d2] }
  | _ => none }
def MsmOrderWrongFalsely : Prop := msmOrderRow.holds Try.pinned (OpenSpec.ofChange msmOrderWrong)

/-- 'sigillaw04.CurveSums': WHATEVER THE INPUT: true; the input reads as it did. -/
def curveSumsSpec : ChangeSpec := { name := "curveSums", fn := fun _ => fun
  | [d1, d2, d3] => { results := [.lit (.bool true)], args := [d1, d2, d3] }
  | _ => none }
def curveSumsRow : OpenClaim := { program := "ytkedomfjjahjnaa", sum := "af4d3df606236e52170b82b8accba1097cd78adc273fa7515e85f11f1add58d7", func := "sigil/sigillaw04.CurveSums", spec := "curveSums", inPlace := ["math/bits.Sub64", "math/bits.Add64"], named := ["math/bits.divideError", "math/bits.overflowError"], apart := false }
def CurveSumsSaid : Prop := curveSumsRow.holds Try.pinned (OpenSpec.ofChange curveSumsSpec)

/-- ITS FALSE NEIGHBOUR: 'it returns false'. Refute it at one input. -/
def curveSumsWrong : ChangeSpec := { name := "curveSums", fn := fun _ => fun
  | [d1, d2, d3] => { results := [.lit (.bool false)], args := [d1, d2, d3] }
  | _ => none }
def CurveSumsWrongFalsely : Prop := curveSumsRow.holds Try.pinned (OpenSpec.ofChange curveSumsWrong)

/-- 'sigillaw04.CurveGroup': WHATEVER THE INPUT: true; the input reads as it did. -/
def curveGroupSpec : ChangeSpec := { name := "curveGroup", fn := fun _ => fun
  | [d1, d2, d3, d4] => { results := [.lit (.bool true)], args := [d1, d2, d3, d4] }
  | _ => none }
def curveGroupRow : OpenClaim := { program := "ytkedomfjjahjnaa", sum := "af4d3df606236e52170b82b8accba1097cd78adc273fa7515e85f11f1add58d7", func := "sigil/sigillaw04.CurveGroup", spec := "curveGroup", inPlace := ["math/bits.Sub64", "math/bits.Add64"], named := ["math/bits.divideError", "math/bits.overflowError"], apart := false }
def CurveGroupSaid : Prop := curveGroupRow.holds Try.pinned (OpenSpec.ofChange curveGroupSpec)

/-- ITS FALSE NEIGHBOUR: 'it returns false'. Refute it at one input. -/
def curveGroupWrong : ChangeSpec := { name := "curveGroup", fn := fun _ => fun
  | [d1, d2, d3, d4] => { results := [.lit (.bool false)], args := [d1, d2, d3, d4] }
  | _ => none }
def CurveGroupWrongFalsely : Prop := curveGroupRow.holds Try.pinned (OpenSpec.ofChange curveGroupWrong)

/-- 'sigillaw04.CurveCounts': WHATEVER THE INPUT: true; the input reads as it did. -/
def curveCountsSpec : ChangeSpec := { name := "curveCounts", fn := fun _ => fun
  | [d1, d2, d3, d4] => { results := [.lit (.bool true)], args := [d1, d2, d3, d4] }
  | _ => none }
def curveCountsRow : OpenClaim := { program := "ytkedomfjjahjnaa", sum := "af4d3df606236e52170b82b8accba1097cd78adc273fa7515e85f11f1add58d7", func := "sigil/sigillaw04.CurveCounts", spec := "curveCounts", inPlace := ["math/bits.Sub64", "math/bits.Add64"], named := ["math/bits.divideError", "math/bits.overflowError"], apart := false }
def CurveCountsSaid : Prop := curveCountsRow.holds Try.pinned (OpenSpec.ofChange curveCountsSpec)

/-- ITS FALSE NEIGHBOUR: 'it returns false'. Refute it at one input. -/
def curveCountsWrong : ChangeSpec := { name := "curveCounts", fn := fun _ => fun
  | [d1, d2, d3, d4] => { results := [.lit (.bool false)], args := [d1, d2, d3, d4] }
  | _ => none }
def CurveCountsWrongFalsely : Prop := curveCountsRow.holds Try.pinned (OpenSpec.ofChange curveCountsWrong)

/-- 'sigillaw05.MsmMemory': WHATEVER THE INPUT: true; the input reads as it did. -/
def msmMemorySpec : ChangeSpec := { name := "msmMemory", fn := fun _ => fun
  | [d1, d2] => { results := [.lit (.bool true)], args := [d1, d2] }
  | _ => none }
def msmMemoryRow : OpenClaim := { program := "ytkedomfjjahjnaa", sum := "af4d3df606236e52170b82b8accba1097cd78adc273fa7515e85f11f1add58d7", func := "sigil/sigillaw05.MsmMemory", spec := "msmMemory", inPlace := ["math/bits.Sub64", "math/bits.Add64"], unfollowed := true, recurses := true, named := ["math/bits.divideError", "math/bits.overflowError"], apart := false }
def MsmMemorySaid : Prop := msmMemoryRow.holds Try.pinned (OpenSpec.ofChange msmMemorySpec)

/-- ITS FALSE NEIGHBOUR: 'it returns false'. Refute it at one input. -/
def msmMemoryWrong : ChangeSpec := { name := "msmMemory", fn := fun _ => fun
  | [d1, d2] => { results := [.lit (.bool false)], args := [d1, d2] }
  | _ => none }
def MsmMemoryWrongFalsely : Prop := msmMemoryRow.holds Try.pinned (OpenSpec.ofChange msmMemoryWrong)

/-- 'sigillaw05.MsmLinear': WHATEVER THE INPUT: true; the input reads as it did. -/
def msmLinearSpec : ChangeSpec := { name := "msmLinear", fn := fun _ => fun
  | [d1, d2, d3, d4] => { results := [.lit (.bool true)], args := [d1, d2, d3, d4] }
  | _ => none }
def msmLinearRow : OpenClaim := { program := "ytkedomfjjahjnaa", sum := "af4d3df606236e52170b82b8accba1097cd78adc273fa7515e85f11f1add58d7", func := "sigil/sigillaw05.MsmLinear", spec := "msmLinear", inPlace := ["math/bits.Sub64", "math/bits.Add64"], unfollowed := true, recurses := true, named := ["math/bits.divideError", "math/bits.overflowError"], apart := false }
def MsmLinearSaid : Prop := msmLinearRow.holds Try.pinned (OpenSpec.ofChange msmLinearSpec)

/-- ITS FALSE NEIGHBOUR: 'it returns false'. Refute it at one input. -/
def msmLinearWrong : ChangeSpec := { name := "msmLinear", fn := fun _ => fun
  | [d1, d2, d3, d4] => { results := [.lit (.bool false)], args := [d1, d2, d3, d4] }
  | _ => none }
def MsmLinearWrongFalsely : Prop := msmLinearRow.holds Try.pinned (OpenSpec.ofChange msmLinearWrong)

/-- 'sigillaw04.CurveCodecs': WHATEVER THE INPUT: true; the input reads as it did. -/
def curveCodecsSpec : ChangeSpec := { name := "curveCodecs", fn := fun _ => fun
  | [d1, d2, d3] => { results := [.lit (.bool true)], args := [d1, d2, d3] }
  | _ => none }
def curveCodecsRow : OpenClaim := { program := "ytkedomfjjahjnaa", sum := "af4d3df606236e52170b82b8accba1097cd78adc273fa7515e85f11f1add58d7", func := "sigil/sigillaw04.CurveCodecs", spec := "curveCodecs", inPlace := ["math/bits.Sub64", "math/bits.Add64"], named := ["math/bits.divideError", "math/bits.overflowError"], apart := false }
def CurveCodecsSaid : Prop := curveCodecsRow.holds Try.pinned (OpenSpec.ofChange curveCodecsSpec)

/-- ITS FALSE NEIGHBOUR: 'it returns false'. Refute it at one input. -/
def curveCodecsWrong : ChangeSpec := { name := "curveCodecs", fn := fun _ => fun
  | [d1, d2, d3] => { results := [.lit (.bool false)], args := [d1, d2, d3] }
  | _ => none }
def CurveCodecsWrongFalsely : Prop := curveCodecsRow.holds Try.pinned (OpenSpec.ofChange curveCodecsWrong)

/-- 'sigillaw04.CurveRound': WHATEVER THE INPUT: true; the input reads as it did. -/
def curveRoundSpec : ChangeSpec := { name := "curveRound", fn := fun _ => fun
  | [d1, d2, d3] => { results := [.lit (.bool true)], args := [d1, d2, d3] }
  | _ => none }
def curveRoundRow : OpenClaim := { program := "ytkedomfjjahjnaa", sum := "af4d3df606236e52170b82b8accba1097cd78adc273fa7515e85f11f1add58d7", func := "sigil/sigillaw04.CurveRound", spec := "curveRound", inPlace := ["math/bits.Sub64", "math/bits.Add64"], named := ["math/bits.divideError", "math/bits.overflowError"], apart := false }
def CurveRoundSaid : Prop := curveRoundRow.holds Try.pinned (OpenSpec.ofChange curveRoundSpec)

/-- ITS FALSE NEIGHBOUR: 'it returns false'. Refute it at one input. -/
def curveRoundWrong : ChangeSpec := { name := "curveRound", fn := fun _ => fun
  | [d1, d2, d3] => { results := [.lit (.bool false)], args := [d1, d2, d3] }
  | _ => none }
def CurveRoundWrongFalsely : Prop := curveRoundRow.holds Try.pinned (OpenSpec.ofChange curveRoundWrong)

/-- 'sigillaw05.MsmOther': WHATEVER THE INPUT: true; the input reads as it did. -/
def msmOtherSpec : ChangeSpec := { name := "msmOther", fn := fun _ => fun
  | [d1, d2, d3, d4] => { results := [.lit (.bool true)], args := [d1, d2, d3, d4] }
  | _ => none }
def msmOtherRow : OpenClaim := { program := "ytkedomfjjahjnaa", sum := "af4d3df606236e52170b82b8accba1097cd78adc273fa7515e85f11f1add58d7", func := "sigil/sigillaw05.MsmOther", spec := "msmOther", inPlace := ["math/bits.Sub64", "math/bits.Add64"], unfollowed := true, recurses := true, named := ["math/bits.divideError", "math/bits.overflowError"], apart := false }
def MsmOtherSaid : Prop := msmOtherRow.holds Try.pinned (OpenSpec.ofChange msmOtherSpec)

/-- ITS FALSE NEIGHBOUR: 'it returns false'. Refute it at one input. -/
def msmOtherWrong : ChangeSpec := { name := "msmOther", fn := fun _ => fun
  | [d1, d2, d3, d4] => { results := [.lit (.bool false)], args := [d1, d2, d3, d4] }
  | _ => none }
def MsmOtherWrongFalsely : Prop := msmOtherRow.holds Try.pinned (OpenSpec.ofChange msmOtherWrong)

/-- 'sigillaw05.MsmSteps': WHATEVER THE INPUT: true; the input reads as it did. -/
def msmStepsSpec : ChangeSpec := { name := "msmSteps", fn := fun _ => fun
  | [d1, d2] => { results := [.lit (.bool true)], args := [d1, d2] }
  | _ => none }
def msmStepsRow : OpenClaim := { program := "ytkedomfjjahjnaa", sum := "af4d3df606236e52170b82b8accba1097cd78adc273fa7515e85f11f1add58d7", func := "sigil/sigillaw05.MsmSteps", spec := "msmSteps", inPlace := ["math/bits.Sub64", "math/bits.Add64"], unfollowed := true, recurses := true, named := ["math/bits.divideError", "math/bits.overflowError"], apart := false }
def MsmStepsSaid : Prop := msmStepsRow.holds Try.pinned (OpenSpec.ofChange msmStepsSpec)

/-- ITS FALSE NEIGHBOUR: 'it returns false'. Refute it at one input. -/
def msmStepsWrong : ChangeSpec := { name := "msmSteps", fn := fun _ => fun
  | [d1, d2] => { results := [.lit (.bool false)], args := [d1, d2] }
  | _ => none }
def MsmStepsWrongFalsely : Prop := msmStepsRow.holds Try.pinned (OpenSpec.ofChange msmStepsWrong)

/- THE SECOND FORM. 'bulk': how many values and letters a reading holds, each counted each time it is reached (what is shared counts as often as it is met; a slice's spare places count too). A statement '..UptoSaid' is the law's where the arguments, and the package variables that the reading takes, are together of bulk at most 1048576: NARROWER than '..Said'. Prove '..Said' where nothing that the law and all that it calls make is longer than what came in: it says more and counts as full. Else prove '..UptoSaid'. A law counts once. -/
mutual
def uptoBulk {H : Type} : DataW H → Nat
  | .lit (.string bytes) => bytes.length + 1
  | .lit _ => 1
  | .nil => 1
  | .ptr d => uptoBulk d + 1
  | .slice elems spare => uptoBulkAll elems + uptoBulkAll spare + 1
  | .agg parts => uptoBulkAll parts + 1
  | .iface _ d => uptoBulk d + 1
  | .map entries => uptoBulkEntries entries + 1
  | .held _ => 1
def uptoBulkAll {H : Type} : List (DataW H) → Nat
  | [] => 0
  | d :: r => uptoBulk d + uptoBulkAll r
def uptoBulkEntries {H : Type} : List (Lit × DataW H) → Nat
  | [] => 0
  | x :: r => uptoBulkEntry x + uptoBulkEntries r
def uptoBulkEntry {H : Type} : Lit × DataW H → Nat
  | (.string bytes, d) => bytes.length + uptoBulk d + 1
  | (_, d) => uptoBulk d + 1
 end
def uptoSmall : (H : Type) → List (DataW H) → Bool := fun _ ds => decide (uptoBulkAll ds ≤ 1048576)
def OpenSpec.upto (s : _root_.Go.ChangeSpec) : _root_.Go.OpenSpec := { _root_.Go.OpenSpec.ofChange s with cond := some uptoSmall }

/-- 'sigillaw04.CurveProducts', WHERE WHAT IT READS IS OF BULK AT MOST 1048576: true; the input reads as it did. -/
def curveProductsUptoRow : OpenClaim := { program := "ytkedomfjjahjnaa", sum := "af4d3df606236e52170b82b8accba1097cd78adc273fa7515e85f11f1add58d7", func := "sigil/sigillaw04.CurveProducts", spec := "curveProducts", inPlace := ["math/bits.Sub64", "math/bits.Add64"], named := ["math/bits.divideError", "math/bits.overflowError"], apart := false, narrowed := true }
def CurveProductsUptoSaid : Prop := curveProductsUptoRow.holds Try.pinned (OpenSpec.upto curveProductsSpec)

/-- 'sigillaw05.MsmOrder', WHERE WHAT IT READS IS OF BULK AT MOST 1048576: true; the input reads as it did. -/
def msmOrderUptoRow : OpenClaim := { program := "ytkedomfjjahjnaa", sum := "af4d3df606236e52170b82b8accba1097cd78adc273fa7515e85f11f1add58d7", func := "sigil/sigillaw05.MsmOrder", spec := "msmOrder", inPlace := ["math/bits.Sub64", "math/bits.Add64"], unfollowed := true, recurses := true, named := ["math/bits.divideError", "math/bits.overflowError"], apart := false, narrowed := true }
def MsmOrderUptoSaid : Prop := msmOrderUptoRow.holds Try.pinned (OpenSpec.upto msmOrderSpec)

/-- 'sigillaw04.CurveSums', WHERE WHAT IT READS IS OF BULK AT MOST 1048576: true; the input reads as it did. -/
def curveSumsUptoRow : OpenClaim := { program := "ytkedomfjjahjnaa", sum := "af4d3df606236e52170b82b8accba1097cd78adc273fa7515e85f11f1add58d7", func := "sigil/sigillaw04.CurveSums", spec := "curveSums", inPlace := ["math/bits.Sub64", "math/bits.Add64"], named := ["math/bits.divideError", "math/bits.overflowError"], apart := false, narrowed := true }
def CurveSumsUptoSaid : Prop := curveSumsUptoRow.holds Try.pinned (OpenSpec.upto curveSumsSpec)

/-- 'sigillaw04.CurveGroup', WHERE WHAT IT READS IS OF BULK AT MOST 1048576: true; the input reads as it did. -/
def curveGroupUptoRow : OpenClaim := { program := "ytkedomfjjahjnaa", sum := "af4d3df606236e52170b82b8accba1097cd78adc273fa7515e85f11f1add58d7", func := "sigil/sigillaw04.CurveGroup", spec := "curveGroup", inPlace := ["math/bits.Sub64", "math/bits.Add64"], named := ["math/bits.divideError", "math/bits.overflowError"], apart := false, narrowed := true }
def CurveGroupUptoSaid : Prop := curveGroupUptoRow.holds Try.pinned (OpenSpec.upto curveGroupSpec)

/-- 'sigillaw04.CurveCounts', WHERE WHAT IT READS IS OF BULK AT MOST 1048576: true; the input reads as it did. -/
def curveCountsUptoRow : OpenClaim := { program := "ytkedomfjjahjnaa", sum := "af4d3df606236e52170b82b8accba1097cd78adc273fa7515e85f11f1add58d7", func := "sigil/sigillaw04.CurveCounts", spec := "curveCounts", inPlace := ["math/bits.Sub64", "math/bits.Add64"], named := ["math/bits.divideError", "math/bits.overflowError"], apart := false, narrowed := true }
def CurveCountsUptoSaid : Prop := curveCountsUptoRow.holds Try.pinned (OpenSpec.upto curveCountsSpec)

/-- 'sigillaw05.MsmMemory', WHERE WHAT IT READS IS OF BULK AT MOST 1048576: true; the input reads as it did. -/
def msmMemoryUptoRow : OpenClaim := { program := "ytkedomfjjahjnaa", sum := "af4d3df606236e52170b82b8accba1097cd78adc273fa7515e85f11f1add58d7", func := "sigil/sigillaw05.MsmMemory", spec := "msmMemory", inPlace := ["math/bits.Sub64", "math/bits.Add64"], unfollowed := true, recurses := true, named := ["math/bits.divideError", "math/bits.overflowError"], apart := false, narrowed := true }
def MsmMemoryUptoSaid : Prop := msmMemoryUptoRow.holds Try.pinned (OpenSpec.upto msmMemorySpec)

/-- 'sigillaw05.MsmLinear', WHERE WHAT IT READS IS OF BULK AT MOST 1048576: true; the input reads as it did. -/
def msmLinearUptoRow : OpenClaim := { program := "ytkedomfjjahjnaa", sum := "af4d3df606236e52170b82b8accba1097cd78adc273fa7515e85f11f1add58d7", func := "sigil/sigillaw05.MsmLinear", spec := "msmLinear", inPlace := ["math/bits.Sub64", "math/bits.Add64"], unfollowed := true, recurses := true, named := ["math/bits.divideError", "math/bits.overflowError"], apart := false, narrowed := true }
def MsmLinearUptoSaid : Prop := msmLinearUptoRow.holds Try.pinned (OpenSpec.upto msmLinearSpec)

/-- 'sigillaw04.CurveCodecs', WHERE WHAT IT READS IS OF BULK AT MOST 1048576: true; the input reads as it did. -/
def curveCodecsUptoRow : OpenClaim := { program := "ytkedomfjjahjnaa", sum := "af4d3df606236e52170b82b8accba1097cd78adc273fa7515e85f11f1add58d7", func := "sigil/sigillaw04.CurveCodecs", spec := "curveCodecs", inPlace := ["math/bits.Sub64", "math/bits.Add64"], named := ["math/bits.divideError", "math/bits.overflowError"], apart := false, narrowed := true }
def CurveCodecsUptoSaid : Prop := curveCodecsUptoRow.holds Try.pinned (OpenSpec.upto curveCodecsSpec)

/-- 'sigillaw04.CurveRound', WHERE WHAT IT READS IS OF BULK AT MOST 1048576: true; the input reads as it did. -/
def curveRoundUptoRow : OpenClaim := { program := "ytkedomfjjahjnaa", sum := "af4d3df606236e52170b82b8accba1097cd78adc273fa7515e85f11f1add58d7", func := "sigil/sigillaw04.CurveRound", spec := "curveRound", inPlace := ["math/bits.Sub64", "math/bits.Add64"], named := ["math/bits.divideError", "math/bits.overflowError"], apart := false, narrowed := true }
def CurveRoundUptoSaid : Prop := curveRoundUptoRow.holds Try.pinned (OpenSpec.upto curveRoundSpec)

/-- 'sigillaw05.MsmOther', WHERE WHAT IT READS IS OF BULK AT MOST 1048576: true; the input reads as it did. -/
def msmOtherUptoRow : OpenClaim := { program := "ytkedomfjjahjnaa", sum := "af4d3df606236e52170b82b8accba1097cd78adc273fa7515e85f11f1add58d7", func := "sigil/sigillaw05.MsmOther", spec := "msmOther", inPlace := ["math/bits.Sub64", "math/bits.Add64"], unfollowed := true, recurses := true, named := ["math/bits.divideError", "math/bits.overflowError"], apart := false, narrowed := true }
def MsmOtherUptoSaid : Prop := msmOtherUptoRow.holds Try.pinned (OpenSpec.upto msmOtherSpec)

/-- 'sigillaw05.MsmSteps', WHERE WHAT IT READS IS OF BULK AT MOST 1048576: true; the input reads as it did. -/
def msmStepsUptoRow : OpenClaim := { program := "ytkedomfjjahjnaa", sum := "af4d3df606236e52170b82b8accba1097cd78adc273fa7515e85f11f1add58d7", func := "sigil/sigillaw05.MsmSteps", spec := "msmSteps", inPlace := ["math/bits.Sub64", "math/bits.Add64"], unfollowed := true, recurses := true, named := ["math/bits.divideError", "math/bits.overflowError"], apart := false, narrowed := true }
def MsmStepsUptoSaid : Prop := msmStepsUptoRow.holds Try.pinned (OpenSpec.upto msmStepsSpec)

end Rows
end Go.Proofs.Ytkedomfjjahjnaa
