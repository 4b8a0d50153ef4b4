/-
  No cell of these rows narrows 'for every input' (looked for: loops, veiled, ifaces, maps, wideKeys, modest, calm, conditions, laid).
  DERIVED. THE GIVEN ROWS OF THIS SEAT. 4 by the template 'for every input the law returns true; each argument reads behind the call as it read before'; 0 by the template 'total and deterministic' (their statements: YtkngdfhigpjciaaTotals.lean).
  GIVEN WITH THE SEED: the statements are not yours to turn. If you find one false, say at which input.
  Laid BY PROGRAM, IN A SANDBOX (cutbox-rows.mjs): the forced cells as the released guide's own fill.sh prints them over the translation 837e6932b2a7c478… (all of the seat's roots in one cut). By AI agents, Wed Nov 11 2026. No macro, syntax, notation, axiom, sorry.
-/
import Derived.Test.YtkngdfhigpjciaaChecked
import GoSem.Claim
import GoSem.ClaimJoined
import GoSem.ClaimMapViews
import Derived.JoinedTies
import Derived.KernelRfl
namespace Go.Proofs.Ytkngdfhigpjciaa
/- THE CELL 'sum', in the pinned program and in every row, IS THE sha256 OF THE DUMP (.gsa) THAT YtkngdfhigpjciaaProg.lean LOADS. Nothing in Lean hashes anything: it is a label: what it is worth is what the hold of that sum in a sandbox is worth. -/
noncomputable def Try.pinned : Pinned := { name := "ytkngdfhigpjciaa", sum := "837e6932b2a7c478484595401e2aa678ffc6b0db5defae66ea3b1e934eef96c1", checked := Try.checked }
namespace Rows
def none {H : Type} : Left H := { results := [], args := [] }

/-- 'sigillaw03.BlakeSums': WHATEVER THE INPUT: true; the input reads as it did. -/
def blakeSumsSpec : ChangeSpec := { name := "blakeSums", fn := fun _ => fun
  | [d1, d2, d3] => { results := [.lit (.bool true)], args := [d1, d2, d3] }
  | _ => none }
def blakeSumsRow : OpenClaim := { program := "ytkngdfhigpjciaa", sum := "837e6932b2a7c478484595401e2aa678ffc6b0db5defae66ea3b1e934eef96c1", func := "sigil/sigillaw03.BlakeSums", spec := "blakeSums", unfollowed := true, recurses := true, apart := false }
def BlakeSumsSaid : Prop := blakeSumsRow.holds Try.pinned (OpenSpec.ofChange blakeSumsSpec)

/-- ITS FALSE NEIGHBOUR: 'it returns false'. Refute it at one input. -/
def blakeSumsWrong : ChangeSpec := { name := "blakeSums", fn := fun _ => fun
  | [d1, d2, d3] => { results := [.lit (.bool false)], args := [d1, d2, d3] }
  | _ => none }
def BlakeSumsWrongFalsely : Prop := blakeSumsRow.holds Try.pinned (OpenSpec.ofChange blakeSumsWrong)

/-- 'sigillaw03.BlakePieces': WHATEVER THE INPUT: true; the input reads as it did. -/
def blakePiecesSpec : ChangeSpec := { name := "blakePieces", fn := fun _ => fun
  | [d1, d2, d3] => { results := [.lit (.bool true)], args := [d1, d2, d3] }
  | _ => none }
def blakePiecesRow : OpenClaim := { program := "ytkngdfhigpjciaa", sum := "837e6932b2a7c478484595401e2aa678ffc6b0db5defae66ea3b1e934eef96c1", func := "sigil/sigillaw03.BlakePieces", spec := "blakePieces", unfollowed := true, recurses := true, apart := false }
def BlakePiecesSaid : Prop := blakePiecesRow.holds Try.pinned (OpenSpec.ofChange blakePiecesSpec)

/-- ITS FALSE NEIGHBOUR: 'it returns false'. Refute it at one input. -/
def blakePiecesWrong : ChangeSpec := { name := "blakePieces", fn := fun _ => fun
  | [d1, d2, d3] => { results := [.lit (.bool false)], args := [d1, d2, d3] }
  | _ => none }
def BlakePiecesWrongFalsely : Prop := blakePiecesRow.holds Try.pinned (OpenSpec.ofChange blakePiecesWrong)

/-- 'sigillaw03.BlakeTwo': WHATEVER THE INPUT: true; the input reads as it did. -/
def blakeTwoSpec : ChangeSpec := { name := "blakeTwo", fn := fun _ => fun
  | [d1, d2, d3] => { results := [.lit (.bool true)], args := [d1, d2, d3] }
  | _ => none }
def blakeTwoRow : OpenClaim := { program := "ytkngdfhigpjciaa", sum := "837e6932b2a7c478484595401e2aa678ffc6b0db5defae66ea3b1e934eef96c1", func := "sigil/sigillaw03.BlakeTwo", spec := "blakeTwo", unfollowed := true, recurses := true, apart := false }
def BlakeTwoSaid : Prop := blakeTwoRow.holds Try.pinned (OpenSpec.ofChange blakeTwoSpec)

/-- ITS FALSE NEIGHBOUR: 'it returns false'. Refute it at one input. -/
def blakeTwoWrong : ChangeSpec := { name := "blakeTwo", fn := fun _ => fun
  | [d1, d2, d3] => { results := [.lit (.bool false)], args := [d1, d2, d3] }
  | _ => none }
def BlakeTwoWrongFalsely : Prop := blakeTwoRow.holds Try.pinned (OpenSpec.ofChange blakeTwoWrong)

/-- 'sigillaw08.TapeCoins': WHATEVER THE INPUT: true; the input reads as it did. -/
def tapeCoinsSpec : ChangeSpec := { name := "tapeCoins", fn := fun _ => fun
  | [d] => { results := [.lit (.bool true)], args := [d] }
  | _ => none }
def tapeCoinsRow : OpenClaim := { program := "ytkngdfhigpjciaa", sum := "837e6932b2a7c478484595401e2aa678ffc6b0db5defae66ea3b1e934eef96c1", func := "sigil/sigillaw08.TapeCoins", spec := "tapeCoins", inPlace := ["math/bits.Sub64"], unfollowed := true, recurses := true, named := ["math/bits.divideError", "math/bits.overflowError"], apart := false }
def TapeCoinsSaid : Prop := tapeCoinsRow.holds Try.pinned (OpenSpec.ofChange tapeCoinsSpec)

/-- ITS FALSE NEIGHBOUR: 'it returns false'. Refute it at one input. -/
def tapeCoinsWrong : ChangeSpec := { name := "tapeCoins", fn := fun _ => fun
  | [d] => { results := [.lit (.bool false)], args := [d] }
  | _ => none }
def TapeCoinsWrongFalsely : Prop := tapeCoinsRow.holds Try.pinned (OpenSpec.ofChange tapeCoinsWrong)

/- THE SECOND FORM. 'bulk': how many values and letters a reading holds, each counted each time it is reached (what is shared counts as often as it is met; a slice's spare places count too). A statement '..UptoSaid' is the law's where the arguments, and the package variables that the reading takes, are together of bulk at most 1048576: NARROWER than '..Said'. Prove '..Said' where nothing that the law and all that it calls make is longer than what came in: it says more and counts as full. Else prove '..UptoSaid'. A law counts once. -/
mutual
def uptoBulk {H : Type} : DataW H → Nat
  | .lit (.string bytes) => bytes.length + 1
  | .lit _ => 1
  | .nil => 1
  | .ptr d => uptoBulk d + 1
  | .slice elems spare => uptoBulkAll elems + uptoBulkAll spare + 1
  | .agg parts => uptoBulkAll parts + 1
  | .iface _ d => uptoBulk d + 1
  | .map entries => uptoBulkEntries entries + 1
  | .held _ => 1
def uptoBulkAll {H : Type} : List (DataW H) → Nat
  | [] => 0
  | d :: r => uptoBulk d + uptoBulkAll r
def uptoBulkEntries {H : Type} : List (Lit × DataW H) → Nat
  | [] => 0
  | x :: r => uptoBulkEntry x + uptoBulkEntries r
def uptoBulkEntry {H : Type} : Lit × DataW H → Nat
  | (.string bytes, d) => bytes.length + uptoBulk d + 1
  | (_, d) => uptoBulk d + 1
 end
def uptoSmall : (H : Type) → List (DataW H) → Bool := fun _ ds => decide (uptoBulkAll ds ≤ 1048576)
def OpenSpec.upto (s : _root_.Go.ChangeSpec) : _root_.Go.OpenSpec := { _root_.Go.OpenSpec.ofChange s with cond := some uptoSmall }

/-- 'sigillaw03.BlakeSums', WHERE WHAT IT READS IS OF BULK AT MOST 1048576: true; the input reads as it did. -/
def blakeSumsUptoRow : OpenClaim := { program := "ytkngdfhigpjciaa", sum := "837e6932b2a7c478484595401e2aa678ffc6b0db5defae66ea3b1e934eef96c1", func := "sigil/sigillaw03.BlakeSums", spec := "blakeSums", unfollowed := true, recurses := true, apart := false, narrowed := true }
def BlakeSumsUptoSaid : Prop := blakeSumsUptoRow.holds Try.pinned (OpenSpec.upto blakeSumsSpec)

/-- 'sigillaw03.BlakePieces', WHERE WHAT IT READS IS OF BULK AT MOST 1048576: true; the input reads as it did. -/
def blakePiecesUptoRow : OpenClaim := { program := "ytkngdfhigpjciaa", sum := "837e6932b2a7c478484595401e2aa678ffc6b0db5defae66ea3b1e934eef96c1", func := "sigil/sigillaw03.BlakePieces", spec := "blakePieces", unfollowed := true, recurses := true, apart := false, narrowed := true }
def BlakePiecesUptoSaid : Prop := blakePiecesUptoRow.holds Try.pinned (OpenSpec.upto blakePiecesSpec)

/-- 'sigillaw03.BlakeTwo', WHERE WHAT IT READS IS OF BULK AT MOST 1048576: true; the input reads as it did. -/
def blakeTwoUptoRow : OpenClaim := { program := "ytkngdfhigpjciaa", sum := "837e6932b2a7c478484595401e2aa678ffc6b0db5defae66ea3b1e934eef96c1", func := "sigil/sigillaw03.BlakeTwo", spec := "blakeTwo", unfollowed := true, recurses := true, apart := false, narrowed := true }
def BlakeTwoUptoSaid : Prop := blakeTwoUptoRow.holds Try.pinned (OpenSpec.upto blakeTwoSpec)

/-- 'sigillaw08.TapeCoins', WHERE WHAT IT READS IS OF BULK AT MOST 1048576: true; the input reads as it did. -/
def tapeCoinsUptoRow : OpenClaim := { program := "ytkngdfhigpjciaa", sum := "837e6932b2a7c478484595401e2aa678ffc6b0db5defae66ea3b1e934eef96c1", func := "sigil/sigillaw08.TapeCoins", spec := "tapeCoins", inPlace := ["math/bits.Sub64"], unfollowed := true, recurses := true, named := ["math/bits.divideError", "math/bits.overflowError"], apart := false, narrowed := true }
def TapeCoinsUptoSaid : Prop := tapeCoinsUptoRow.holds Try.pinned (OpenSpec.upto tapeCoinsSpec)

end Rows
end Go.Proofs.Ytkngdfhigpjciaa
