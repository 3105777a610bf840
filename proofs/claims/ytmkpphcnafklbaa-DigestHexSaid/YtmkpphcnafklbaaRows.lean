/-
  No cell of these rows narrows 'for every input' (looked for: loops, veiled, ifaces, maps, wideKeys, modest, calm, conditions, laid).
  DERIVED. THE GIVEN ROWS OF THIS SEAT. 5 by the template 'for every input the law returns true; each argument reads behind the call as it read before'; 0 by the template 'total and deterministic' (their statements: YtmkpphcnafklbaaTotals.lean).
  GIVEN WITH THE SEED: the statements are not yours to turn. If you find one false, say at which input.
  Laid BY PROGRAM, IN A SANDBOX (cutbox-rows.mjs): the forced cells as the released guide's own fill.sh prints them over the translation 28c4880d4e9f832a… (all of the seat's roots in one cut). By AI agents, Wed Nov 11 2026. No macro, syntax, notation, axiom, sorry.
-/
import Derived.Test.YtmkpphcnafklbaaChecked
import GoSem.Claim
import GoSem.ClaimJoined
import GoSem.ClaimMapViews
import Derived.JoinedTies
import Derived.KernelRfl
namespace Go.Proofs.Ytmkpphcnafklbaa
/- THE CELL 'sum', in the pinned program and in every row, IS THE sha256 OF THE DUMP (.gsa) THAT YtmkpphcnafklbaaProg.lean LOADS. Nothing in Lean hashes anything: it is a label: what it is worth is what the hold of that sum in a sandbox is worth. -/
noncomputable def Try.pinned : Pinned := { name := "ytmkpphcnafklbaa", sum := "28c4880d4e9f832a2bb40287904fca46373339d5ba527a29dd159736cf4313de", checked := Try.checked }
namespace Rows
def none {H : Type} : Left H := { results := [], args := [] }

/-- 'dominolaw07.DigestSums': WHATEVER THE INPUT: true; the input reads as it did. -/
def digestSumsSpec : ChangeSpec := { name := "digestSums", fn := fun _ => fun
  | [d] => { results := [.lit (.bool true)], args := [d] }
  | _ => none }
def digestSumsRow : OpenClaim := { program := "ytmkpphcnafklbaa", sum := "28c4880d4e9f832a2bb40287904fca46373339d5ba527a29dd159736cf4313de", func := "domino/dominolaw07.DigestSums", spec := "digestSums", inPlace := ["internal/abi.NoEscape", "internal/bytealg.MakeNoZero"], unfollowed := true, recurses := true, apart := false }
def DigestSumsSaid : Prop := digestSumsRow.holds Try.pinned (OpenSpec.ofChange digestSumsSpec)

/-- ITS FALSE NEIGHBOUR: 'it returns false'. Refute it at one input. -/
def digestSumsWrong : ChangeSpec := { name := "digestSums", fn := fun _ => fun
  | [d] => { results := [.lit (.bool false)], args := [d] }
  | _ => none }
def DigestSumsWrongFalsely : Prop := digestSumsRow.holds Try.pinned (OpenSpec.ofChange digestSumsWrong)

/-- 'dominolaw07.DigestParts': WHATEVER THE INPUT: true; the input reads as it did. -/
def digestPartsSpec : ChangeSpec := { name := "digestParts", fn := fun _ => fun
  | [d1, d2, d3] => { results := [.lit (.bool true)], args := [d1, d2, d3] }
  | _ => none }
def digestPartsRow : OpenClaim := { program := "ytmkpphcnafklbaa", sum := "28c4880d4e9f832a2bb40287904fca46373339d5ba527a29dd159736cf4313de", func := "domino/dominolaw07.DigestParts", spec := "digestParts", inPlace := ["internal/abi.NoEscape", "internal/bytealg.MakeNoZero"], unfollowed := true, recurses := true, apart := false }
def DigestPartsSaid : Prop := digestPartsRow.holds Try.pinned (OpenSpec.ofChange digestPartsSpec)

/-- ITS FALSE NEIGHBOUR: 'it returns false'. Refute it at one input. -/
def digestPartsWrong : ChangeSpec := { name := "digestParts", fn := fun _ => fun
  | [d1, d2, d3] => { results := [.lit (.bool false)], args := [d1, d2, d3] }
  | _ => none }
def DigestPartsWrongFalsely : Prop := digestPartsRow.holds Try.pinned (OpenSpec.ofChange digestPartsWrong)

/-- 'dominolaw07.DigestXors': WHATEVER THE INPUT: true; the input reads as it did. -/
def digestXorsSpec : ChangeSpec := { name := "digestXors", fn := fun _ => fun
  | [d1, d2] => { results := [.lit (.bool true)], args := [d1, d2] }
  | _ => none }
def digestXorsRow : OpenClaim := { program := "ytmkpphcnafklbaa", sum := "28c4880d4e9f832a2bb40287904fca46373339d5ba527a29dd159736cf4313de", func := "domino/dominolaw07.DigestXors", spec := "digestXors", inPlace := ["internal/abi.NoEscape", "internal/bytealg.MakeNoZero"], unfollowed := true, recurses := true, apart := false }
def DigestXorsSaid : Prop := digestXorsRow.holds Try.pinned (OpenSpec.ofChange digestXorsSpec)

/-- ITS FALSE NEIGHBOUR: 'it returns false'. Refute it at one input. -/
def digestXorsWrong : ChangeSpec := { name := "digestXors", fn := fun _ => fun
  | [d1, d2] => { results := [.lit (.bool false)], args := [d1, d2] }
  | _ => none }
def DigestXorsWrongFalsely : Prop := digestXorsRow.holds Try.pinned (OpenSpec.ofChange digestXorsWrong)

/-- 'dominolaw07.DigestNone': WHATEVER THE INPUT: true; the input reads as it did. -/
def digestNoneSpec : ChangeSpec := { name := "digestNone", fn := fun _ => fun
  | [d1, d2] => { results := [.lit (.bool true)], args := [d1, d2] }
  | _ => none }
def digestNoneRow : OpenClaim := { program := "ytmkpphcnafklbaa", sum := "28c4880d4e9f832a2bb40287904fca46373339d5ba527a29dd159736cf4313de", func := "domino/dominolaw07.DigestNone", spec := "digestNone", inPlace := ["internal/abi.NoEscape", "internal/bytealg.MakeNoZero"], unfollowed := true, recurses := true, apart := false }
def DigestNoneSaid : Prop := digestNoneRow.holds Try.pinned (OpenSpec.ofChange digestNoneSpec)

/-- ITS FALSE NEIGHBOUR: 'it returns false'. Refute it at one input. -/
def digestNoneWrong : ChangeSpec := { name := "digestNone", fn := fun _ => fun
  | [d1, d2] => { results := [.lit (.bool false)], args := [d1, d2] }
  | _ => none }
def DigestNoneWrongFalsely : Prop := digestNoneRow.holds Try.pinned (OpenSpec.ofChange digestNoneWrong)

/-- 'dominolaw07.DigestHex': WHATEVER THE INPUT: true; the input reads as it did. -/
def digestHexSpec : ChangeSpec := { name := "digestHex", fn := fun _ => fun
  | [d1, d2] => { results := [.lit (.bool true)], args := [d1, d2] }
  | _ => none }
def digestHexRow : OpenClaim := { program := "ytmkpphcnafklbaa", sum := "28c4880d4e9f832a2bb40287904fca46373339d5ba527a29dd159736cf4313de", func := "domino/dominolaw07.DigestHex", spec := "digestHex", inPlace := ["internal/abi.NoEscape", "internal/bytealg.MakeNoZero", "internal/bytealg.IndexByteString"], unfollowed := true, recurses := true, apart := false }
def DigestHexSaid : Prop := digestHexRow.holds Try.pinned (OpenSpec.ofChange digestHexSpec)

/-- ITS FALSE NEIGHBOUR: 'it returns false'. Refute it at one input. -/
def digestHexWrong : ChangeSpec := { name := "digestHex", fn := fun _ => fun
  | [d1, d2] => { results := [.lit (.bool false)], args := [d1, d2] }
  | _ => none }
def DigestHexWrongFalsely : Prop := digestHexRow.holds Try.pinned (OpenSpec.ofChange digestHexWrong)

/- THE SECOND FORM. 'bulk': how many values and letters a reading holds, each counted each time it is reached (what is shared counts as often as it is met; a slice's spare places count too). A statement '..UptoSaid' is the law's where the arguments, and the package variables that the reading takes, are together of bulk at most 1048576: NARROWER than '..Said'. Prove '..Said' where nothing that the law and all that it calls make is longer than what came in: it says more and counts as full. Else prove '..UptoSaid'. A law counts once. -/
mutual
def uptoBulk {H : Type} : DataW H → Nat
  | .lit (.string bytes) => bytes.length + 1
  | .lit _ => 1
  | .nil => 1
  | .ptr d => uptoBulk d + 1
  | .slice elems spare => uptoBulkAll elems + uptoBulkAll spare + 1
  | .agg parts => uptoBulkAll parts + 1
  | .iface _ d => uptoBulk d + 1
  | .map entries => uptoBulkEntries entries + 1
  | .held _ => 1
def uptoBulkAll {H : Type} : List (DataW H) → Nat
  | [] => 0
  | d :: r => uptoBulk d + uptoBulkAll r
def uptoBulkEntries {H : Type} : List (Lit × DataW H) → Nat
  | [] => 0
  | x :: r => uptoBulkEntry x + uptoBulkEntries r
def uptoBulkEntry {H : Type} : Lit × DataW H → Nat
  | (.string bytes, d) => bytes.length + uptoBulk d + 1
  | (_, d) => uptoBulk d + 1
 end
def uptoSmall : (H : Type) → List (DataW H) → Bool := fun _ ds => decide (uptoBulkAll ds ≤ 1048576)
def OpenSpec.upto (s : _root_.Go.ChangeSpec) : _root_.Go.OpenSpec := { _root_.Go.OpenSpec.ofChange s with cond := some uptoSmall }

/-- 'dominolaw07.DigestSums', WHERE WHAT IT READS IS OF BULK AT MOST 1048576: true; the input reads as it did. -/
def digestSumsUptoRow : OpenClaim := { program := "ytmkpphcnafklbaa", sum := "28c4880d4e9f832a2bb40287904fca46373339d5ba527a29dd159736cf4313de", func := "domino/dominolaw07.DigestSums", spec := "digestSums", inPlace := ["internal/abi.NoEscape", "internal/bytealg.MakeNoZero"], unfollowed := true, recurses := true, apart := false, narrowed := true }
def DigestSumsUptoSaid : Prop := digestSumsUptoRow.holds Try.pinned (OpenSpec.upto digestSumsSpec)

/-- 'dominolaw07.DigestParts', WHERE WHAT IT READS IS OF BULK AT MOST 1048576: true; the input reads as it did. -/
def digestPartsUptoRow : OpenClaim := { program := "ytmkpphcnafklbaa", sum := "28c4880d4e9f832a2bb40287904fca46373339d5ba527a29dd159736cf4313de", func := "domino/dominolaw07.DigestParts", spec := "digestParts", inPlace := ["internal/abi.NoEscape", "internal/bytealg.MakeNoZero"], unfollowed := true, recurses := true, apart := false, narrowed := true }
def DigestPartsUptoSaid : Prop := digestPartsUptoRow.holds Try.pinned (OpenSpec.upto digestPartsSpec)

/-- 'dominolaw07.DigestXors', WHERE WHAT IT READS IS OF BULK AT MOST 1048576: true; the input reads as it did. -/
def digestXorsUptoRow : OpenClaim := { program := "ytmkpphcnafklbaa", sum := "28c4880d4e9f832a2bb40287904fca46373339d5ba527a29dd159736cf4313de", func := "domino/dominolaw07.DigestXors", spec := "digestXors", inPlace := ["internal/abi.NoEscape", "internal/bytealg.MakeNoZero"], unfollowed := true, recurses := true, apart := false, narrowed := true }
def DigestXorsUptoSaid : Prop := digestXorsUptoRow.holds Try.pinned (OpenSpec.upto digestXorsSpec)

/-- 'dominolaw07.DigestNone', WHERE WHAT IT READS IS OF BULK AT MOST 1048576: true; the input reads as it did. -/
def digestNoneUptoRow : OpenClaim := { program := "ytmkpphcnafklbaa", sum := "28c4880d4e9f832a2bb40287904fca46373339d5ba527a29dd159736cf4313de", func := "domino/dominolaw07.DigestNone", spec := "digestNone", inPlace := ["internal/abi.NoEscape", "internal/bytealg.MakeNoZero"], unfollowed := true, recurses := true, apart := false, narrowed := true }
def DigestNoneUptoSaid : Prop := digestNoneUptoRow.holds Try.pinned (OpenSpec.upto digestNoneSpec)

/-- 'dominolaw07.DigestHex', WHERE WHAT IT READS IS OF BULK AT MOST 1048576: true; the input reads as it did. -/
def digestHexUptoRow : OpenClaim := { program := "ytmkpphcnafklbaa", sum := "28c4880d4e9f832a2bb40287904fca46373339d5ba527a29dd159736cf4313de", func := "domino/dominolaw07.DigestHex", spec := "digestHex", inPlace := ["internal/abi.NoEscape", "internal/bytealg.MakeNoZero", "internal/bytealg.IndexByteString"], unfollowed := true, recurses := true, apart := false, narrowed := true }
def DigestHexUptoSaid : Prop := digestHexUptoRow.holds Try.pinned (OpenSpec.upto digestHexSpec)

end Rows
end Go.Proofs.Ytmkpphcnafklbaa
