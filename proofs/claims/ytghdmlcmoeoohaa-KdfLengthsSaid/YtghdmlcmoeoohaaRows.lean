/-
  No cell of these rows narrows 'for every input' (looked for: loops, veiled, ifaces, maps, wideKeys, modest, calm, conditions, laid).
  DERIVED. THE GIVEN ROWS OF THIS SEAT. 6 by the template 'for every input the law returns true; each argument reads behind the call as it read before'; 0 by the template 'total and deterministic' (their statements: YtghdmlcmoeoohaaTotals.lean).
  GIVEN WITH THE SEED: the statements are not yours to turn. If you find one false, say at which input.
  Laid BY PROGRAM, IN A SANDBOX (cutbox-rows.mjs): the forced cells as the released guide's own fill.sh prints them over the translation 1897f6603fbb4db4… (all of the seat's roots in one cut). By AI agents, Wed Nov 11 2026. No macro, syntax, notation, axiom, sorry.
-/
import Derived.Test.YtghdmlcmoeoohaaChecked
import GoSem.Claim
import GoSem.ClaimJoined
import GoSem.ClaimMapViews
import Derived.JoinedTies
import Derived.KernelRfl
namespace Go.Proofs.Ytghdmlcmoeoohaa
/- THE CELL 'sum', in the pinned program and in every row, IS THE sha256 OF THE DUMP (.gsa) THAT YtghdmlcmoeoohaaProg.lean LOADS. Nothing in Lean hashes anything: it is a label: what it is worth is what the hold of that sum in a sandbox is worth. -/
noncomputable def Try.pinned : Pinned := { name := "ytghdmlcmoeoohaa", sum := "1897f6603fbb4db463db13ed3167c55d80782e8008dbf29565273f227bf16b1d", checked := Try.checked }
namespace Rows
def none {H : Type} : Left H := { results := [], args := [] }

/-- 'dominolaw08.KdfExpands': WHATEVER THE INPUT: true; the input reads as it did. -/
def kdfExpandsSpec : ChangeSpec := { name := "kdfExpands", fn := fun _ => fun
  | [d1, d2, d3, d4, d5] => { results := [.lit (.bool true)], args := [d1, d2, d3, d4, d5] }
  | _ => none }
def kdfExpandsRow : OpenClaim := { program := "ytghdmlcmoeoohaa", sum := "1897f6603fbb4db463db13ed3167c55d80782e8008dbf29565273f227bf16b1d", func := "domino/dominolaw08.KdfExpands", spec := "kdfExpands", inPlace := ["internal/abi.NoEscape", "internal/bytealg.MakeNoZero"], unfollowed := true, recurses := true, apart := false }
def KdfExpandsSaid : Prop := kdfExpandsRow.holds Try.pinned (OpenSpec.ofChange kdfExpandsSpec)

/-- ITS FALSE NEIGHBOUR: 'it returns false'. Refute it at one input. -/
def kdfExpandsWrong : ChangeSpec := { name := "kdfExpands", fn := fun _ => fun
  | [d1, d2, d3, d4, d5] => { results := [.lit (.bool false)], args := [d1, d2, d3, d4, d5] }
  | _ => none }
def KdfExpandsWrongFalsely : Prop := kdfExpandsRow.holds Try.pinned (OpenSpec.ofChange kdfExpandsWrong)

/-- 'dominolaw08.KdfBegins': WHATEVER THE INPUT: true; the input reads as it did. -/
def kdfBeginsSpec : ChangeSpec := { name := "kdfBegins", fn := fun _ => fun
  | [d1, d2, d3, d4] => { results := [.lit (.bool true)], args := [d1, d2, d3, d4] }
  | _ => none }
def kdfBeginsRow : OpenClaim := { program := "ytghdmlcmoeoohaa", sum := "1897f6603fbb4db463db13ed3167c55d80782e8008dbf29565273f227bf16b1d", func := "domino/dominolaw08.KdfBegins", spec := "kdfBegins", inPlace := ["internal/abi.NoEscape", "internal/bytealg.MakeNoZero"], unfollowed := true, recurses := true, apart := false }
def KdfBeginsSaid : Prop := kdfBeginsRow.holds Try.pinned (OpenSpec.ofChange kdfBeginsSpec)

/-- ITS FALSE NEIGHBOUR: 'it returns false'. Refute it at one input. -/
def kdfBeginsWrong : ChangeSpec := { name := "kdfBegins", fn := fun _ => fun
  | [d1, d2, d3, d4] => { results := [.lit (.bool false)], args := [d1, d2, d3, d4] }
  | _ => none }
def KdfBeginsWrongFalsely : Prop := kdfBeginsRow.holds Try.pinned (OpenSpec.ofChange kdfBeginsWrong)

/-- 'dominolaw08.KdfLengths': WHATEVER THE INPUT: true; the input reads as it did. -/
def kdfLengthsSpec : ChangeSpec := { name := "kdfLengths", fn := fun _ => fun
  | [d1, d2, d3] => { results := [.lit (.bool true)], args := [d1, d2, d3] }
  | _ => none }
def kdfLengthsRow : OpenClaim := { program := "ytghdmlcmoeoohaa", sum := "1897f6603fbb4db463db13ed3167c55d80782e8008dbf29565273f227bf16b1d", func := "domino/dominolaw08.KdfLengths", spec := "kdfLengths", inPlace := ["internal/abi.NoEscape", "internal/bytealg.MakeNoZero"], unfollowed := true, recurses := true, apart := false }
def KdfLengthsSaid : Prop := kdfLengthsRow.holds Try.pinned (OpenSpec.ofChange kdfLengthsSpec)

/-- ITS FALSE NEIGHBOUR: 'it returns false'. Refute it at one input. -/
def kdfLengthsWrong : ChangeSpec := { name := "kdfLengths", fn := fun _ => fun
  | [d1, d2, d3] => { results := [.lit (.bool false)], args := [d1, d2, d3] }
  | _ => none }
def KdfLengthsWrongFalsely : Prop := kdfLengthsRow.holds Try.pinned (OpenSpec.ofChange kdfLengthsWrong)

/-- 'dominolaw08.KdfMacs': WHATEVER THE INPUT: true; the input reads as it did. -/
def kdfMacsSpec : ChangeSpec := { name := "kdfMacs", fn := fun _ => fun
  | [d1, d2, d3] => { results := [.lit (.bool true)], args := [d1, d2, d3] }
  | _ => none }
def kdfMacsRow : OpenClaim := { program := "ytghdmlcmoeoohaa", sum := "1897f6603fbb4db463db13ed3167c55d80782e8008dbf29565273f227bf16b1d", func := "domino/dominolaw08.KdfMacs", spec := "kdfMacs", inPlace := ["internal/abi.NoEscape", "internal/bytealg.MakeNoZero"], unfollowed := true, recurses := true, apart := false }
def KdfMacsSaid : Prop := kdfMacsRow.holds Try.pinned (OpenSpec.ofChange kdfMacsSpec)

/-- ITS FALSE NEIGHBOUR: 'it returns false'. Refute it at one input. -/
def kdfMacsWrong : ChangeSpec := { name := "kdfMacs", fn := fun _ => fun
  | [d1, d2, d3] => { results := [.lit (.bool false)], args := [d1, d2, d3] }
  | _ => none }
def KdfMacsWrongFalsely : Prop := kdfMacsRow.holds Try.pinned (OpenSpec.ofChange kdfMacsWrong)

/-- 'dominolaw08.KdfTurns': WHATEVER THE INPUT: true; the input reads as it did. -/
def kdfTurnsSpec : ChangeSpec := { name := "kdfTurns", fn := fun _ => fun
  | [d1, d2, d3] => { results := [.lit (.bool true)], args := [d1, d2, d3] }
  | _ => none }
def kdfTurnsRow : OpenClaim := { program := "ytghdmlcmoeoohaa", sum := "1897f6603fbb4db463db13ed3167c55d80782e8008dbf29565273f227bf16b1d", func := "domino/dominolaw08.KdfTurns", spec := "kdfTurns", inPlace := ["internal/abi.NoEscape", "internal/bytealg.MakeNoZero"], unfollowed := true, recurses := true, apart := false }
def KdfTurnsSaid : Prop := kdfTurnsRow.holds Try.pinned (OpenSpec.ofChange kdfTurnsSpec)

/-- ITS FALSE NEIGHBOUR: 'it returns false'. Refute it at one input. -/
def kdfTurnsWrong : ChangeSpec := { name := "kdfTurns", fn := fun _ => fun
  | [d1, d2, d3] => { results := [.lit (.bool false)], args := [d1, d2, d3] }
  | _ => none }
def KdfTurnsWrongFalsely : Prop := kdfTurnsRow.holds Try.pinned (OpenSpec.ofChange kdfTurnsWrong)

/-- 'dominolaw08.KdfKeys': WHATEVER THE INPUT: true; the input reads as it did. -/
def kdfKeysSpec : ChangeSpec := { name := "kdfKeys", fn := fun _ => fun
  | [d1, d2, d3, d4, d5] => { results := [.lit (.bool true)], args := [d1, d2, d3, d4, d5] }
  | _ => none }
def kdfKeysRow : OpenClaim := { program := "ytghdmlcmoeoohaa", sum := "1897f6603fbb4db463db13ed3167c55d80782e8008dbf29565273f227bf16b1d", func := "domino/dominolaw08.KdfKeys", spec := "kdfKeys", inPlace := ["internal/abi.NoEscape", "internal/bytealg.MakeNoZero"], unfollowed := true, recurses := true, apart := false }
def KdfKeysSaid : Prop := kdfKeysRow.holds Try.pinned (OpenSpec.ofChange kdfKeysSpec)

/-- ITS FALSE NEIGHBOUR: 'it returns false'. Refute it at one input. -/
def kdfKeysWrong : ChangeSpec := { name := "kdfKeys", fn := fun _ => fun
  | [d1, d2, d3, d4, d5] => { results := [.lit (.bool false)], args := [d1, d2, d3, d4, d5] }
  | _ => none }
def KdfKeysWrongFalsely : Prop := kdfKeysRow.holds Try.pinned (OpenSpec.ofChange kdfKeysWrong)

/- THE SECOND FORM. 'bulk': how many values and letters a reading holds, each counted each time it is reached (what is shared counts as often as it is met; a slice's spare places count too). A statement '..UptoSaid' is the law's where the arguments, and the package variables that the reading takes, are together of bulk at most 1048576: NARROWER than '..Said'. Prove '..Said' where nothing that the law and all that it calls make is longer than what came in: it says more and counts as full. Else prove '..UptoSaid'. A law counts once. -/
mutual
def uptoBulk {H : Type} : DataW H → Nat
  | .lit (.string bytes) => bytes.length + 1
  | .lit _ => 1
  | .nil => 1
  | .ptr d => uptoBulk d + 1
  | .slice elems spare => uptoBulkAll elems + uptoBulkAll spare + 1
  | .agg parts => uptoBulkAll parts + 1
  | .iface _ d => uptoBulk d + 1
  | .map entries => uptoBulkEntries entries + 1
  | .held _ => 1
def uptoBulkAll {H : Type} : List (DataW H) → Nat
  | [] => 0
  | d :: r => uptoBulk d + uptoBulkAll r
def uptoBulkEntries {H : Type} : List (Lit × DataW H) → Nat
  | [] => 0
  | x :: r => uptoBulkEntry x + uptoBulkEntries r
def uptoBulkEntry {H : Type} : Lit × DataW H → Nat
  | (.string bytes, d) => bytes.length + uptoBulk d + 1
  | (_, d) => uptoBulk d + 1
 end
def uptoSmall : (H : Type) → List (DataW H) → Bool := fun _ ds => decide (uptoBulkAll ds ≤ 1048576)
def OpenSpec.upto (s : _root_.Go.ChangeSpec) : _root_.Go.OpenSpec := { _root_.Go.OpenSpec.ofChange s with cond := some uptoSmall }

/-- 'dominolaw08.KdfExpands', WHERE WHAT IT READS IS OF BULK AT MOST 1048576: true; the input reads as it did. -/
def kdfExpandsUptoRow : OpenClaim := { program := "ytghdmlcmoeoohaa", sum := "1897f6603fbb4db463db13ed3167c55d80782e8008dbf29565273f227bf16b1d", func := "domino/dominolaw08.KdfExpands", spec := "kdfExpands", inPlace := ["internal/abi.NoEscape", "internal/bytealg.MakeNoZero"], unfollowed := true, recurses := true, apart := false, narrowed := true }
def KdfExpandsUptoSaid : Prop := kdfExpandsUptoRow.holds Try.pinned (OpenSpec.upto kdfExpandsSpec)

/-- 'dominolaw08.KdfBegins', WHERE WHAT IT READS IS OF BULK AT MOST 1048576: true; the input reads as it did. -/
def kdfBeginsUptoRow : OpenClaim := { program := "ytghdmlcmoeoohaa", sum := "1897f6603fbb4db463db13ed3167c55d80782e8008dbf29565273f227bf16b1d", func := "domino/dominolaw08.KdfBegins", spec := "kdfBegins", inPlace := ["internal/abi.NoEscape", "internal/bytealg.MakeNoZero"], unfollowed := true, recurses := true, apart := false, narrowed := true }
def KdfBeginsUptoSaid : Prop := kdfBeginsUptoRow.holds Try.pinned (OpenSpec.upto kdfBeginsSpec)

/-- 'dominolaw08.KdfLengths', WHERE WHAT IT READS IS OF BULK AT MOST 1048576: true; the input reads as it did. -/
def kdfLengthsUptoRow : OpenClaim := { program := "ytghdmlcmoeoohaa", sum := "1897f6603fbb4db463db13ed3167c55d80782e8008dbf29565273f227bf16b1d", func := "domino/dominolaw08.KdfLengths", spec := "kdfLengths", inPlace := ["internal/abi.NoEscape", "internal/bytealg.MakeNoZero"], unfollowed := true, recurses := true, apart := false, narrowed := true }
def KdfLengthsUptoSaid : Prop := kdfLengthsUptoRow.holds Try.pinned (OpenSpec.upto kdfLengthsSpec)

/-- 'dominolaw08.KdfMacs', WHERE WHAT IT READS IS OF BULK AT MOST 1048576: true; the input reads as it did. -/
def kdfMacsUptoRow : OpenClaim := { program := "ytghdmlcmoeoohaa", sum := "1897f6603fbb4db463db13ed3167c55d80782e8008dbf29565273f227bf16b1d", func := "domino/dominolaw08.KdfMacs", spec := "kdfMacs", inPlace := ["internal/abi.NoEscape", "internal/bytealg.MakeNoZero"], unfollowed := true, recurses := true, apart := false, narrowed := true }
def KdfMacsUptoSaid : Prop := kdfMacsUptoRow.holds Try.pinned (OpenSpec.upto kdfMacsSpec)

/-- 'dominolaw08.KdfTurns', WHERE WHAT IT READS IS OF BULK AT MOST 1048576: true; the input reads as it did. -/
def kdfTurnsUptoRow : OpenClaim := { program := "ytghdmlcmoeoohaa", sum := "1897f6603fbb4db463db13ed3167c55d80782e8008dbf29565273f227bf16b1d", func := "domino/dominolaw08.KdfTurns", spec := "kdfTurns", inPlace := ["internal/abi.NoEscape", "internal/bytealg.MakeNoZero"], unfollowed := true, recurses := true, apart := false, narrowed := true }
def KdfTurnsUptoSaid : Prop := kdfTurnsUptoRow.holds Try.pinned (OpenSpec.upto kdfTurnsSpec)

/-- 'dominolaw08.KdfKeys', WHERE WHAT IT READS IS OF BULK AT MOST 1048576: true; the input reads as it did. -/
def kdfKeysUptoRow : OpenClaim := { program := "ytghdmlcmoeoohaa", sum := "1897f6603fbb4db463db13ed3167c55d80782e8008dbf29565273f227bf16b1d", func := "domino/dominolaw08.KdfKeys", spec := "kdfKeys", inPlace := ["internal/abi.NoEscape", "internal/bytealg.MakeNoZero"], unfollowed := true, recurses := true, apart := false, narrowed := true }
def KdfKeysUptoSaid : Prop := kdfKeysUptoRow.holds Try.pinned (OpenSpec.upto kdfKeysSpec)

end Rows
end Go.Proofs.Ytghdmlcmoeoohaa
