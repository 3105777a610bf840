/-
  No cell of these rows narrows 'for every input' (looked for: loops, veiled, ifaces, maps, wideKeys, modest, calm, conditions, laid).
  DERIVED. THE GIVEN ROWS OF THIS SEAT. 6 by the template 'for every input the law returns true; each argument reads behind the call as it read before'; 0 by the template 'total and deterministic' (their statements: YtoeccdhanafkpaaTotals.lean).
  GIVEN WITH THE SEED: the statements are not yours to turn. If you find one false, say at which input.
  Laid BY PROGRAM, IN A SANDBOX (cutbox-rows.mjs): the forced cells as the released guide's own fill.sh prints them over the translation a6406d2d5b3fc8cf… (all of the seat's roots in one cut). By AI agents, Wed Nov 11 2026. No macro, syntax, notation, axiom, sorry.
-/
import Derived.Test.YtoeccdhanafkpaaChecked
import GoSem.Claim
import GoSem.ClaimJoined
import GoSem.ClaimMapViews
import Derived.JoinedTies
import Derived.KernelRfl
namespace Go.Proofs.Ytoeccdhanafkpaa
/- THE CELL 'sum', in the pinned program and in every row, IS THE sha256 OF THE DUMP (.gsa) THAT YtoeccdhanafkpaaProg.lean LOADS. Nothing in Lean hashes anything: it is a label: what it is worth is what the hold of that sum in a sandbox is worth. -/
noncomputable def Try.pinned : Pinned := { name := "ytoeccdhanafkpaa", sum := "a6406d2d5b3fc8cf0fb1bfa1a68fcc91b8aeb9e3cbdad4648d5a8bd1ad8189ba", checked := Try.checked }
namespace Rows
def none {H : Type} : Left H := { results := [], args := [] }

/-- 'dominolaw10.IdealDraws': WHATEVER THE INPUT: true; the input reads as it did. -/
def idealDrawsSpec : ChangeSpec := { name := "idealDraws", fn := fun _ => fun
  | [d1, d2, d3] => { results := [.lit (.bool true)], args := [d1, d2, d3] }
  | _ => none }
def idealDrawsRow : OpenClaim := { program := "ytoeccdhanafkpaa", sum := "a6406d2d5b3fc8cf0fb1bfa1a68fcc91b8aeb9e3cbdad4648d5a8bd1ad8189ba", func := "domino/dominolaw10.IdealDraws", spec := "idealDraws", inPlace := ["internal/abi.NoEscape"], unfollowed := true, recurses := true, apart := false }
def IdealDrawsSaid : Prop := idealDrawsRow.holds Try.pinned (OpenSpec.ofChange idealDrawsSpec)

/-- ITS FALSE NEIGHBOUR: 'it returns false'. Refute it at one input. -/
def idealDrawsWrong : ChangeSpec := { name := "idealDraws", fn := fun _ => fun
  | [d1, d2, d3] => { results := [.lit (.bool false)], args := [d1, d2, d3] }
  | _ => none }
def IdealDrawsWrongFalsely : Prop := idealDrawsRow.holds Try.pinned (OpenSpec.ofChange idealDrawsWrong)

/-- 'dominolaw10.IdealSeals': WHATEVER THE INPUT: true; the input reads as it did. -/
def idealSealsSpec : ChangeSpec := { name := "idealSeals", fn := fun _ => fun
  | [d1, d2, d3, d4] => { results := [.lit (.bool true)], args := [d1, d2, d3, d4] }
  | _ => none }
def idealSealsRow : OpenClaim := { program := "ytoeccdhanafkpaa", sum := "a6406d2d5b3fc8cf0fb1bfa1a68fcc91b8aeb9e3cbdad4648d5a8bd1ad8189ba", func := "domino/dominolaw10.IdealSeals", spec := "idealSeals", inPlace := ["internal/abi.NoEscape"], unfollowed := true, recurses := true, apart := false }
def IdealSealsSaid : Prop := idealSealsRow.holds Try.pinned (OpenSpec.ofChange idealSealsSpec)

/-- ITS FALSE NEIGHBOUR: 'it returns false'. Refute it at one input. -/
def idealSealsWrong : ChangeSpec := { name := "idealSeals", fn := fun _ => fun
  | [d1, d2, d3, d4] => { results := [.lit (.bool false)], args := [d1, d2, d3, d4] }
  | _ => none }
def IdealSealsWrongFalsely : Prop := idealSealsRow.holds Try.pinned (OpenSpec.ofChange idealSealsWrong)

/-- 'dominolaw10.IdealLengths': WHATEVER THE INPUT: true; the input reads as it did. -/
def idealLengthsSpec : ChangeSpec := { name := "idealLengths", fn := fun _ => fun
  | [d1, d2, d3, d4, d5] => { results := [.lit (.bool true)], args := [d1, d2, d3, d4, d5] }
  | _ => none }
def idealLengthsRow : OpenClaim := { program := "ytoeccdhanafkpaa", sum := "a6406d2d5b3fc8cf0fb1bfa1a68fcc91b8aeb9e3cbdad4648d5a8bd1ad8189ba", func := "domino/dominolaw10.IdealLengths", spec := "idealLengths", inPlace := ["internal/abi.NoEscape"], unfollowed := true, recurses := true, apart := false }
def IdealLengthsSaid : Prop := idealLengthsRow.holds Try.pinned (OpenSpec.ofChange idealLengthsSpec)

/-- ITS FALSE NEIGHBOUR: 'it returns false'. Refute it at one input. -/
def idealLengthsWrong : ChangeSpec := { name := "idealLengths", fn := fun _ => fun
  | [d1, d2, d3, d4, d5] => { results := [.lit (.bool false)], args := [d1, d2, d3, d4, d5] }
  | _ => none }
def IdealLengthsWrongFalsely : Prop := idealLengthsRow.holds Try.pinned (OpenSpec.ofChange idealLengthsWrong)

/-- 'dominolaw10.IdealIds': WHATEVER THE INPUT: true; the input reads as it did. -/
def idealIdsSpec : ChangeSpec := { name := "idealIds", fn := fun _ => fun
  | [d1, d2, d3] => { results := [.lit (.bool true)], args := [d1, d2, d3] }
  | _ => none }
def idealIdsRow : OpenClaim := { program := "ytoeccdhanafkpaa", sum := "a6406d2d5b3fc8cf0fb1bfa1a68fcc91b8aeb9e3cbdad4648d5a8bd1ad8189ba", func := "domino/dominolaw10.IdealIds", spec := "idealIds", inPlace := ["internal/abi.NoEscape"], unfollowed := true, recurses := true, apart := false }
def IdealIdsSaid : Prop := idealIdsRow.holds Try.pinned (OpenSpec.ofChange idealIdsSpec)

/-- ITS FALSE NEIGHBOUR: 'it returns false'. Refute it at one input. -/
def idealIdsWrong : ChangeSpec := { name := "idealIds", fn := fun _ => fun
  | [d1, d2, d3] => { results := [.lit (.bool false)], args := [d1, d2, d3] }
  | _ => none }
def IdealIdsWrongFalsely : Prop := idealIdsRow.holds Try.pinned (OpenSpec.ofChange idealIdsWrong)

/-- 'dominolaw10.IdealOwn': WHATEVER THE INPUT: true; the input reads as it did. -/
def idealOwnSpec : ChangeSpec := { name := "idealOwn", fn := fun _ => fun
  | [d1, d2, d3] => { results := [.lit (.bool true)], args := [d1, d2, d3] }
  | _ => none }
def idealOwnRow : OpenClaim := { program := "ytoeccdhanafkpaa", sum := "a6406d2d5b3fc8cf0fb1bfa1a68fcc91b8aeb9e3cbdad4648d5a8bd1ad8189ba", func := "domino/dominolaw10.IdealOwn", spec := "idealOwn", inPlace := ["internal/abi.NoEscape"], unfollowed := true, recurses := true, apart := false }
def IdealOwnSaid : Prop := idealOwnRow.holds Try.pinned (OpenSpec.ofChange idealOwnSpec)

/-- ITS FALSE NEIGHBOUR: 'it returns false'. Refute it at one input. -/
def idealOwnWrong : ChangeSpec := { name := "idealOwn", fn := fun _ => fun
  | [d1, d2, d3] => { results := [.lit (.bool false)], args := [d1, d2, d3] }
  | _ => none }
def IdealOwnWrongFalsely : Prop := idealOwnRow.holds Try.pinned (OpenSpec.ofChange idealOwnWrong)

/-- 'dominolaw10.IdealFirst': WHATEVER THE INPUT: true; the input reads as it did. -/
def idealFirstSpec : ChangeSpec := { name := "idealFirst", fn := fun _ => fun
  | [d1, d2, d3, d4] => { results := [.lit (.bool true)], args := [d1, d2, d3, d4] }
  | _ => none }
def idealFirstRow : OpenClaim := { program := "ytoeccdhanafkpaa", sum := "a6406d2d5b3fc8cf0fb1bfa1a68fcc91b8aeb9e3cbdad4648d5a8bd1ad8189ba", func := "domino/dominolaw10.IdealFirst", spec := "idealFirst", inPlace := ["internal/abi.NoEscape"], unfollowed := true, recurses := true, apart := false }
def IdealFirstSaid : Prop := idealFirstRow.holds Try.pinned (OpenSpec.ofChange idealFirstSpec)

/-- ITS FALSE NEIGHBOUR: 'it returns false'. Refute it at one input. -/
def idealFirstWrong : ChangeSpec := { name := "idealFirst", fn := fun _ => fun
  | [d1, d2, d3, d4] => { results := [.lit (.bool false)], args := [d1, d2, d3, d4] }
  | _ => none }
def IdealFirstWrongFalsely : Prop := idealFirstRow.holds Try.pinned (OpenSpec.ofChange idealFirstWrong)

/- THE SECOND FORM. 'bulk': how many values and letters a reading holds, each counted each time it is reached (what is shared counts as often as it is met; a slice's spare places count too). A statement '..UptoSaid' is the law's where the arguments, and the package variables that the reading takes, are together of bulk at most 1048576: NARROWER than '..Said'. Prove '..Said' where nothing that the law and all that it calls make is longer than what came in: it says more and counts as full. Else prove '..UptoSaid'. A law counts once. -/
mutual
def uptoBulk {H : Type} : DataW H → Nat
  | .lit (.string bytes) => bytes.length + 1
  | .lit _ => 1
  | .nil => 1
  | .ptr d => uptoBulk d + 1
  | .slice elems spare => uptoBulkAll elems + uptoBulkAll spare + 1
  | .agg parts => uptoBulkAll parts + 1
  | .iface _ d => uptoBulk d + 1
  | .map entries => uptoBulkEntries entries + 1
  | .held _ => 1
def uptoBulkAll {H : Type} : List (DataW H) → Nat
  | [] => 0
  | d :: r => uptoBulk d + uptoBulkAll r
def uptoBulkEntries {H : Type} : List (Lit × DataW H) → Nat
  | [] => 0
  | x :: r => uptoBulkEntry x + uptoBulkEntries r
def uptoBulkEntry {H : Type} : Lit × DataW H → Nat
  | (.string bytes, d) => bytes.length + uptoBulk d + 1
  | (_, d) => uptoBulk d + 1
 end
def uptoSmall : (H : Type) → List (DataW H) → Bool := fun _ ds => decide (uptoBulkAll ds ≤ 1048576)
def OpenSpec.upto (s : _root_.Go.ChangeSpec) : _root_.Go.OpenSpec := { _root_.Go.OpenSpec.ofChange s with cond := some uptoSmall }

/-- 'dominolaw10.IdealDraws', WHERE WHAT IT READS IS OF BULK AT MOST 1048576: true; the input reads as it did. -/
def idealDrawsUptoRow : OpenClaim := { program := "ytoeccdhanafkpaa", sum := "a6406d2d5b3fc8cf0fb1bfa1a68fcc91b8aeb9e3cbdad4648d5a8bd1ad8189ba", func := "domino/dominolaw10.IdealDraws", spec := "idealDraws", inPlace := ["internal/abi.NoEscape"], unfollowed := true, recurses := true, apart := false, narrowed := true }
def IdealDrawsUptoSaid : Prop := idealDrawsUptoRow.holds Try.pinned (OpenSpec.upto idealDrawsSpec)

/-- 'dominolaw10.IdealSeals', WHERE WHAT IT READS IS OF BULK AT MOST 1048576: true; the input reads as it did. -/
def idealSealsUptoRow : OpenClaim := { program := "ytoeccdhanafkpaa", sum := "a6406d2d5b3fc8cf0fb1bfa1a68fcc91b8aeb9e3cbdad4648d5a8bd1ad8189ba", func := "domino/dominolaw10.IdealSeals", spec := "idealSeals", inPlace := ["internal/abi.NoEscape"], unfollowed := true, recurses := true, apart := false, narrowed := true }
def IdealSealsUptoSaid : Prop := idealSealsUptoRow.holds Try.pinned (OpenSpec.upto idealSealsSpec)

/-- 'dominolaw10.IdealLengths', WHERE WHAT IT READS IS OF BULK AT MOST 1048576: true; the input reads as it did. -/
def idealLengthsUptoRow : OpenClaim := { program := "ytoeccdhanafkpaa", sum := "a6406d2d5b3fc8cf0fb1bfa1a68fcc91b8aeb9e3cbdad4648d5a8bd1ad8189ba", func := "domino/dominolaw10.IdealLengths", spec := "idealLengths", inPlace := ["internal/abi.NoEscape"], unfollowed := true, recurses := true, apart := false, narrowed := true }
def IdealLengthsUptoSaid : Prop := idealLengthsUptoRow.holds Try.pinned (OpenSpec.upto idealLengthsSpec)

/-- 'dominolaw10.IdealIds', WHERE WHAT IT READS IS OF BULK AT MOST 1048576: true; the input reads as it did. -/
def idealIdsUptoRow : OpenClaim := { program := "ytoeccdhanafkpaa", sum := "a6406d2d5b3fc8cf0fb1bfa1a68fcc91b8aeb9e3cbdad4648d5a8bd1ad8189ba", func := "domino/dominolaw10.IdealIds", spec := "idealIds", inPlace := ["internal/abi.NoEscape"], unfollowed := true, recurses := true, apart := false, narrowed := true }
def IdealIdsUptoSaid : Prop := idealIdsUptoRow.holds Try.pinned (OpenSpec.upto idealIdsSpec)

/-- 'dominolaw10.IdealOwn', WHERE WHAT IT READS IS OF BULK AT MOST 1048576: true; the input reads as it did. -/
def idealOwnUptoRow : OpenClaim := { program := "ytoeccdhanafkpaa", sum := "a6406d2d5b3fc8cf0fb1bfa1a68fcc91b8aeb9e3cbdad4648d5a8bd1ad8189ba", func := "domino/dominolaw10.IdealOwn", spec := "idealOwn", inPlace := ["internal/abi.NoEscape"], unfollowed := true, recurses := true, apart := false, narrowed := true }
def IdealOwnUptoSaid : Prop := idealOwnUptoRow.holds Try.pinned (OpenSpec.upto idealOwnSpec)

/-- 'dominolaw10.IdealFirst', WHERE WHAT IT READS IS OF BULK AT MOST 1048576: true; the input reads as it did. -/
def idealFirstUptoRow : OpenClaim := { program := "ytoeccdhanafkpaa", sum := "a6406d2d5b3fc8cf0fb1bfa1a68fcc91b8aeb9e3cbdad4648d5a8bd1ad8189ba", func := "domino/dominolaw10.IdealFirst", spec := "idealFirst", inPlace := ["internal/abi.NoEscape"], unfollowed := true, recurses := true, apart := false, narrowed := true }
def IdealFirstUptoSaid : Prop := idealFirstUptoRow.holds Try.pinned (OpenSpec.upto idealFirstSpec)

end Rows
end Go.Proofs.Ytoeccdhanafkpaa
