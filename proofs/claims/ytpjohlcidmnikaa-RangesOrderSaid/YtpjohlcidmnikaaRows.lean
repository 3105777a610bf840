/-
  No cell of these rows narrows 'for every input' (looked for: loops, veiled, ifaces, maps, wideKeys, modest, calm, conditions, laid).
  DERIVED. THE GIVEN ROWS OF THIS SEAT. 7 by the template 'for every input the law returns true; each argument reads behind the call as it read before'; 0 by the template 'total and deterministic' (their statements: YtpjohlcidmnikaaTotals.lean).
  GIVEN WITH THE SEED: the statements are not yours to turn. If you find one false, say at which input.
  Laid BY PROGRAM, IN A SANDBOX (cutbox-rows.mjs): the forced cells as the released guide's own fill.sh prints them over the translation 0794827d7e990375… (all of the seat's roots in one cut). By AI agents, Wed Nov 11 2026. No macro, syntax, notation, axiom, sorry.
-/
import Derived.Test.YtpjohlcidmnikaaChecked
import GoSem.Claim
import GoSem.ClaimJoined
import GoSem.ClaimMapViews
import Derived.JoinedTies
import Derived.KernelRfl
namespace Go.Proofs.Ytpjohlcidmnikaa
/- THE CELL 'sum', in the pinned program and in every row, IS THE sha256 OF THE DUMP (.gsa) THAT YtpjohlcidmnikaaProg.lean LOADS. Nothing in Lean hashes anything: it is a label: what it is worth is what the hold of that sum in a sandbox is worth. -/
noncomputable def Try.pinned : Pinned := { name := "ytpjohlcidmnikaa", sum := "0794827d7e990375323590371ced67c0e5fa27f5d819102f75e4da154c3824f3", checked := Try.checked }
namespace Rows
def none {H : Type} : Left H := { results := [], args := [] }

/-- 'dominolaw03.RangesMay': WHATEVER THE INPUT: true; the input reads as it did. -/
def rangesMaySpec : ChangeSpec := { name := "rangesMay", fn := fun _ => fun
  | [d] => { results := [.lit (.bool true)], args := [d] }
  | _ => none }
def rangesMayRow : OpenClaim := { program := "ytpjohlcidmnikaa", sum := "0794827d7e990375323590371ced67c0e5fa27f5d819102f75e4da154c3824f3", func := "domino/dominolaw03.RangesMay", spec := "rangesMay", unfollowed := true, recurses := true, apart := false }
def RangesMaySaid : Prop := rangesMayRow.holds Try.pinned (OpenSpec.ofChange rangesMaySpec)

/-- ITS FALSE NEIGHBOUR: 'it returns false'. Refute it at one input. -/
def rangesMayWrong : ChangeSpec := { name := "rangesMay", fn := fun _ => fun
  | [d] => { results := [.lit (.bool false)], args := [d] }
  | _ => none }
def RangesMayWrongFalsely : Prop := rangesMayRow.holds Try.pinned (OpenSpec.ofChange rangesMayWrong)

/-- 'dominolaw03.RangesOrder': WHATEVER THE INPUT: true; the input reads as it did. -/
def rangesOrderSpec : ChangeSpec := { name := "rangesOrder", fn := fun _ => fun
  | [d1, d2] => { results := [.lit (.bool true)], args := [d1, d2] }
  | _ => none }
def rangesOrderRow : OpenClaim := { program := "ytpjohlcidmnikaa", sum := "0794827d7e990375323590371ced67c0e5fa27f5d819102f75e4da154c3824f3", func := "domino/dominolaw03.RangesOrder", spec := "rangesOrder", unfollowed := true, recurses := true, apart := false }
def RangesOrderSaid : Prop := rangesOrderRow.holds Try.pinned (OpenSpec.ofChange rangesOrderSpec)

/-- ITS FALSE NEIGHBOUR: 'it returns false'. Refute it at one input. -/
def rangesOrderWrong : ChangeSpec := { name := "rangesOrder", fn := fun _ => fun
  | [d1, d2] => { results := [.lit (.bool false)], args := [d1, d2] }
  | _ => none }
def RangesOrderWrongFalsely : Prop := rangesOrderRow.holds Try.pinned (OpenSpec.ofChange rangesOrderWrong)

/-- 'dominolaw03.RangesAgain': WHATEVER THE INPUT: true; the input reads as it did. -/
def rangesAgainSpec : ChangeSpec := { name := "rangesAgain", fn := fun _ => fun
  | [d1, d2] => { results := [.lit (.bool true)], args := [d1, d2] }
  | _ => none }
def rangesAgainRow : OpenClaim := { program := "ytpjohlcidmnikaa", sum := "0794827d7e990375323590371ced67c0e5fa27f5d819102f75e4da154c3824f3", func := "domino/dominolaw03.RangesAgain", spec := "rangesAgain", unfollowed := true, recurses := true, apart := false }
def RangesAgainSaid : Prop := rangesAgainRow.holds Try.pinned (OpenSpec.ofChange rangesAgainSpec)

/-- ITS FALSE NEIGHBOUR: 'it returns false'. Refute it at one input. -/
def rangesAgainWrong : ChangeSpec := { name := "rangesAgain", fn := fun _ => fun
  | [d1, d2] => { results := [.lit (.bool false)], args := [d1, d2] }
  | _ => none }
def RangesAgainWrongFalsely : Prop := rangesAgainRow.holds Try.pinned (OpenSpec.ofChange rangesAgainWrong)

/-- 'dominolaw03.RangesParts': WHATEVER THE INPUT: true; the input reads as it did. -/
def rangesPartsSpec : ChangeSpec := { name := "rangesParts", fn := fun _ => fun
  | [d1, d2] => { results := [.lit (.bool true)], args := [d1, d2] }
  | _ => none }
def rangesPartsRow : OpenClaim := { program := "ytpjohlcidmnikaa", sum := "0794827d7e990375323590371ced67c0e5fa27f5d819102f75e4da154c3824f3", func := "domino/dominolaw03.RangesParts", spec := "rangesParts", unfollowed := true, recurses := true, apart := false }
def RangesPartsSaid : Prop := rangesPartsRow.holds Try.pinned (OpenSpec.ofChange rangesPartsSpec)

/-- ITS FALSE NEIGHBOUR: 'it returns false'. Refute it at one input. -/
def rangesPartsWrong : ChangeSpec := { name := "rangesParts", fn := fun _ => fun
  | [d1, d2] => { results := [.lit (.bool false)], args := [d1, d2] }
  | _ => none }
def RangesPartsWrongFalsely : Prop := rangesPartsRow.holds Try.pinned (OpenSpec.ofChange rangesPartsWrong)

/-- 'dominolaw03.RangesTells': WHATEVER THE INPUT: true; the input reads as it did. -/
def rangesTellsSpec : ChangeSpec := { name := "rangesTells", fn := fun _ => fun
  | [d1, d2, d3, d4] => { results := [.lit (.bool true)], args := [d1, d2, d3, d4] }
  | _ => none }
def rangesTellsRow : OpenClaim := { program := "ytpjohlcidmnikaa", sum := "0794827d7e990375323590371ced67c0e5fa27f5d819102f75e4da154c3824f3", func := "domino/dominolaw03.RangesTells", spec := "rangesTells", unfollowed := true, recurses := true, apart := false }
def RangesTellsSaid : Prop := rangesTellsRow.holds Try.pinned (OpenSpec.ofChange rangesTellsSpec)

/-- ITS FALSE NEIGHBOUR: 'it returns false'. Refute it at one input. -/
def rangesTellsWrong : ChangeSpec := { name := "rangesTells", fn := fun _ => fun
  | [d1, d2, d3, d4] => { results := [.lit (.bool false)], args := [d1, d2, d3, d4] }
  | _ => none }
def RangesTellsWrongFalsely : Prop := rangesTellsRow.holds Try.pinned (OpenSpec.ofChange rangesTellsWrong)

/-- 'dominolaw03.RangesSets': WHATEVER THE INPUT: true; the input reads as it did. -/
def rangesSetsSpec : ChangeSpec := { name := "rangesSets", fn := fun _ => fun
  | [d1, d2, d3, d4] => { results := [.lit (.bool true)], args := [d1, d2, d3, d4] }
  | _ => none }
def rangesSetsRow : OpenClaim := { program := "ytpjohlcidmnikaa", sum := "0794827d7e990375323590371ced67c0e5fa27f5d819102f75e4da154c3824f3", func := "domino/dominolaw03.RangesSets", spec := "rangesSets", unfollowed := true, recurses := true, apart := false }
def RangesSetsSaid : Prop := rangesSetsRow.holds Try.pinned (OpenSpec.ofChange rangesSetsSpec)

/-- ITS FALSE NEIGHBOUR: 'it returns false'. Refute it at one input. -/
def rangesSetsWrong : ChangeSpec := { name := "rangesSets", fn := fun _ => fun
  | [d1, d2, d3, d4] => { results := [.lit (.bool false)], args := [d1, d2, d3, d4] }
  | _ => none }
def RangesSetsWrongFalsely : Prop := rangesSetsRow.holds Try.pinned (OpenSpec.ofChange rangesSetsWrong)

/-- 'dominolaw03.RangesCounts': WHATEVER THE INPUT: true; the input reads as it did. -/
def rangesCountsSpec : ChangeSpec := { name := "rangesCounts", fn := fun _ => fun
  | [d1, d2] => { results := [.lit (.bool true)], args := [d1, d2] }
  | _ => none }
def rangesCountsRow : OpenClaim := { program := "ytpjohlcidmnikaa", sum := "0794827d7e990375323590371ced67c0e5fa27f5d819102f75e4da154c3824f3", func := "domino/dominolaw03.RangesCounts", spec := "rangesCounts", unfollowed := true, recurses := true, apart := false }
def RangesCountsSaid : Prop := rangesCountsRow.holds Try.pinned (OpenSpec.ofChange rangesCountsSpec)

/-- ITS FALSE NEIGHBOUR: 'it returns false'. Refute it at one input. -/
def rangesCountsWrong : ChangeSpec := { name := "rangesCounts", fn := fun _ => fun
  | [d1, d2] => { results := [.lit (.bool false)], args := [d1, d2] }
  | _ => none }
def RangesCountsWrongFalsely : Prop := rangesCountsRow.holds Try.pinned (OpenSpec.ofChange rangesCountsWrong)

/- THE SECOND FORM. 'bulk': how many values and letters a reading holds, each counted each time it is reached (what is shared counts as often as it is met; a slice's spare places count too). A statement '..UptoSaid' is the law's where the arguments, and the package variables that the reading takes, are together of bulk at most 1048576: NARROWER than '..Said'. Prove '..Said' where nothing that the law and all that it calls make is longer than what came in: it says more and counts as full. Else prove '..UptoSaid'. A law counts once. -/
mutual
def uptoBulk {H : Type} : DataW H → Nat
  | .lit (.string bytes) => bytes.length + 1
  | .lit _ => 1
  | .nil => 1
  | .ptr d => uptoBulk d + 1
  | .slice elems spare => uptoBulkAll elems + uptoBulkAll spare + 1
  | .agg parts => uptoBulkAll parts + 1
  | .iface _ d => uptoBulk d + 1
  | .map entries => uptoBulkEntries entries + 1
  | .held _ => 1
def uptoBulkAll {H : Type} : List (DataW H) → Nat
  | [] => 0
  | d :: r => uptoBulk d + uptoBulkAll r
def uptoBulkEntries {H : Type} : List (Lit × DataW H) → Nat
  | [] => 0
  | x :: r => uptoBulkEntry x + uptoBulkEntries r
def uptoBulkEntry {H : Type} : Lit × DataW H → Nat
  | (.string bytes, d) => bytes.length + uptoBulk d + 1
  | (_, d) => uptoBulk d + 1
 end
def uptoSmall : (H : Type) → List (DataW H) → Bool := fun _ ds => decide (uptoBulkAll ds ≤ 1048576)
def OpenSpec.upto (s : _root_.Go.ChangeSpec) : _root_.Go.OpenSpec := { _root_.Go.OpenSpec.ofChange s with cond := some uptoSmall }

/-- 'dominolaw03.RangesMay', WHERE WHAT IT READS IS OF BULK AT MOST 1048576: true; the input reads as it did. -/
def rangesMayUptoRow : OpenClaim := { program := "ytpjohlcidmnikaa", sum := "0794827d7e990375323590371ced67c0e5fa27f5d819102f75e4da154c3824f3", func := "domino/dominolaw03.RangesMay", spec := "rangesMay", unfollowed := true, recurses := true, apart := false, narrowed := true }
def RangesMayUptoSaid : Prop := rangesMayUptoRow.holds Try.pinned (OpenSpec.upto rangesMaySpec)

/-- 'dominolaw03.RangesOrder', WHERE WHAT IT READS IS OF BULK AT MOST 1048576: true; the input reads as it did. -/
def rangesOrderUptoRow : OpenClaim := { program := "ytpjohlcidmnikaa", sum := "0794827d7e990375323590371ced67c0e5fa27f5d819102f75e4da154c3824f3", func := "domino/dominolaw03.RangesOrder", spec := "rangesOrder", unfollowed := true, recurses := true, apart := false, narrowed := true }
def RangesOrderUptoSaid : Prop := rangesOrderUptoRow.holds Try.pinned (OpenSpec.upto rangesOrderSpec)

/-- 'dominolaw03.RangesAgain', WHERE WHAT IT READS IS OF BULK AT MOST 1048576: true; the input reads as it did. -/
def rangesAgainUptoRow : OpenClaim := { program := "ytpjohlcidmnikaa", sum := "0794827d7e990375323590371ced67c0e5fa27f5d819102f75e4da154c3824f3", func := "domino/dominolaw03.RangesAgain", spec := "rangesAgain", unfollowed := true, recurses := true, apart := false, narrowed := true }
def RangesAgainUptoSaid : Prop := rangesAgainUptoRow.holds Try.pinned (OpenSpec.upto rangesAgainSpec)

/-- 'dominolaw03.RangesParts', WHERE WHAT IT READS IS OF BULK AT MOST 1048576: true; the input reads as it did. -/
def rangesPartsUptoRow : OpenClaim := { program := "ytpjohlcidmnikaa", sum := "0794827d7e990375323590371ced67c0e5fa27f5d819102f75e4da154c3824f3", func := "domino/dominolaw03.RangesParts", spec := "rangesParts", unfollowed := true, recurses := true, apart := false, narrowed := true }
def RangesPartsUptoSaid : Prop := rangesPartsUptoRow.holds Try.pinned (OpenSpec.upto rangesPartsSpec)

/-- 'dominolaw03.RangesTells', WHERE WHAT IT READS IS OF BULK AT MOST 1048576: true; the input reads as it did. -/
def rangesTellsUptoRow : OpenClaim := { program := "ytpjohlcidmnikaa", sum := "0794827d7e990375323590371ced67c0e5fa27f5d819102f75e4da154c3824f3", func := "domino/dominolaw03.RangesTells", spec := "rangesTells", unfollowed := true, recurses := true, apart := false, narrowed := true }
def RangesTellsUptoSaid : Prop := rangesTellsUptoRow.holds Try.pinned (OpenSpec.upto rangesTellsSpec)

/-- 'dominolaw03.RangesSets', WHERE WHAT IT READS IS OF BULK AT MOST 1048576: true; the input reads as it did. -/
def rangesSetsUptoRow : OpenClaim := { program := "ytpjohlcidmnikaa", sum := "0794827d7e990375323590371ced67c0e5fa27f5d819102f75e4da154c3824f3", func := "domino/dominolaw03.RangesSets", spec := "rangesSets", unfollowed := true, recurses := true, apart := false, narrowed := true }
def RangesSetsUptoSaid : Prop := rangesSetsUptoRow.holds Try.pinned (OpenSpec.upto rangesSetsSpec)

/-- 'dominolaw03.RangesCounts', WHERE WHAT IT READS IS OF BULK AT MOST 1048576: true; the input reads as it did. -/
def rangesCountsUptoRow : OpenClaim := { program := "ytpjohlcidmnikaa", sum := "0794827d7e990375323590371ced67c0e5fa27f5d819102f75e4da154c3824f3", func := "domino/dominolaw03.RangesCounts", spec := "rangesCounts", unfollowed := true, recurses := true, apart := false, narrowed := true }
def RangesCountsUptoSaid : Prop := rangesCountsUptoRow.holds Try.pinned (OpenSpec.upto rangesCountsSpec)

end Rows
end Go.Proofs.Ytpjohlcidmnikaa
