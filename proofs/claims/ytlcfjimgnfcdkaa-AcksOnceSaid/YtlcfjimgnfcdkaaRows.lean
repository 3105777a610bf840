/-
  No cell of these rows narrows 'for every input' (looked for: loops, veiled, ifaces, maps, wideKeys, modest, calm, conditions, laid).
  DERIVED. THE GIVEN ROWS OF THIS SEAT. 4 by the template 'for every input the law returns true; each argument reads behind the call as it read before'; 0 by the template 'total and deterministic' (their statements: YtlcfjimgnfcdkaaTotals.lean).
  GIVEN WITH THE SEED: the statements are not yours to turn. If you find one false, say at which input.
  Laid BY PROGRAM, IN A SANDBOX (cutbox-rows.mjs): the forced cells as the released guide's own fill.sh prints them over the translation c2e279efc122588f… (all of the seat's roots in one cut). By AI agents, Wed Nov 11 2026. No macro, syntax, notation, axiom, sorry.
-/
import Derived.Test.YtlcfjimgnfcdkaaChecked
import GoSem.Claim
import GoSem.ClaimJoined
import GoSem.ClaimMapViews
import Derived.JoinedTies
import Derived.KernelRfl
namespace Go.Proofs.Ytlcfjimgnfcdkaa
/- THE CELL 'sum', in the pinned program and in every row, IS THE sha256 OF THE DUMP (.gsa) THAT YtlcfjimgnfcdkaaProg.lean LOADS. Nothing in Lean hashes anything: it is a label: what it is worth is what the hold of that sum in a sandbox is worth. -/
noncomputable def Try.pinned : Pinned := { name := "ytlcfjimgnfcdkaa", sum := "c2e279efc122588fa048500c7ef03fc774f07f18578a1784ab883e4733a511ee", checked := Try.checked }
namespace Rows
def none {H : Type} : Left H := { results := [], args := [] }

/-- 'dominolaw13.AcksAll': WHATEVER THE INPUT: true; the input reads as it did. -/
def acksAllSpec : ChangeSpec := { name := "acksAll", fn := fun _ => fun
  | [d1, d2] => { results := [.lit (.bool true)], args := [d1, d2] }
  | _ => none }
def acksAllRow : OpenClaim := { program := "ytlcfjimgnfcdkaa", sum := "c2e279efc122588fa048500c7ef03fc774f07f18578a1784ab883e4733a511ee", func := "domino/dominolaw13.AcksAll", spec := "acksAll", unfollowed := true, recurses := true, apart := false }
def AcksAllSaid : Prop := acksAllRow.holds Try.pinned (OpenSpec.ofChange acksAllSpec)

/-- ITS FALSE NEIGHBOUR: 'it returns false'. Refute it at one input. -/
def acksAllWrong : ChangeSpec := { name := "acksAll", fn := fun _ => fun
  | [d1, d2] => { results := [.lit (.bool false)], args := [d1, d2] }
  | _ => none }
def AcksAllWrongFalsely : Prop := acksAllRow.holds Try.pinned (OpenSpec.ofChange acksAllWrong)

/-- 'dominolaw13.AcksDue': WHATEVER THE INPUT: true; the input reads as it did. -/
def acksDueSpec : ChangeSpec := { name := "acksDue", fn := fun _ => fun
  | [d1, d2, d3] => { results := [.lit (.bool true)], args := [d1, d2, d3] }
  | _ => none }
def acksDueRow : OpenClaim := { program := "ytlcfjimgnfcdkaa", sum := "c2e279efc122588fa048500c7ef03fc774f07f18578a1784ab883e4733a511ee", func := "domino/dominolaw13.AcksDue", spec := "acksDue", unfollowed := true, recurses := true, apart := false }
def AcksDueSaid : Prop := acksDueRow.holds Try.pinned (OpenSpec.ofChange acksDueSpec)

/-- ITS FALSE NEIGHBOUR: 'it returns false'. Refute it at one input. -/
def acksDueWrong : ChangeSpec := { name := "acksDue", fn := fun _ => fun
  | [d1, d2, d3] => { results := [.lit (.bool false)], args := [d1, d2, d3] }
  | _ => none }
def AcksDueWrongFalsely : Prop := acksDueRow.holds Try.pinned (OpenSpec.ofChange acksDueWrong)

/-- 'dominolaw13.AcksFloor': WHATEVER THE INPUT: true; the input reads as it did. -/
def acksFloorSpec : ChangeSpec := { name := "acksFloor", fn := fun _ => fun
  | [d1, d2] => { results := [.lit (.bool true)], args := [d1, d2] }
  | _ => none }
def acksFloorRow : OpenClaim := { program := "ytlcfjimgnfcdkaa", sum := "c2e279efc122588fa048500c7ef03fc774f07f18578a1784ab883e4733a511ee", func := "domino/dominolaw13.AcksFloor", spec := "acksFloor", unfollowed := true, recurses := true, apart := false }
def AcksFloorSaid : Prop := acksFloorRow.holds Try.pinned (OpenSpec.ofChange acksFloorSpec)

/-- ITS FALSE NEIGHBOUR: 'it returns false'. Refute it at one input. -/
def acksFloorWrong : ChangeSpec := { name := "acksFloor", fn := fun _ => fun
  | [d1, d2] => { results := [.lit (.bool false)], args := [d1, d2] }
  | _ => none }
def AcksFloorWrongFalsely : Prop := acksFloorRow.holds Try.pinned (OpenSpec.ofChange acksFloorWrong)

/-- 'dominolaw13.AcksOnce': WHATEVER THE INPUT: true; the input reads as it did. -/
def acksOnceSpec : ChangeSpec := { name := "acksOnce", fn := fun _ => fun
  | [d] => { results := [.lit (.bool true)], args := [d] }
  | _ => none }
def acksOnceRow : OpenClaim := { program := "ytlcfjimgnfcdkaa", sum := "c2e279efc122588fa048500c7ef03fc774f07f18578a1784ab883e4733a511ee", func := "domino/dominolaw13.AcksOnce", spec := "acksOnce", unfollowed := true, recurses := true, apart := false }
def AcksOnceSaid : Prop := acksOnceRow.holds Try.pinned (OpenSpec.ofChange acksOnceSpec)

/-- ITS FALSE NEIGHBOUR: 'it returns false'. Refute it at one input. -/
def acksOnceWrong : ChangeSpec := { name := "acksOnce", fn := fun _ => fun
  | [d] => { results := [.lit (.bool false)], args := [d] }
  | _ => none }
def AcksOnceWrongFalsely : Prop := acksOnceRow.holds Try.pinned (OpenSpec.ofChange acksOnceWrong)

/- THE SECOND FORM. 'bulk': how many values and letters a reading holds, each counted each time it is reached (what is shared counts as often as it is met; a slice's spare places count too). A statement '..UptoSaid' is the law's where the arguments, and the package variables that the reading takes, are together of bulk at most 1048576: NARROWER than '..Said'. Prove '..Said' where nothing that the law and all that it calls make is longer than what came in: it says more and counts as full. Else prove '..UptoSaid'. A law counts once. -/
mutual
def uptoBulk {H : Type} : DataW H → Nat
  | .lit (.string bytes) => bytes.length + 1
  | .lit _ => 1
  | .nil => 1
  | .ptr d => uptoBulk d + 1
  | .slice elems spare => uptoBulkAll elems + uptoBulkAll spare + 1
  | .agg parts => uptoBulkAll parts + 1
  | .iface _ d => uptoBulk d + 1
  | .map entries => uptoBulkEntries entries + 1
  | .held _ => 1
def uptoBulkAll {H : Type} : List (DataW H) → Nat
  | [] => 0
  | d :: r => uptoBulk d + uptoBulkAll r
def uptoBulkEntries {H : Type} : List (Lit × DataW H) → Nat
  | [] => 0
  | x :: r => uptoBulkEntry x + uptoBulkEntries r
def uptoBulkEntry {H : Type} : Lit × DataW H → Nat
  | (.string bytes, d) => bytes.length + uptoBulk d + 1
  | (_, d) => uptoBulk d + 1
 end
def uptoSmall : (H : Type) → List (DataW H) → Bool := fun _ ds => decide (uptoBulkAll ds ≤ 1048576)
def OpenSpec.upto (s : _root_.Go.ChangeSpec) : _root_.Go.OpenSpec := { _root_.Go.OpenSpec.ofChange s with cond := some uptoSmall }

/-- 'dominolaw13.AcksAll', WHERE WHAT IT READS IS OF BULK AT MOST 1048576: true; the input reads as it did. -/
def acksAllUptoRow : OpenClaim := { program := "ytlcfjimgnfcdkaa", sum := "c2e279efc122588fa048500c7ef03fc774f07f18578a1784ab883e4733a511ee", func := "domino/dominolaw13.AcksAll", spec := "acksAll", unfollowed := true, recurses := true, apart := false, narrowed := true }
def AcksAllUptoSaid : Prop := acksAllUptoRow.holds Try.pinned (OpenSpec.upto acksAllSpec)

/-- 'dominolaw13.AcksDue', WHERE WHAT IT READS IS OF BULK AT MOST 1048576: true; the input reads as it did. -/
def acksDueUptoRow : OpenClaim := { program := "ytlcfjimgnfcdkaa", sum := "c2e279efc122588fa048500c7ef03fc774f07f18578a1784ab883e4733a511ee", func := "domino/dominolaw13.AcksDue", spec := "acksDue", unfollowed := true, recurses := true, apart := false, narrowed := true }
def AcksDueUptoSaid : Prop := acksDueUptoRow.holds Try.pinned (OpenSpec.upto acksDueSpec)

/-- 'dominolaw13.AcksFloor', WHERE WHAT IT READS IS OF BULK AT MOST 1048576: true; the input reads as it did. -/
def acksFloorUptoRow : OpenClaim := { program := "ytlcfjimgnfcdkaa", sum := "c2e279efc122588fa048500c7ef03fc774f07f18578a1784ab883e4733a511ee", func := "domino/dominolaw13.AcksFloor", spec := "acksFloor", unfollowed := true, recurses := true, apart := false, narrowed := true }
def AcksFloorUptoSaid : Prop := acksFloorUptoRow.holds Try.pinned (OpenSpec.upto acksFloorSpec)

/-- 'dominolaw13.AcksOnce', WHERE WHAT IT READS IS OF BULK AT MOST 1048576: true; the input reads as it did. -/
def acksOnceUptoRow : OpenClaim := { program := "ytlcfjimgnfcdkaa", sum := "c2e279efc122588fa048500c7ef03fc774f07f18578a1784ab883e4733a511ee", func := "domino/dominolaw13.AcksOnce", spec := "acksOnce", unfollowed := true, recurses := true, apart := false, narrowed := true }
def AcksOnceUptoSaid : Prop := acksOnceUptoRow.holds Try.pinned (OpenSpec.upto acksOnceSpec)

end Rows
end Go.Proofs.Ytlcfjimgnfcdkaa
