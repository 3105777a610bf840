/-
  No cell of these rows narrows 'for every input' (looked for: loops, veiled, ifaces, maps, wideKeys, modest, calm, conditions, laid).
  DERIVED. THE GIVEN ROWS OF THIS SEAT. 5 by the template 'for every input the law returns true; each argument reads behind the call as it read before'; 0 by the template 'total and deterministic' (their statements: YtocagkmnefkniaaTotals.lean).
  GIVEN WITH THE SEED: the statements are not yours to turn. If you find one false, say at which input.
  Laid BY PROGRAM, IN A SANDBOX (cutbox-rows.mjs): the forced cells as the released guide's own fill.sh prints them over the translation 9e8ebebf243e0c60… (all of the seat's roots in one cut). By AI agents, Wed Nov 11 2026. No macro, syntax, notation, axiom, sorry.
-/
import Derived.Test.YtocagkmnefkniaaChecked
import GoSem.Claim
import GoSem.ClaimJoined
import GoSem.ClaimMapViews
import Derived.JoinedTies
import Derived.KernelRfl
namespace Go.Proofs.Ytocagkmnefkniaa
/- THE CELL 'sum', in the pinned program and in every row, IS THE sha256 OF THE DUMP (.gsa) THAT YtocagkmnefkniaaProg.lean LOADS. Nothing in Lean hashes anything: it is a label: what it is worth is what the hold of that sum in a sandbox is worth. -/
noncomputable def Try.pinned : Pinned := { name := "ytocagkmnefkniaa", sum := "9e8ebebf243e0c60679bffceeb00b8b52dee1768d359b99ee5ffec6465a7ebb0", checked := Try.checked }
namespace Rows
def none {H : Type} : Left H := { results := [], args := [] }

/-- 'dominolaw15.SendqActs': WHATEVER THE INPUT: true; the input reads as it did. -/
def sendqActsSpec : ChangeSpec := { name := "sendqActs", fn := fun _ => fun
  | [d1, d2, d3] => { results := [.lit (.bool true)], args := [d1, d2, d3] }
  | _ => none }
def sendqActsRow : OpenClaim := { program := "ytocagkmnefkniaa", sum := "9e8ebebf243e0c60679bffceeb00b8b52dee1768d359b99ee5ffec6465a7ebb0", func := "domino/dominolaw15.SendqActs", spec := "sendqActs", unfollowed := true, recurses := true, apart := false }
def SendqActsSaid : Prop := sendqActsRow.holds Try.pinned (OpenSpec.ofChange sendqActsSpec)

/-- ITS FALSE NEIGHBOUR: 'it returns false'. Refute it at one input. -/
def sendqActsWrong : ChangeSpec := { name := "sendqActs", fn := fun _ => fun
  | [d1, d2, d3] => { results := [.lit (.bool false)], args := [d1, d2, d3] }
  | _ => none }
def SendqActsWrongFalsely : Prop := sendqActsRow.holds Try.pinned (OpenSpec.ofChange sendqActsWrong)

/-- 'dominolaw15.SendqAll': WHATEVER THE INPUT: true; the input reads as it did. -/
def sendqAllSpec : ChangeSpec := { name := "sendqAll", fn := fun _ => fun
  | [d1, d2] => { results := [.lit (.bool true)], args := [d1, d2] }
  | _ => none }
def sendqAllRow : OpenClaim := { program := "ytocagkmnefkniaa", sum := "9e8ebebf243e0c60679bffceeb00b8b52dee1768d359b99ee5ffec6465a7ebb0", func := "domino/dominolaw15.SendqAll", spec := "sendqAll", unfollowed := true, recurses := true, apart := false }
def SendqAllSaid : Prop := sendqAllRow.holds Try.pinned (OpenSpec.ofChange sendqAllSpec)

/-- ITS FALSE NEIGHBOUR: 'it returns false'. Refute it at one input. -/
def sendqAllWrong : ChangeSpec := { name := "sendqAll", fn := fun _ => fun
  | [d1, d2] => { results := [.lit (.bool false)], args := [d1, d2] }
  | _ => none }
def SendqAllWrongFalsely : Prop := sendqAllRow.holds Try.pinned (OpenSpec.ofChange sendqAllWrong)

/-- 'dominolaw15.SendqCredit': WHATEVER THE INPUT: true; the input reads as it did. -/
def sendqCreditSpec : ChangeSpec := { name := "sendqCredit", fn := fun _ => fun
  | [d1, d2, d3] => { results := [.lit (.bool true)], args := [d1, d2, d3] }
  | _ => none }
def sendqCreditRow : OpenClaim := { program := "ytocagkmnefkniaa", sum := "9e8ebebf243e0c60679bffceeb00b8b52dee1768d359b99ee5ffec6465a7ebb0", func := "domino/dominolaw15.SendqCredit", spec := "sendqCredit", unfollowed := true, recurses := true, apart := false }
def SendqCreditSaid : Prop := sendqCreditRow.holds Try.pinned (OpenSpec.ofChange sendqCreditSpec)

/-- ITS FALSE NEIGHBOUR: 'it returns false'. Refute it at one input. -/
def sendqCreditWrong : ChangeSpec := { name := "sendqCredit", fn := fun _ => fun
  | [d1, d2, d3] => { results := [.lit (.bool false)], args := [d1, d2, d3] }
  | _ => none }
def SendqCreditWrongFalsely : Prop := sendqCreditRow.holds Try.pinned (OpenSpec.ofChange sendqCreditWrong)

/-- 'dominolaw15.SendqEnd': WHATEVER THE INPUT: true; the input reads as it did. -/
def sendqEndSpec : ChangeSpec := { name := "sendqEnd", fn := fun _ => fun
  | [d1, d2, d3] => { results := [.lit (.bool true)], args := [d1, d2, d3] }
  | _ => none }
def sendqEndRow : OpenClaim := { program := "ytocagkmnefkniaa", sum := "9e8ebebf243e0c60679bffceeb00b8b52dee1768d359b99ee5ffec6465a7ebb0", func := "domino/dominolaw15.SendqEnd", spec := "sendqEnd", unfollowed := true, recurses := true, apart := false }
def SendqEndSaid : Prop := sendqEndRow.holds Try.pinned (OpenSpec.ofChange sendqEndSpec)

/-- ITS FALSE NEIGHBOUR: 'it returns false'. Refute it at one input. -/
def sendqEndWrong : ChangeSpec := { name := "sendqEnd", fn := fun _ => fun
  | [d1, d2, d3] => { results := [.lit (.bool false)], args := [d1, d2, d3] }
  | _ => none }
def SendqEndWrongFalsely : Prop := sendqEndRow.holds Try.pinned (OpenSpec.ofChange sendqEndWrong)

/-- 'dominolaw15.SendqWrites': WHATEVER THE INPUT: true; the input reads as it did. -/
def sendqWritesSpec : ChangeSpec := { name := "sendqWrites", fn := fun _ => fun
  | [d1, d2, d3] => { results := [.lit (.bool true)], args := [d1, d2, d3] }
  | _ => none }
def sendqWritesRow : OpenClaim := { program := "ytocagkmnefkniaa", sum := "9e8ebebf243e0c60679bffceeb00b8b52dee1768d359b99ee5ffec6465a7ebb0", func := "domino/dominolaw15.SendqWrites", spec := "sendqWrites", unfollowed := true, recurses := true, apart := false }
def SendqWritesSaid : Prop := sendqWritesRow.holds Try.pinned (OpenSpec.ofChange sendqWritesSpec)

/-- ITS FALSE NEIGHBOUR: 'it returns false'. Refute it at one input. -/
def sendqWritesWrong : ChangeSpec := { name := "sendqWrites", fn := fun _ => fun
  | [d1, d2, d3] => { results := [.lit (.bool false)], args := [d1, d2, d3] }
  | _ => none }
def SendqWritesWrongFalsely : Prop := sendqWritesRow.holds Try.pinned (OpenSpec.ofChange sendqWritesWrong)

/- THE SECOND FORM. 'bulk': how many values and letters a reading holds, each counted each time it is reached (what is shared counts as often as it is met; a slice's spare places count too). A statement '..UptoSaid' is the law's where the arguments, and the package variables that the reading takes, are together of bulk at most 1048576: NARROWER than '..Said'. Prove '..Said' where nothing that the law and all that it calls make is longer than what came in: it says more and counts as full. Else prove '..UptoSaid'. A law counts once. -/
mutual
def uptoBulk {H : Type} : DataW H → Nat
  | .lit (.string bytes) => bytes.length + 1
  | .lit _ => 1
  | .nil => 1
  | .ptr d => uptoBulk d + 1
  | .slice elems spare => uptoBulkAll elems + uptoBulkAll spare + 1
  | .agg parts => uptoBulkAll parts + 1
  | .iface _ d => uptoBulk d + 1
  | .map entries => uptoBulkEntries entries + 1
  | .held _ => 1
def uptoBulkAll {H : Type} : List (DataW H) → Nat
  | [] => 0
  | d :: r => uptoBulk d + uptoBulkAll r
def uptoBulkEntries {H : Type} : List (Lit × DataW H) → Nat
  | [] => 0
  | x :: r => uptoBulkEntry x + uptoBulkEntries r
def uptoBulkEntry {H : Type} : Lit × DataW H → Nat
  | (.string bytes, d) => bytes.length + uptoBulk d + 1
  | (_, d) => uptoBulk d + 1
 end
def uptoSmall : (H : Type) → List (DataW H) → Bool := fun _ ds => decide (uptoBulkAll ds ≤ 1048576)
def OpenSpec.upto (s : _root_.Go.ChangeSpec) : _root_.Go.OpenSpec := { _root_.Go.OpenSpec.ofChange s with cond := some uptoSmall }

/-- 'dominolaw15.SendqActs', WHERE WHAT IT READS IS OF BULK AT MOST 1048576: true; the input reads as it did. -/
def sendqActsUptoRow : OpenClaim := { program := "ytocagkmnefkniaa", sum := "9e8ebebf243e0c60679bffceeb00b8b52dee1768d359b99ee5ffec6465a7ebb0", func := "domino/dominolaw15.SendqActs", spec := "sendqActs", unfollowed := true, recurses := true, apart := false, narrowed := true }
def SendqActsUptoSaid : Prop := sendqActsUptoRow.holds Try.pinned (OpenSpec.upto sendqActsSpec)

/-- 'dominolaw15.SendqAll', WHERE WHAT IT READS IS OF BULK AT MOST 1048576: true; the input reads as it did. -/
def sendqAllUptoRow : OpenClaim := { program := "ytocagkmnefkniaa", sum := "9e8ebebf243e0c60679bffceeb00b8b52dee1768d359b99ee5ffec6465a7ebb0", func := "domino/dominolaw15.SendqAll", spec := "sendqAll", unfollowed := true, recurses := true, apart := false, narrowed := true }
def SendqAllUptoSaid : Prop := sendqAllUptoRow.holds Try.pinned (OpenSpec.upto sendqAllSpec)

/-- 'dominolaw15.SendqCredit', WHERE WHAT IT READS IS OF BULK AT MOST 1048576: true; the input reads as it did. -/
def sendqCreditUptoRow : OpenClaim := { program := "ytocagkmnefkniaa", sum := "9e8ebebf243e0c60679bffceeb00b8b52dee1768d359b99ee5ffec6465a7ebb0", func := "domino/dominolaw15.SendqCredit", spec := "sendqCredit", unfollowed := true, recurses := true, apart := false, narrowed := true }
def SendqCreditUptoSaid : Prop := sendqCreditUptoRow.holds Try.pinned (OpenSpec.upto sendqCreditSpec)

/-- 'dominolaw15.SendqEnd', WHERE WHAT IT READS IS OF BULK AT MOST 1048576: true; the input reads as it did. -/
def sendqEndUptoRow : OpenClaim := { program := "ytocagkmnefkniaa", sum := "9e8ebebf243e0c60679bffceeb00b8b52dee1768d359b99ee5ffec6465a7ebb0", func := "domino/dominolaw15.SendqEnd", spec := "sendqEnd", unfollowed := true, recurses := true, apart := false, narrowed := true }
def SendqEndUptoSaid : Prop := sendqEndUptoRow.holds Try.pinned (OpenSpec.upto sendqEndSpec)

/-- 'dominolaw15.SendqWrites', WHERE WHAT IT READS IS OF BULK AT MOST 1048576: true; the input reads as it did. -/
def sendqWritesUptoRow : OpenClaim := { program := "ytocagkmnefkniaa", sum := "9e8ebebf243e0c60679bffceeb00b8b52dee1768d359b99ee5ffec6465a7ebb0", func := "domino/dominolaw15.SendqWrites", spec := "sendqWrites", unfollowed := true, recurses := true, apart := false, narrowed := true }
def SendqWritesUptoSaid : Prop := sendqWritesUptoRow.holds Try.pinned (OpenSpec.upto sendqWritesSpec)

end Rows
end Go.Proofs.Ytocagkmnefkniaa
