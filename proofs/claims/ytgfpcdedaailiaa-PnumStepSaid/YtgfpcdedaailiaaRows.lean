/-
  No cell of these rows narrows 'for every input' (looked for: loops, veiled, ifaces, maps, wideKeys, modest, calm, conditions, laid).
  DERIVED. THE GIVEN ROWS OF THIS SEAT. 7 by the template 'for every input the law returns true; each argument reads behind the call as it read before'; 0 by the template 'total and deterministic' (their statements: YtgfpcdedaailiaaTotals.lean).
  GIVEN WITH THE SEED: the statements are not yours to turn. If you find one false, say at which input.
  Laid BY PROGRAM, IN A SANDBOX (cutbox-rows.mjs): the forced cells as the released guide's own fill.sh prints them over the translation c94fe8a68cc3dca0… (all of the seat's roots in one cut). By AI agents, Wed Nov 11 2026. No macro, syntax, notation, axiom, sorry.
-/
import Derived.Test.YtgfpcdedaailiaaChecked
import GoSem.Claim
import GoSem.ClaimJoined
import GoSem.ClaimMapViews
import Derived.JoinedTies
import Derived.KernelRfl
namespace Go.Proofs.Ytgfpcdedaailiaa
/- THE CELL 'sum', in the pinned program and in every row, IS THE sha256 OF THE DUMP (.gsa) THAT YtgfpcdedaailiaaProg.lean LOADS. Nothing in Lean hashes anything: it is a label: what it is worth is what the hold of that sum in a sandbox is worth. -/
noncomputable def Try.pinned : Pinned := { name := "ytgfpcdedaailiaa", sum := "c94fe8a68cc3dca0e120287e986e5519a0233da9fb37f3354043734c6114178e", checked := Try.checked }
namespace Rows
def none {H : Type} : Left H := { results := [], args := [] }

/-- 'dominolaw02.PnumTells': WHATEVER THE INPUT: true; the input reads as it did. -/
def pnumTellsSpec : ChangeSpec := { name := "pnumTells", fn := fun _ => fun
  | [d1, d2, d3, d4, d5] => { results := [.lit (.bool true)], args := [d1, d2, d3, d4, d5] }
  | _ => none }
def pnumTellsRow : OpenClaim := { program := "ytgfpcdedaailiaa", sum := "c94fe8a68cc3dca0e120287e986e5519a0233da9fb37f3354043734c6114178e", func := "domino/dominolaw02.PnumTells", spec := "pnumTells", apart := false }
def PnumTellsSaid : Prop := pnumTellsRow.holds Try.pinned (OpenSpec.ofChange pnumTellsSpec)

/-- ITS FALSE NEIGHBOUR: 'it returns false'. Refute it at one input. -/
def pnumTellsWrong : ChangeSpec := { name := "pnumTells", fn := fun _ => fun
  | [d1, d2, d3, d4, d5] => { results := [.lit (.bool false)], args := [d1, d2, d3, d4, d5] }
  | _ => none }
def PnumTellsWrongFalsely : Prop := pnumTellsRow.holds Try.pinned (OpenSpec.ofChange pnumTellsWrong)

/-- 'dominolaw02.PnumBack': WHATEVER THE INPUT: true; the input reads as it did. -/
def pnumBackSpec : ChangeSpec := { name := "pnumBack", fn := fun _ => fun
  | [d1, d2, d3, d4] => { results := [.lit (.bool true)], args := [d1, d2, d3, d4] }
  | _ => none }
def pnumBackRow : OpenClaim := { program := "ytgfpcdedaailiaa", sum := "c94fe8a68cc3dca0e120287e986e5519a0233da9fb37f3354043734c6114178e", func := "domino/dominolaw02.PnumBack", spec := "pnumBack", apart := false }
def PnumBackSaid : Prop := pnumBackRow.holds Try.pinned (OpenSpec.ofChange pnumBackSpec)

/-- ITS FALSE NEIGHBOUR: 'it returns false'. Refute it at one input. -/
def pnumBackWrong : ChangeSpec := { name := "pnumBack", fn := fun _ => fun
  | [d1, d2, d3, d4] => { results := [.lit (.bool false)], args := [d1, d2, d3, d4] }
  | _ => none }
def PnumBackWrongFalsely : Prop := pnumBackRow.holds Try.pinned (OpenSpec.ofChange pnumBackWrong)

/-- 'dominolaw02.PnumNear': WHATEVER THE INPUT: true; the input reads as it did. -/
def pnumNearSpec : ChangeSpec := { name := "pnumNear", fn := fun _ => fun
  | [d1, d2, d3] => { results := [.lit (.bool true)], args := [d1, d2, d3] }
  | _ => none }
def pnumNearRow : OpenClaim := { program := "ytgfpcdedaailiaa", sum := "c94fe8a68cc3dca0e120287e986e5519a0233da9fb37f3354043734c6114178e", func := "domino/dominolaw02.PnumNear", spec := "pnumNear", apart := false }
def PnumNearSaid : Prop := pnumNearRow.holds Try.pinned (OpenSpec.ofChange pnumNearSpec)

/-- ITS FALSE NEIGHBOUR: 'it returns false'. Refute it at one input. -/
def pnumNearWrong : ChangeSpec := { name := "pnumNear", fn := fun _ => fun
  | [d1, d2, d3] => { results := [.lit (.bool false)], args := [d1, d2, d3] }
  | _ => none }
def PnumNearWrongFalsely : Prop := pnumNearRow.holds Try.pinned (OpenSpec.ofChange pnumNearWrong)

/-- 'dominolaw02.PnumWide': WHATEVER THE INPUT: true; the input reads as it did. -/
def pnumWideSpec : ChangeSpec := { name := "pnumWide", fn := fun _ => fun
  | [d1, d2, d3] => { results := [.lit (.bool true)], args := [d1, d2, d3] }
  | _ => none }
def pnumWideRow : OpenClaim := { program := "ytgfpcdedaailiaa", sum := "c94fe8a68cc3dca0e120287e986e5519a0233da9fb37f3354043734c6114178e", func := "domino/dominolaw02.PnumWide", spec := "pnumWide", apart := false }
def PnumWideSaid : Prop := pnumWideRow.holds Try.pinned (OpenSpec.ofChange pnumWideSpec)

/-- ITS FALSE NEIGHBOUR: 'it returns false'. Refute it at one input. -/
def pnumWideWrong : ChangeSpec := { name := "pnumWide", fn := fun _ => fun
  | [d1, d2, d3] => { results := [.lit (.bool false)], args := [d1, d2, d3] }
  | _ => none }
def PnumWideWrongFalsely : Prop := pnumWideRow.holds Try.pinned (OpenSpec.ofChange pnumWideWrong)

/-- 'dominolaw02.PnumCuts': WHATEVER THE INPUT: true; the input reads as it did. -/
def pnumCutsSpec : ChangeSpec := { name := "pnumCuts", fn := fun _ => fun
  | [d1, d2] => { results := [.lit (.bool true)], args := [d1, d2] }
  | _ => none }
def pnumCutsRow : OpenClaim := { program := "ytgfpcdedaailiaa", sum := "c94fe8a68cc3dca0e120287e986e5519a0233da9fb37f3354043734c6114178e", func := "domino/dominolaw02.PnumCuts", spec := "pnumCuts", apart := false }
def PnumCutsSaid : Prop := pnumCutsRow.holds Try.pinned (OpenSpec.ofChange pnumCutsSpec)

/-- ITS FALSE NEIGHBOUR: 'it returns false'. Refute it at one input. -/
def pnumCutsWrong : ChangeSpec := { name := "pnumCuts", fn := fun _ => fun
  | [d1, d2] => { results := [.lit (.bool false)], args := [d1, d2] }
  | _ => none }
def PnumCutsWrongFalsely : Prop := pnumCutsRow.holds Try.pinned (OpenSpec.ofChange pnumCutsWrong)

/-- 'dominolaw02.PnumFirst': WHATEVER THE INPUT: true; the input reads as it did. -/
def pnumFirstSpec : ChangeSpec := { name := "pnumFirst", fn := fun _ => fun
  | [d] => { results := [.lit (.bool true)], args := [d] }
  | _ => none }
def pnumFirstRow : OpenClaim := { program := "ytgfpcdedaailiaa", sum := "c94fe8a68cc3dca0e120287e986e5519a0233da9fb37f3354043734c6114178e", func := "domino/dominolaw02.PnumFirst", spec := "pnumFirst", apart := false }
def PnumFirstSaid : Prop := pnumFirstRow.holds Try.pinned (OpenSpec.ofChange pnumFirstSpec)

/-- ITS FALSE NEIGHBOUR: 'it returns false'. Refute it at one input. -/
def pnumFirstWrong : ChangeSpec := { name := "pnumFirst", fn := fun _ => fun
  | [d] => { results := [.lit (.bool false)], args := [d] }
  | _ => none }
def PnumFirstWrongFalsely : Prop := pnumFirstRow.holds Try.pinned (OpenSpec.ofChange pnumFirstWrong)

/-- 'dominolaw02.PnumStep': WHATEVER THE INPUT: true; the input reads as it did. -/
def pnumStepSpec : ChangeSpec := { name := "pnumStep", fn := fun _ => fun
  | [d1, d2, d3] => { results := [.lit (.bool true)], args := [d1, d2, d3] }
  | _ => none }
def pnumStepRow : OpenClaim := { program := "ytgfpcdedaailiaa", sum := "c94fe8a68cc3dca0e120287e986e5519a0233da9fb37f3354043734c6114178e", func := "domino/dominolaw02.PnumStep", spec := "pnumStep", apart := false }
def PnumStepSaid : Prop := pnumStepRow.holds Try.pinned (OpenSpec.ofChange pnumStepSpec)

/-- ITS FALSE NEIGHBOUR: 'it returns false'. Refute it at one input. -/
def pnumStepWrong : ChangeSpec := { name := "pnumStep", fn := fun _ => fun
  | [d1, d2, d3] => { results := [.lit (.bool false)], args := [d1, d2, d3] }
  | _ => none }
def PnumStepWrongFalsely : Prop := pnumStepRow.holds Try.pinned (OpenSpec.ofChange pnumStepWrong)

/- THE SECOND FORM. 'bulk': how many values and letters a reading holds, each counted each time it is reached (what is shared counts as often as it is met; a slice's spare places count too). A statement '..UptoSaid' is the law's where the arguments, and the package variables that the reading takes, are together of bulk at most 1048576: NARROWER than '..Said'. Prove '..Said' where nothing that the law and all that it calls make is longer than what came in: it says more and counts as full. Else prove '..UptoSaid'. A law counts once. -/
mutual
def uptoBulk {H : Type} : DataW H → Nat
  | .lit (.string bytes) => bytes.length + 1
  | .lit _ => 1
  | .nil => 1
  | .ptr d => uptoBulk d + 1
  | .slice elems spare => uptoBulkAll elems + uptoBulkAll spare + 1
  | .agg parts => uptoBulkAll parts + 1
  | .iface _ d => uptoBulk d + 1
  | .map entries => uptoBulkEntries entries + 1
  | .held _ => 1
def uptoBulkAll {H : Type} : List (DataW H) → Nat
  | [] => 0
  | d :: r => uptoBulk d + uptoBulkAll r
def uptoBulkEntries {H : Type} : List (Lit × DataW H) → Nat
  | [] => 0
  | x :: r => uptoBulkEntry x + uptoBulkEntries r
def uptoBulkEntry {H : Type} : Lit × DataW H → Nat
  | (.string bytes, d) => bytes.length + uptoBulk d + 1
  | (_, d) => uptoBulk d + 1
 end
def uptoSmall : (H : Type) → List (DataW H) → Bool := fun _ ds => decide (uptoBulkAll ds ≤ 1048576)
def OpenSpec.upto (s : _root_.Go.ChangeSpec) : _root_.Go.OpenSpec := { _root_.Go.OpenSpec.ofChange s with cond := some uptoSmall }

/-- 'dominolaw02.PnumTells', WHERE WHAT IT READS IS OF BULK AT MOST 1048576: true; the input reads as it did. -/
def pnumTellsUptoRow : OpenClaim := { program := "ytgfpcdedaailiaa", sum := "c94fe8a68cc3dca0e120287e986e5519a0233da9fb37f3354043734c6114178e", func := "domino/dominolaw02.PnumTells", spec := "pnumTells", apart := false, narrowed := true }
def PnumTellsUptoSaid : Prop := pnumTellsUptoRow.holds Try.pinned (OpenSpec.upto pnumTellsSpec)

/-- 'dominolaw02.PnumBack', WHERE WHAT IT READS IS OF BULK AT MOST 1048576: true; the input reads as it did. -/
def pnumBackUptoRow : OpenClaim := { program := "ytgfpcdedaailiaa", sum := "c94fe8a68cc3dca0e120287e986e5519a0233da9fb37f3354043734c6114178e", func := "domino/dominolaw02.PnumBack", spec := "pnumBack", apart := false, narrowed := true }
def PnumBackUptoSaid : Prop := pnumBackUptoRow.holds Try.pinned (OpenSpec.upto pnumBackSpec)

/-- 'dominolaw02.PnumNear', WHERE WHAT IT READS IS OF BULK AT MOST 1048576: true; the input reads as it did. -/
def pnumNearUptoRow : OpenClaim := { program := "ytgfpcdedaailiaa", sum := "c94fe8a68cc3dca0e120287e986e5519a0233da9fb37f3354043734c6114178e", func := "domino/dominolaw02.PnumNear", spec := "pnumNear", apart := false, narrowed := true }
def PnumNearUptoSaid : Prop := pnumNearUptoRow.holds Try.pinned (OpenSpec.upto pnumNearSpec)

/-- 'dominolaw02.PnumWide', WHERE WHAT IT READS IS OF BULK AT MOST 1048576: true; the input reads as it did. -/
def pnumWideUptoRow : OpenClaim := { program := "ytgfpcdedaailiaa", sum := "c94fe8a68cc3dca0e120287e986e5519a0233da9fb37f3354043734c6114178e", func := "domino/dominolaw02.PnumWide", spec := "pnumWide", apart := false, narrowed := true }
def PnumWideUptoSaid : Prop := pnumWideUptoRow.holds Try.pinned (OpenSpec.upto pnumWideSpec)

/-- 'dominolaw02.PnumCuts', WHERE WHAT IT READS IS OF BULK AT MOST 1048576: true; the input reads as it did. -/
def pnumCutsUptoRow : OpenClaim := { program := "ytgfpcdedaailiaa", sum := "c94fe8a68cc3dca0e120287e986e5519a0233da9fb37f3354043734c6114178e", func := "domino/dominolaw02.PnumCuts", spec := "pnumCuts", apart := false, narrowed := true }
def PnumCutsUptoSaid : Prop := pnumCutsUptoRow.holds Try.pinned (OpenSpec.upto pnumCutsSpec)

/-- 'dominolaw02.PnumFirst', WHERE WHAT IT READS IS OF BULK AT MOST 1048576: true; the input reads as it did. -/
def pnumFirstUptoRow : OpenClaim := { program := "ytgfpcdedaailiaa", sum := "c94fe8a68cc3dca0e120287e986e5519a0233da9fb37f3354043734c6114178e", func := "domino/dominolaw02.PnumFirst", spec := "pnumFirst", apart := false, narrowed := true }
def PnumFirstUptoSaid : Prop := pnumFirstUptoRow.holds Try.pinned (OpenSpec.upto pnumFirstSpec)

/-- 'dominolaw02.PnumStep', WHERE WHAT IT READS IS OF BULK AT MOST 1048576: true; the input reads as it did. -/
def pnumStepUptoRow : OpenClaim := { program := "ytgfpcdedaailiaa", sum := "c94fe8a68cc3dca0e120287e986e5519a0233da9fb37f3354043734c6114178e", func := "domino/dominolaw02.PnumStep", spec := "pnumStep", apart := false, narrowed := true }
def PnumStepUptoSaid : Prop := pnumStepUptoRow.holds Try.pinned (OpenSpec.upto pnumStepSpec)

end Rows
end Go.Proofs.Ytgfpcdedaailiaa
