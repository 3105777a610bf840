/-
  NARROWER THAN 'FOR EVERY INPUT', by the rows' own cells (each row's printed sentence says how): HeaderTells: laid · HeaderBack: laid · HeaderMasks: laid · HeaderUnmasks: laid · HeaderBits: laid · HeaderZero: laid · HeaderFew: laid.
  DERIVED. THE GIVEN ROWS OF THIS SEAT. 7 by the template 'for every input the law returns true; each argument reads behind the call as it read before'; 0 by the template 'total and deterministic' (their statements: YtjpafikgbnloaaaDoorTotals.lean).
  GIVEN WITH THE SEED: the statements are not yours to turn. If you find one false, say at which input.
  Laid BY PROGRAM, IN A SANDBOX (cutbox-rows.mjs): the forced cells as the released guide's own fill.sh prints them over the translation 922ebaf51a987125… (all of the seat's roots in one cut). By AI agents, Wed Nov 11 2026. No macro, syntax, notation, axiom, sorry.
-/
import Derived.Test.YtjpafikgbnloaaaDoorChecked
import GoSem.Claim
import GoSem.ClaimJoined
import GoSem.ClaimMapViews
import Derived.JoinedTies
import Derived.KernelRfl
namespace Go.Proofs.YtjpafikgbnloaaaDoor
/- THE CELL 'sum', in the pinned program and in every row, IS THE sha256 OF THE DUMP (.gsa) THAT YtjpafikgbnloaaaDoorProg.lean LOADS. Nothing in Lean hashes anything: it is a label: what it is worth is what the hold of that sum in a sandbox is worth. -/
noncomputable def Tryd.pinned : Pinned := { name := "ytjpafikgbnloaaadoor", sum := "922ebaf51a987125fe202e776affdd77924aefe91c931320f2207d0772522a93", checked := Tryd.checked }
namespace Rows
def none {H : Type} : Left H := { results := [], args := [] }

/- WHAT THE LISTED PACKAGE-LEVEL VARIABLES READ AS WHEN THE CALL BEGINS. Each datum BY PROGRAM (the guide's laid-datum.mjs) off the statement by which the dump's own 'gosem.cut.vars' lays the variable. In a bare row this is a premise. The card (YtjpafikgbnloaaaDoorCards.lean) ties it to the program's text. -/
def laid_math_bits_deBruijn32tab {H : Type} : DataW H := .agg [.lit (.int .u8 0), .lit (.int .u8 1), .lit (.int .u8 28), .lit (.int .u8 2), .lit (.int .u8 29), .lit (.int .u8 14), .lit (.int .u8 24), .lit (.int .u8 3), .lit (.int .u8 30), .lit (.int .u8 22), .lit (.int .u8 20), .lit (.int .u8 15), .lit (.int .u8 25), .lit (.int .u8 17), .lit (.int .u8 4), .lit (.int .u8 8), .lit (.int .u8 31), .lit (.int .u8 27), .lit (.int .u8 13), .lit (.int .u8 23), .lit (.int .u8 21), .lit (.int .u8 19), .lit (.int .u8 16), .lit (.int .u8 7), .lit (.int .u8 26), .lit (.int .u8 12), .lit (.int .u8 18), .lit (.int .u8 6), .lit (.int .u8 11), .lit (.int .u8 5), .lit (.int .u8 10), .lit (.int .u8 9)]
def laid_math_bits_deBruijn64tab {H : Type} : DataW H := .agg [.lit (.int .u8 0), .lit (.int .u8 1), .lit (.int .u8 56), .lit (.int .u8 2), .lit (.int .u8 57), .lit (.int .u8 49), .lit (.int .u8 28), .lit (.int .u8 3), .lit (.int .u8 61), .lit (.int .u8 58), .lit (.int .u8 42), .lit (.int .u8 50), .lit (.int .u8 38), .lit (.int .u8 29), .lit (.int .u8 17), .lit (.int .u8 4), .lit (.int .u8 62), .lit (.int .u8 47), .lit (.int .u8 59), .lit (.int .u8 36), .lit (.int .u8 45), .lit (.int .u8 43), .lit (.int .u8 51), .lit (.int .u8 22), .lit (.int .u8 53), .lit (.int .u8 39), .lit (.int .u8 33), .lit (.int .u8 30), .lit (.int .u8 24), .lit (.int .u8 18), .lit (.int .u8 12), .lit (.int .u8 5), .lit (.int .u8 63), .lit (.int .u8 55), .lit (.int .u8 48), .lit (.int .u8 27), .lit (.int .u8 60), .lit (.int .u8 41), .lit (.int .u8 37), .lit (.int .u8 16), .lit (.int .u8 46), .lit (.int .u8 35), .lit (.int .u8 44), .lit (.int .u8 21), .lit (.int .u8 52), .lit (.int .u8 32), .lit (.int .u8 23), .lit (.int .u8 11), .lit (.int .u8 54), .lit (.int .u8 26), .lit (.int .u8 40), .lit (.int .u8 15), .lit (.int .u8 34), .lit (.int .u8 20), .lit (.int .u8 31), .lit (.int .u8 10), .lit (.int .u8 25), .lit (.int .u8 14), .lit (.int .u8 19), .lit (.int .u8 9), .lit (.int .u8 13), .lit (.int .u8 8), .lit (.int .u8 7), .lit (.int .u8 6)]

/-- 'dominolaw04.HeaderTells': WHATEVER THE INPUT: true; the input reads as it did. -/
def headerTellsSpec : ChangeSpec := { name := "headerTells", fn := fun _ => fun
  | [d1, d2] => { results := [.lit (.bool true)], args := [d1, d2] }
  | _ => none }
def headerTellsRow : OpenClaim := { program := "ytjpafikgbnloaaadoor", sum := "922ebaf51a987125fe202e776affdd77924aefe91c931320f2207d0772522a93", func := "domino/dominolaw04.HeaderTells", spec := "headerTells", named := ["math/bits.deBruijn32tab", "math/bits.deBruijn64tab"], apart := false, laid := [("math/bits.deBruijn32tab", laid_math_bits_deBruijn32tab), ("math/bits.deBruijn64tab", laid_math_bits_deBruijn64tab)] }
def HeaderTellsSaid : Prop := headerTellsRow.holds Tryd.pinned (OpenSpec.ofChange headerTellsSpec)

/-- ITS FALSE NEIGHBOUR: 'it returns false'. Refute it at one input. -/
def headerTellsWrong : ChangeSpec := { name := "headerTells", fn := fun _ => fun
  | [d1, d2] => { results := [.lit (.bool false)], args := [d1, d2] }
  | _ => none }
def HeaderTellsWrongFalsely : Prop := headerTellsRow.holds Tryd.pinned (OpenSpec.ofChange headerTellsWrong)

/-- 'dominolaw04.HeaderBack': WHATEVER THE INPUT: true; the input reads as it did. -/
def headerBackSpec : ChangeSpec := { name := "headerBack", fn := fun _ => fun
  | [d1, d2] => { results := [.lit (.bool true)], args := [d1, d2] }
  | _ => none }
def headerBackRow : OpenClaim := { program := "ytjpafikgbnloaaadoor", sum := "922ebaf51a987125fe202e776affdd77924aefe91c931320f2207d0772522a93", func := "domino/dominolaw04.HeaderBack", spec := "headerBack", named := ["math/bits.deBruijn32tab", "math/bits.deBruijn64tab"], apart := false, laid := [("math/bits.deBruijn32tab", laid_math_bits_deBruijn32tab), ("math/bits.deBruijn64tab", laid_math_bits_deBruijn64tab)] }
def HeaderBackSaid : Prop := headerBackRow.holds Tryd.pinned (OpenSpec.ofChange headerBackSpec)

/-- ITS FALSE NEIGHBOUR: 'it returns false'. Refute it at one input. -/
def headerBackWrong : ChangeSpec := { name := "headerBack", fn := fun _ => fun
  | [d1, d2] => { results := [.lit (.bool false)], args := [d1, d2] }
  | _ => none }
def HeaderBackWrongFalsely : Prop := headerBackRow.holds Tryd.pinned (OpenSpec.ofChange headerBackWrong)

/-- 'dominolaw04.HeaderMasks': WHATEVER THE INPUT: true; the input reads as it did. -/
def headerMasksSpec : ChangeSpec := { name := "headerMasks", fn := fun _ => fun
  | [d1, d2] => { results := [.lit (.bool true)], args := [d1, d2] }
  | _ => none }
def headerMasksRow : OpenClaim := { program := "ytjpafikgbnloaaadoor", sum := "922ebaf51a987125fe202e776affdd77924aefe91c931320f2207d0772522a93", func := "domino/dominolaw04.HeaderMasks", spec := "headerMasks", named := ["math/bits.deBruijn32tab", "math/bits.deBruijn64tab"], apart := false, laid := [("math/bits.deBruijn32tab", laid_math_bits_deBruijn32tab), ("math/bits.deBruijn64tab", laid_math_bits_deBruijn64tab)] }
def HeaderMasksSaid : Prop := headerMasksRow.holds Tryd.pinned (OpenSpec.ofChange headerMasksSpec)

/-- ITS FALSE NEIGHBOUR: 'it returns false'. Refute it at one input. -/
def headerMasksWrong : ChangeSpec := { name := "headerMasks", fn := fun _ => fun
  | [d1, d2] => { results := [.lit (.bool false)], args := [d1, d2] }
  | _ => none }
def HeaderMasksWrongFalsely : Prop := headerMasksRow.holds Tryd.pinned (OpenSpec.ofChange headerMasksWrong)

/-- 'dominolaw04.HeaderUnmasks': WHATEVER THE INPUT: true; the input reads as it did. -/
def headerUnmasksSpec : ChangeSpec := { name := "headerUnmasks", fn := fun _ => fun
  | [d1, d2, d3] => { results := [.lit (.bool true)], args := [d1, d2, d3] }
  | _ => none }
def headerUnmasksRow : OpenClaim := { program := "ytjpafikgbnloaaadoor", sum := "922ebaf51a987125fe202e776affdd77924aefe91c931320f2207d0772522a93", func := "domino/dominolaw04.HeaderUnmasks", spec := "headerUnmasks", named := ["math/bits.deBruijn32tab", "math/bits.deBruijn64tab"], apart := false, laid := [("math/bits.deBruijn32tab", laid_math_bits_deBruijn32tab), ("math/bits.deBruijn64tab", laid_math_bits_deBruijn64tab)] }
def HeaderUnmasksSaid : Prop := headerUnmasksRow.holds Tryd.pinned (OpenSpec.ofChange headerUnmasksSpec)

/-- ITS FALSE NEIGHBOUR: 'it returns false'. Refute it at one input. -/
def headerUnmasksWrong : ChangeSpec := { name := "headerUnmasks", fn := fun _ => fun
  | [d1, d2, d3] => { results := [.lit (.bool false)], args := [d1, d2, d3] }
  | _ => none }
def HeaderUnmasksWrongFalsely : Prop := headerUnmasksRow.holds Tryd.pinned (OpenSpec.ofChange headerUnmasksWrong)

/-- 'dominolaw04.HeaderBits': WHATEVER THE INPUT: true; the input reads as it did. -/
def headerBitsSpec : ChangeSpec := { name := "headerBits", fn := fun _ => fun
  | [d1, d2] => { results := [.lit (.bool true)], args := [d1, d2] }
  | _ => none }
def headerBitsRow : OpenClaim := { program := "ytjpafikgbnloaaadoor", sum := "922ebaf51a987125fe202e776affdd77924aefe91c931320f2207d0772522a93", func := "domino/dominolaw04.HeaderBits", spec := "headerBits", named := ["math/bits.deBruijn32tab", "math/bits.deBruijn64tab"], apart := false, laid := [("math/bits.deBruijn32tab", laid_math_bits_deBruijn32tab), ("math/bits.deBruijn64tab", laid_math_bits_deBruijn64tab)] }
def HeaderBitsSaid : Prop := headerBitsRow.holds Tryd.pinned (OpenSpec.ofChange headerBitsSpec)

/-- ITS FALSE NEIGHBOUR: 'it returns false'. Refute it at one input. -/
def headerBitsWrong : ChangeSpec := { name := "headerBits", fn := fun _ => fun
  | [d1, d2] => { results := [.lit (.bool false)], args := [d1, d2] }
  | _ => none }
def HeaderBitsWrongFalsely : Prop := headerBitsRow.holds Tryd.pinned (OpenSpec.ofChange headerBitsWrong)

/-- 'dominolaw04.HeaderZero': WHATEVER THE INPUT: true; the input reads as it did. -/
def headerZeroSpec : ChangeSpec := { name := "headerZero", fn := fun _ => fun
  | [d] => { results := [.lit (.bool true)], args := [d] }
  | _ => none }
def headerZeroRow : OpenClaim := { program := "ytjpafikgbnloaaadoor", sum := "922ebaf51a987125fe202e776affdd77924aefe91c931320f2207d0772522a93", func := "domino/dominolaw04.HeaderZero", spec := "headerZero", named := ["math/bits.deBruijn32tab", "math/bits.deBruijn64tab"], apart := false, laid := [("math/bits.deBruijn32tab", laid_math_bits_deBruijn32tab), ("math/bits.deBruijn64tab", laid_math_bits_deBruijn64tab)] }
def HeaderZeroSaid : Prop := headerZeroRow.holds Tryd.pinned (OpenSpec.ofChange headerZeroSpec)

/-- ITS FALSE NEIGHBOUR: 'it returns false'. Refute it at one input. -/
def headerZeroWrong : ChangeSpec := { name := "headerZero", fn := fun _ => fun
  | [d] => { results := [.lit (.bool false)], args := [d] }
  | _ => none }
def HeaderZeroWrongFalsely : Prop := headerZeroRow.holds Tryd.pinned (OpenSpec.ofChange headerZeroWrong)

/-- 'dominolaw04.HeaderFew': WHATEVER THE INPUT: true; the input reads as it did. -/
def headerFewSpec : ChangeSpec := { name := "headerFew", fn := fun _ => fun
  | [d1, d2] => { results := [.lit (.bool true)], args := [d1, d2] }
  | _ => none }
def headerFewRow : OpenClaim := { program := "ytjpafikgbnloaaadoor", sum := "922ebaf51a987125fe202e776affdd77924aefe91c931320f2207d0772522a93", func := "domino/dominolaw04.HeaderFew", spec := "headerFew", named := ["math/bits.deBruijn32tab", "math/bits.deBruijn64tab"], apart := false, laid := [("math/bits.deBruijn32tab", laid_math_bits_deBruijn32tab), ("math/bits.deBruijn64tab", laid_math_bits_deBruijn64tab)] }
def HeaderFewSaid : Prop := headerFewRow.holds Tryd.pinned (OpenSpec.ofChange headerFewSpec)

/-- ITS FALSE NEIGHBOUR: 'it returns false'. Refute it at one input. -/
def headerFewWrong : ChangeSpec := { name := "headerFew", fn := fun _ => fun
  | [d1, d2] => { results := [.lit (.bool false)], args := [d1, d2] }
  | _ => none }
def HeaderFewWrongFalsely : Prop := headerFewRow.holds Tryd.pinned (OpenSpec.ofChange headerFewWrong)

/- THE SECOND FORM. 'bulk': how many values and letters a reading holds, each counted each time it is reached (what is shared counts as often as it is met; a slice's spare places count too). A statement '..UptoSaid' is the law's where the arguments, and the package variables that the reading takes, are together of bulk at most 1048576: NARROWER than '..Said'. Prove '..Said' where nothing that the law and all that it calls make is longer than what came in: it says more and counts as full. Else prove '..UptoSaid'. A law counts once. -/
mutual
def uptoBulk {H : Type} : DataW H → Nat
  | .lit (.string bytes) => bytes.length + 1
  | .lit _ => 1
  | .nil => 1
  | .ptr d => uptoBulk d + 1
  | .slice elems spare => uptoBulkAll elems + uptoBulkAll spare + 1
  | .agg parts => uptoBulkAll parts + 1
  | .iface _ d => uptoBulk d + 1
  | .map entries => uptoBulkEntries entries + 1
  | .held _ => 1
def uptoBulkAll {H : Type} : List (DataW H) → Nat
  | [] => 0
  | d :: r => uptoBulk d + uptoBulkAll r
def uptoBulkEntries {H : Type} : List (Lit × DataW H) → Nat
  | [] => 0
  | x :: r => uptoBulkEntry x + uptoBulkEntries r
def uptoBulkEntry {H : Type} : Lit × DataW H → Nat
  | (.string bytes, d) => bytes.length + uptoBulk d + 1
  | (_, d) => uptoBulk d + 1
 end
def uptoSmall : (H : Type) → List (DataW H) → Bool := fun _ ds => decide (uptoBulkAll ds ≤ 1048576)
def OpenSpec.upto (s : _root_.Go.ChangeSpec) : _root_.Go.OpenSpec := { _root_.Go.OpenSpec.ofChange s with cond := some uptoSmall }

/-- 'dominolaw04.HeaderTells', WHERE WHAT IT READS IS OF BULK AT MOST 1048576: true; the input reads as it did. -/
def headerTellsUptoRow : OpenClaim := { program := "ytjpafikgbnloaaadoor", sum := "922ebaf51a987125fe202e776affdd77924aefe91c931320f2207d0772522a93", func := "domino/dominolaw04.HeaderTells", spec := "headerTells", named := ["math/bits.deBruijn32tab", "math/bits.deBruijn64tab"], apart := false, laid := [("math/bits.deBruijn32tab", laid_math_bits_deBruijn32tab), ("math/bits.deBruijn64tab", laid_math_bits_deBruijn64tab)], narrowed := true }
def HeaderTellsUptoSaid : Prop := headerTellsUptoRow.holds Tryd.pinned (OpenSpec.upto headerTellsSpec)

/-- 'dominolaw04.HeaderBack', WHERE WHAT IT READS IS OF BULK AT MOST 1048576: true; the input reads as it did. -/
def headerBackUptoRow : OpenClaim := { program := "ytjpafikgbnloaaadoor", sum := "922ebaf51a987125fe202e776affdd77924aefe91c931320f2207d0772522a93", func := "domino/dominolaw04.HeaderBack", spec := "headerBack", named := ["math/bits.deBruijn32tab", "math/bits.deBruijn64tab"], apart := false, laid := [("math/bits.deBruijn32tab", laid_math_bits_deBruijn32tab), ("math/bits.deBruijn64tab", laid_math_bits_deBruijn64tab)], narrowed := true }
def HeaderBackUptoSaid : Prop := headerBackUptoRow.holds Tryd.pinned (OpenSpec.upto headerBackSpec)

/-- 'dominolaw04.HeaderMasks', WHERE WHAT IT READS IS OF BULK AT MOST 1048576: true; the input reads as it did. -/
def headerMasksUptoRow : OpenClaim := { program := "ytjpafikgbnloaaadoor", sum := "922ebaf51a987125fe202e776affdd77924aefe91c931320f2207d0772522a93", func := "domino/dominolaw04.HeaderMasks", spec := "headerMasks", named := ["math/bits.deBruijn32tab", "math/bits.deBruijn64tab"], apart := false, laid := [("math/bits.deBruijn32tab", laid_math_bits_deBruijn32tab), ("math/bits.deBruijn64tab", laid_math_bits_deBruijn64tab)], narrowed := true }
def HeaderMasksUptoSaid : Prop := headerMasksUptoRow.holds Tryd.pinned (OpenSpec.upto headerMasksSpec)

/-- 'dominolaw04.HeaderUnmasks', WHERE WHAT IT READS IS OF BULK AT MOST 1048576: true; the input reads as it did. -/
def headerUnmasksUptoRow : OpenClaim := { program := "ytjpafikgbnloaaadoor", sum := "922ebaf51a987125fe202e776affdd77924aefe91c931320f2207d0772522a93", func := "domino/dominolaw04.HeaderUnmasks", spec := "headerUnmasks", named := ["math/bits.deBruijn32tab", "math/bits.deBruijn64tab"], apart := false, laid := [("math/bits.deBruijn32tab", laid_math_bits_deBruijn32tab), ("math/bits.deBruijn64tab", laid_math_bits_deBruijn64tab)], narrowed := true }
def HeaderUnmasksUptoSaid : Prop := headerUnmasksUptoRow.holds Tryd.pinned (OpenSpec.upto headerUnmasksSpec)

/-- 'dominolaw04.HeaderBits', WHERE WHAT IT READS IS OF BULK AT MOST 1048576: true; the input reads as it did. -/
def headerBitsUptoRow : OpenClaim := { program := "ytjpafikgbnloaaadoor", sum := "922ebaf51a987125fe202e776affdd77924aefe91c931320f2207d0772522a93", func := "domino/dominolaw04.HeaderBits", spec := "headerBits", named := ["math/bits.deBruijn32tab", "math/bits.deBruijn64tab"], apart := false, laid := [("math/bits.deBruijn32tab", laid_math_bits_deBruijn32tab), ("math/bits.deBruijn64tab", laid_math_bits_deBruijn64tab)], narrowed := true }
def HeaderBitsUptoSaid : Prop := headerBitsUptoRow.holds Tryd.pinned (OpenSpec.upto headerBitsSpec)

/-- 'dominolaw04.HeaderZero', WHERE WHAT IT READS IS OF BULK AT MOST 1048576: true; the input reads as it did. -/
def headerZeroUptoRow : OpenClaim := { program := "ytjpafikgbnloaaadoor", sum := "922ebaf51a987125fe202e776affdd77924aefe91c931320f2207d0772522a93", func := "domino/dominolaw04.HeaderZero", spec := "headerZero", named := ["math/bits.deBruijn32tab", "math/bits.deBruijn64tab"], apart := false, laid := [("math/bits.deBruijn32tab", laid_math_bits_deBruijn32tab), ("math/bits.deBruijn64tab", laid_math_bits_deBruijn64tab)], narrowed := true }
def HeaderZeroUptoSaid : Prop := headerZeroUptoRow.holds Tryd.pinned (OpenSpec.upto headerZeroSpec)

/-- 'dominolaw04.HeaderFew', WHERE WHAT IT READS IS OF BULK AT MOST 1048576: true; the input reads as it did. -/
def headerFewUptoRow : OpenClaim := { program := "ytjpafikgbnloaaadoor", sum := "922ebaf51a987125fe202e776affdd77924aefe91c931320f2207d0772522a93", func := "domino/dominolaw04.HeaderFew", spec := "headerFew", named := ["math/bits.deBruijn32tab", "math/bits.deBruijn64tab"], apart := false, laid := [("math/bits.deBruijn32tab", laid_math_bits_deBruijn32tab), ("math/bits.deBruijn64tab", laid_math_bits_deBruijn64tab)], narrowed := true }
def HeaderFewUptoSaid : Prop := headerFewUptoRow.holds Tryd.pinned (OpenSpec.upto headerFewSpec)

end Rows
end Go.Proofs.YtjpafikgbnloaaaDoor
