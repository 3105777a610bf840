/-
  DERIVED. GIVEN WITH THE SEED: THE CARDS: each row of YtjpafikgbnloaaaDoorRows.lean that lists a variable, with what it lists TIED to the program's text (the seventh form; the later family's looks); each row that meets fmt, with fmt's text TOLD by the authors' own Lean function (tested against real Go, not proved from fmt's source: count such statements apart). THE CARD IS WHAT COUNTS. Prove the row's statement (the work); the ties are given (YtjpafikgbnloaaaDoorTie.lean); close each card by the builder's one call (the guide's Derived/Test/ToyasCard.lean, 'card_holds'). Laid BY PROGRAM, IN A SANDBOX (cutbox-door.mjs). By AI agents, Wed Nov 11 2026. No macro, syntax, notation, axiom, sorry.
-/
import Derived.Test.YtjpafikgbnloaaaDoorRows
import GoSem.ClaimSeven
namespace Go.Proofs.YtjpafikgbnloaaaDoor
namespace Rows

/-- THE TIED CARD OF 'dominolaw04.HeaderTells'. -/
def headerTellsCard : Claim7 := { stood := { row := headerTellsRow, standIns := [], harness := (true, "5e81b958c2198db38bb47d3ee7ef3ce5072c462cf97819e326b3b6f4487dfdf3"), looks := false }, kinds := [], alts := [], laidByText := true, laidKinds := [.data, .data], laidTests := true, laidLooks := .later }
def HeaderTellsCardSaid : Prop := Claim7.holds Tryd.pinned (.plain (OpenSpec.ofChange headerTellsSpec)) headerTellsCard

/-- THE TIED CARD OF 'dominolaw04.HeaderBack'. -/
def headerBackCard : Claim7 := { stood := { row := headerBackRow, standIns := [], harness := (true, "5e81b958c2198db38bb47d3ee7ef3ce5072c462cf97819e326b3b6f4487dfdf3"), looks := false }, kinds := [], alts := [], laidByText := true, laidKinds := [.data, .data], laidTests := true, laidLooks := .later }
def HeaderBackCardSaid : Prop := Claim7.holds Tryd.pinned (.plain (OpenSpec.ofChange headerBackSpec)) headerBackCard

/-- THE TIED CARD OF 'dominolaw04.HeaderMasks'. -/
def headerMasksCard : Claim7 := { stood := { row := headerMasksRow, standIns := [], harness := (true, "5e81b958c2198db38bb47d3ee7ef3ce5072c462cf97819e326b3b6f4487dfdf3"), looks := false }, kinds := [], alts := [], laidByText := true, laidKinds := [.data, .data], laidTests := true, laidLooks := .later }
def HeaderMasksCardSaid : Prop := Claim7.holds Tryd.pinned (.plain (OpenSpec.ofChange headerMasksSpec)) headerMasksCard

/-- THE TIED CARD OF 'dominolaw04.HeaderUnmasks'. -/
def headerUnmasksCard : Claim7 := { stood := { row := headerUnmasksRow, standIns := [], harness := (true, "5e81b958c2198db38bb47d3ee7ef3ce5072c462cf97819e326b3b6f4487dfdf3"), looks := false }, kinds := [], alts := [], laidByText := true, laidKinds := [.data, .data], laidTests := true, laidLooks := .later }
def HeaderUnmasksCardSaid : Prop := Claim7.holds Tryd.pinned (.plain (OpenSpec.ofChange headerUnmasksSpec)) headerUnmasksCard

/-- THE TIED CARD OF 'dominolaw04.HeaderBits'. -/
def headerBitsCard : Claim7 := { stood := { row := headerBitsRow, standIns := [], harness := (true, "5e81b958c2198db38bb47d3ee7ef3ce5072c462cf97819e326b3b6f4487dfdf3"), looks := false }, kinds := [], alts := [], laidByText := true, laidKinds := [.data, .data], laidTests := true, laidLooks := .later }
def HeaderBitsCardSaid : Prop := Claim7.holds Tryd.pinned (.plain (OpenSpec.ofChange headerBitsSpec)) headerBitsCard

/-- THE TIED CARD OF 'dominolaw04.HeaderZero'. -/
def headerZeroCard : Claim7 := { stood := { row := headerZeroRow, standIns := [], harness := (true, "5e81b958c2198db38bb47d3ee7ef3ce5072c462cf97819e326b3b6f4487dfdf3"), looks := false }, kinds := [], alts := [], laidByText := true, laidKinds := [.data, .data], laidTests := true, laidLooks := .later }
def HeaderZeroCardSaid : Prop := Claim7.holds Tryd.pinned (.plain (OpenSpec.ofChange headerZeroSpec)) headerZeroCard

/-- THE TIED CARD OF 'dominolaw04.HeaderFew'. -/
def headerFewCard : Claim7 := { stood := { row := headerFewRow, standIns := [], harness := (true, "5e81b958c2198db38bb47d3ee7ef3ce5072c462cf97819e326b3b6f4487dfdf3"), looks := false }, kinds := [], alts := [], laidByText := true, laidKinds := [.data, .data], laidTests := true, laidLooks := .later }
def HeaderFewCardSaid : Prop := Claim7.holds Tryd.pinned (.plain (OpenSpec.ofChange headerFewSpec)) headerFewCard

/-- THE SECOND FORM's CARD OF 'dominolaw04.HeaderTells'. -/
def headerTellsUptoCard : Claim7 := { stood := { row := headerTellsUptoRow, standIns := [], harness := (true, "5e81b958c2198db38bb47d3ee7ef3ce5072c462cf97819e326b3b6f4487dfdf3"), looks := false }, kinds := [], alts := [], laidByText := true, laidKinds := [.data, .data], laidTests := true, laidLooks := .later }
def HeaderTellsUptoCardSaid : Prop := Claim7.holds Tryd.pinned (.plain (OpenSpec.upto headerTellsSpec)) headerTellsUptoCard

/-- THE SECOND FORM's CARD OF 'dominolaw04.HeaderBack'. -/
def headerBackUptoCard : Claim7 := { stood := { row := headerBackUptoRow, standIns := [], harness := (true, "5e81b958c2198db38bb47d3ee7ef3ce5072c462cf97819e326b3b6f4487dfdf3"), looks := false }, kinds := [], alts := [], laidByText := true, laidKinds := [.data, .data], laidTests := true, laidLooks := .later }
def HeaderBackUptoCardSaid : Prop := Claim7.holds Tryd.pinned (.plain (OpenSpec.upto headerBackSpec)) headerBackUptoCard

/-- THE SECOND FORM's CARD OF 'dominolaw04.HeaderMasks'. -/
def headerMasksUptoCard : Claim7 := { stood := { row := headerMasksUptoRow, standIns := [], harness := (true, "5e81b958c2198db38bb47d3ee7ef3ce5072c462cf97819e326b3b6f4487dfdf3"), looks := false }, kinds := [], alts := [], laidByText := true, laidKinds := [.data, .data], laidTests := true, laidLooks := .later }
def HeaderMasksUptoCardSaid : Prop := Claim7.holds Tryd.pinned (.plain (OpenSpec.upto headerMasksSpec)) headerMasksUptoCard

/-- THE SECOND FORM's CARD OF 'dominolaw04.HeaderUnmasks'. -/
def headerUnmasksUptoCard : Claim7 := { stood := { row := headerUnmasksUptoRow, standIns := [], harness := (true, "5e81b958c2198db38bb47d3ee7ef3ce5072c462cf97819e326b3b6f4487dfdf3"), looks := false }, kinds := [], alts := [], laidByText := true, laidKinds := [.data, .data], laidTests := true, laidLooks := .later }
def HeaderUnmasksUptoCardSaid : Prop := Claim7.holds Tryd.pinned (.plain (OpenSpec.upto headerUnmasksSpec)) headerUnmasksUptoCard

/-- THE SECOND FORM's CARD OF 'dominolaw04.HeaderBits'. -/
def headerBitsUptoCard : Claim7 := { stood := { row := headerBitsUptoRow, standIns := [], harness := (true, "5e81b958c2198db38bb47d3ee7ef3ce5072c462cf97819e326b3b6f4487dfdf3"), looks := false }, kinds := [], alts := [], laidByText := true, laidKinds := [.data, .data], laidTests := true, laidLooks := .later }
def HeaderBitsUptoCardSaid : Prop := Claim7.holds Tryd.pinned (.plain (OpenSpec.upto headerBitsSpec)) headerBitsUptoCard

/-- THE SECOND FORM's CARD OF 'dominolaw04.HeaderZero'. -/
def headerZeroUptoCard : Claim7 := { stood := { row := headerZeroUptoRow, standIns := [], harness := (true, "5e81b958c2198db38bb47d3ee7ef3ce5072c462cf97819e326b3b6f4487dfdf3"), looks := false }, kinds := [], alts := [], laidByText := true, laidKinds := [.data, .data], laidTests := true, laidLooks := .later }
def HeaderZeroUptoCardSaid : Prop := Claim7.holds Tryd.pinned (.plain (OpenSpec.upto headerZeroSpec)) headerZeroUptoCard

/-- THE SECOND FORM's CARD OF 'dominolaw04.HeaderFew'. -/
def headerFewUptoCard : Claim7 := { stood := { row := headerFewUptoRow, standIns := [], harness := (true, "5e81b958c2198db38bb47d3ee7ef3ce5072c462cf97819e326b3b6f4487dfdf3"), looks := false }, kinds := [], alts := [], laidByText := true, laidKinds := [.data, .data], laidTests := true, laidLooks := .later }
def HeaderFewUptoCardSaid : Prop := Claim7.holds Tryd.pinned (.plain (OpenSpec.upto headerFewSpec)) headerFewUptoCard
end Rows
end Go.Proofs.YtjpafikgbnloaaaDoor
