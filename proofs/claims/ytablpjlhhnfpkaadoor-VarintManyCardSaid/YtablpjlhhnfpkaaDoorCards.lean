/-
  DERIVED. GIVEN WITH THE SEED: THE CARDS: each row of YtablpjlhhnfpkaaDoorRows.lean that lists a variable, with what it lists TIED to the program's text (the seventh form; the later family's looks); each row that meets fmt, with fmt's text TOLD by the authors' own Lean function (tested against real Go, not proved from fmt's source: count such statements apart). THE CARD IS WHAT COUNTS. Prove the row's statement (the work); the ties are given (YtablpjlhhnfpkaaDoorTie.lean); close each card by the builder's one call (the guide's Derived/Test/ToyasCard.lean, 'card_holds'). Laid BY PROGRAM, IN A SANDBOX (cutbox-door.mjs). By AI agents, Wed Nov 11 2026. No macro, syntax, notation, axiom, sorry.
-/
import Derived.Test.YtablpjlhhnfpkaaDoorRows
import GoSem.ClaimSeven
namespace Go.Proofs.YtablpjlhhnfpkaaDoor
namespace Rows

/-- THE TIED CARD OF 'dominolaw01.VarintOnes'. -/
def varintOnesCard : Claim7 := { stood := { row := varintOnesRow, standIns := [], harness := (true, "fd3d8ce9bf9d1f4ecb661b8ddc953f34c9beac7c633383d38131938ecd88f072"), looks := false }, kinds := [], alts := [], laidByText := true, laidKinds := [.data, .data], laidTests := true, laidLooks := .later }
def VarintOnesCardSaid : Prop := Claim7.holds Tryd.pinned (.plain (OpenSpec.ofChange varintOnesSpec)) varintOnesCard

/-- THE TIED CARD OF 'dominolaw01.VarintBack'. -/
def varintBackCard : Claim7 := { stood := { row := varintBackRow, standIns := [], harness := (true, "fd3d8ce9bf9d1f4ecb661b8ddc953f34c9beac7c633383d38131938ecd88f072"), looks := false }, kinds := [], alts := [], laidByText := true, laidKinds := [.data, .data], laidTests := true, laidLooks := .later }
def VarintBackCardSaid : Prop := Claim7.holds Tryd.pinned (.plain (OpenSpec.ofChange varintBackSpec)) varintBackCard

/-- THE TIED CARD OF 'dominolaw01.VarintShort'. -/
def varintShortCard : Claim7 := { stood := { row := varintShortRow, standIns := [], harness := (true, "fd3d8ce9bf9d1f4ecb661b8ddc953f34c9beac7c633383d38131938ecd88f072"), looks := false }, kinds := [], alts := [], laidByText := true, laidKinds := [.data, .data], laidTests := true, laidLooks := .later }
def VarintShortCardSaid : Prop := Claim7.holds Tryd.pinned (.plain (OpenSpec.ofChange varintShortSpec)) varintShortCard

/-- THE TIED CARD OF 'dominolaw01.VarintRises'. -/
def varintRisesCard : Claim7 := { stood := { row := varintRisesRow, standIns := [], harness := (true, "fd3d8ce9bf9d1f4ecb661b8ddc953f34c9beac7c633383d38131938ecd88f072"), looks := false }, kinds := [], alts := [], laidByText := true, laidKinds := [.data, .data], laidTests := true, laidLooks := .later }
def VarintRisesCardSaid : Prop := Claim7.holds Tryd.pinned (.plain (OpenSpec.ofChange varintRisesSpec)) varintRisesCard

/-- THE TIED CARD OF 'dominolaw01.VarintAll'. -/
def varintAllCard : Claim7 := { stood := { row := varintAllRow, standIns := [], harness := (true, "fd3d8ce9bf9d1f4ecb661b8ddc953f34c9beac7c633383d38131938ecd88f072"), looks := false }, kinds := [], alts := [], laidByText := true, laidKinds := [.data, .data], laidTests := true, laidLooks := .later }
def VarintAllCardSaid : Prop := Claim7.holds Tryd.pinned (.plain (OpenSpec.ofChange varintAllSpec)) varintAllCard

/-- THE TIED CARD OF 'dominolaw01.VarintMany'. -/
def varintManyCard : Claim7 := { stood := { row := varintManyRow, standIns := [], harness := (true, "fd3d8ce9bf9d1f4ecb661b8ddc953f34c9beac7c633383d38131938ecd88f072"), looks := false }, kinds := [], alts := [], laidByText := true, laidKinds := [.data, .data], laidTests := true, laidLooks := .later }
def VarintManyCardSaid : Prop := Claim7.holds Tryd.pinned (.plain (OpenSpec.ofChange varintManySpec)) varintManyCard

/-- THE SECOND FORM's CARD OF 'dominolaw01.VarintOnes'. -/
def varintOnesUptoCard : Claim7 := { stood := { row := varintOnesUptoRow, standIns := [], harness := (true, "fd3d8ce9bf9d1f4ecb661b8ddc953f34c9beac7c633383d38131938ecd88f072"), looks := false }, kinds := [], alts := [], laidByText := true, laidKinds := [.data, .data], laidTests := true, laidLooks := .later }
def VarintOnesUptoCardSaid : Prop := Claim7.holds Tryd.pinned (.plain (OpenSpec.upto varintOnesSpec)) varintOnesUptoCard

/-- THE SECOND FORM's CARD OF 'dominolaw01.VarintBack'. -/
def varintBackUptoCard : Claim7 := { stood := { row := varintBackUptoRow, standIns := [], harness := (true, "fd3d8ce9bf9d1f4ecb661b8ddc953f34c9beac7c633383d38131938ecd88f072"), looks := false }, kinds := [], alts := [], laidByText := true, laidKinds := [.data, .data], laidTests := true, laidLooks := .later }
def VarintBackUptoCardSaid : Prop := Claim7.holds Tryd.pinned (.plain (OpenSpec.upto varintBackSpec)) varintBackUptoCard

/-- THE SECOND FORM's CARD OF 'dominolaw01.VarintShort'. -/
def varintShortUptoCard : Claim7 := { stood := { row := varintShortUptoRow, standIns := [], harness := (true, "fd3d8ce9bf9d1f4ecb661b8ddc953f34c9beac7c633383d38131938ecd88f072"), looks := false }, kinds := [], alts := [], laidByText := true, laidKinds := [.data, .data], laidTests := true, laidLooks := .later }
def VarintShortUptoCardSaid : Prop := Claim7.holds Tryd.pinned (.plain (OpenSpec.upto varintShortSpec)) varintShortUptoCard

/-- THE SECOND FORM's CARD OF 'dominolaw01.VarintRises'. -/
def varintRisesUptoCard : Claim7 := { stood := { row := varintRisesUptoRow, standIns := [], harness := (true, "fd3d8ce9bf9d1f4ecb661b8ddc953f34c9beac7c633383d38131938ecd88f072"), looks := false }, kinds := [], alts := [], laidByText := true, laidKinds := [.data, .data], laidTests := true, laidLooks := .later }
def VarintRisesUptoCardSaid : Prop := Claim7.holds Tryd.pinned (.plain (OpenSpec.upto varintRisesSpec)) varintRisesUptoCard

/-- THE SECOND FORM's CARD OF 'dominolaw01.VarintAll'. -/
def varintAllUptoCard : Claim7 := { stood := { row := varintAllUptoRow, standIns := [], harness := (true, "fd3d8ce9bf9d1f4ecb661b8ddc953f34c9beac7c633383d38131938ecd88f072"), looks := false }, kinds := [], alts := [], laidByText := true, laidKinds := [.data, .data], laidTests := true, laidLooks := .later }
def VarintAllUptoCardSaid : Prop := Claim7.holds Tryd.pinned (.plain (OpenSpec.upto varintAllSpec)) varintAllUptoCard

/-- THE SECOND FORM's CARD OF 'dominolaw01.VarintMany'. -/
def varintManyUptoCard : Claim7 := { stood := { row := varintManyUptoRow, standIns := [], harness := (true, "fd3d8ce9bf9d1f4ecb661b8ddc953f34c9beac7c633383d38131938ecd88f072"), looks := false }, kinds := [], alts := [], laidByText := true, laidKinds := [.data, .data], laidTests := true, laidLooks := .later }
def VarintManyUptoCardSaid : Prop := Claim7.holds Tryd.pinned (.plain (OpenSpec.upto varintManySpec)) varintManyUptoCard
end Rows
end Go.Proofs.YtablpjlhhnfpkaaDoor
