/-
  DERIVED. GIVEN WITH THE SEED: THE CARDS: each row of YthbnedjcaflofaaDoorRows.lean that lists a variable, with what it lists TIED to the program's text (the seventh form; the later family's looks); each row that meets fmt, with fmt's text TOLD by the authors' own Lean function (tested against real Go, not proved from fmt's source: count such statements apart). THE CARD IS WHAT COUNTS. Prove the row's statement (the work); the ties are given (YthbnedjcaflofaaDoorTie.lean); close each card by the builder's one call (the guide's Derived/Test/ToyasCard.lean, 'card_holds'). Laid BY PROGRAM, IN A SANDBOX (cutbox-door.mjs). By AI agents, Wed Nov 11 2026. No macro, syntax, notation, axiom, sorry.
-/
import Derived.Test.YthbnedjcaflofaaDoorRows
import GoSem.ClaimSeven
namespace Go.Proofs.YthbnedjcaflofaaDoor
namespace Rows

/-- THE TIED CARD OF 'dominolaw05.ParamsTells'. -/
def paramsTellsCard : Claim7 := { stood := { row := paramsTellsRow, standIns := [], harness := (true, "f4f52911af6d5558f24e7cbd8da0e23d2298f9569e574cfd97f9597b72736e52"), looks := false }, kinds := [], alts := [], laidByText := true, laidKinds := [.data, .data], laidTests := true, laidLooks := .later }
def ParamsTellsCardSaid : Prop := Claim7.holds Tryd.pinned (.plain (OpenSpec.ofChange paramsTellsSpec)) paramsTellsCard

/-- THE TIED CARD OF 'dominolaw05.ParamsBack'. -/
def paramsBackCard : Claim7 := { stood := { row := paramsBackRow, standIns := [], harness := (true, "f4f52911af6d5558f24e7cbd8da0e23d2298f9569e574cfd97f9597b72736e52"), looks := false }, kinds := [], alts := [], laidByText := true, laidKinds := [.data, .data], laidTests := true, laidLooks := .later }
def ParamsBackCardSaid : Prop := Claim7.holds Tryd.pinned (.plain (OpenSpec.ofChange paramsBackSpec)) paramsBackCard

/-- THE TIED CARD OF 'dominolaw05.ParamsOrder'. -/
def paramsOrderCard : Claim7 := { stood := { row := paramsOrderRow, standIns := [], harness := (true, "f4f52911af6d5558f24e7cbd8da0e23d2298f9569e574cfd97f9597b72736e52"), looks := false }, kinds := [], alts := [], laidByText := true, laidKinds := [.data, .data], laidTests := true, laidLooks := .later }
def ParamsOrderCardSaid : Prop := Claim7.holds Tryd.pinned (.plain (OpenSpec.ofChange paramsOrderSpec)) paramsOrderCard

/-- THE TIED CARD OF 'dominolaw05.ParamsNone'. -/
def paramsNoneCard : Claim7 := { stood := { row := paramsNoneRow, standIns := [], harness := (true, "f4f52911af6d5558f24e7cbd8da0e23d2298f9569e574cfd97f9597b72736e52"), looks := false }, kinds := [], alts := [], laidByText := true, laidKinds := [.data, .data], laidTests := true, laidLooks := .later }
def ParamsNoneCardSaid : Prop := Claim7.holds Tryd.pinned (.plain (OpenSpec.ofChange paramsNoneSpec)) paramsNoneCard

/-- THE TIED CARD OF 'dominolaw05.ParamsBad'. -/
def paramsBadCard : Claim7 := { stood := { row := paramsBadRow, standIns := [], harness := (true, "f4f52911af6d5558f24e7cbd8da0e23d2298f9569e574cfd97f9597b72736e52"), looks := false }, kinds := [], alts := [], laidByText := true, laidKinds := [.data, .data], laidTests := true, laidLooks := .later }
def ParamsBadCardSaid : Prop := Claim7.holds Tryd.pinned (.plain (OpenSpec.ofChange paramsBadSpec)) paramsBadCard

/-- THE SECOND FORM's CARD OF 'dominolaw05.ParamsTells'. -/
def paramsTellsUptoCard : Claim7 := { stood := { row := paramsTellsUptoRow, standIns := [], harness := (true, "f4f52911af6d5558f24e7cbd8da0e23d2298f9569e574cfd97f9597b72736e52"), looks := false }, kinds := [], alts := [], laidByText := true, laidKinds := [.data, .data], laidTests := true, laidLooks := .later }
def ParamsTellsUptoCardSaid : Prop := Claim7.holds Tryd.pinned (.plain (OpenSpec.upto paramsTellsSpec)) paramsTellsUptoCard

/-- THE SECOND FORM's CARD OF 'dominolaw05.ParamsBack'. -/
def paramsBackUptoCard : Claim7 := { stood := { row := paramsBackUptoRow, standIns := [], harness := (true, "f4f52911af6d5558f24e7cbd8da0e23d2298f9569e574cfd97f9597b72736e52"), looks := false }, kinds := [], alts := [], laidByText := true, laidKinds := [.data, .data], laidTests := true, laidLooks := .later }
def ParamsBackUptoCardSaid : Prop := Claim7.holds Tryd.pinned (.plain (OpenSpec.upto paramsBackSpec)) paramsBackUptoCard

/-- THE SECOND FORM's CARD OF 'dominolaw05.ParamsOrder'. -/
def paramsOrderUptoCard : Claim7 := { stood := { row := paramsOrderUptoRow, standIns := [], harness := (true, "f4f52911af6d5558f24e7cbd8da0e23d2298f9569e574cfd97f9597b72736e52"), looks := false }, kinds := [], alts := [], laidByText := true, laidKinds := [.data, .data], laidTests := true, laidLooks := .later }
def ParamsOrderUptoCardSaid : Prop := Claim7.holds Tryd.pinned (.plain (OpenSpec.upto paramsOrderSpec)) paramsOrderUptoCard

/-- THE SECOND FORM's CARD OF 'dominolaw05.ParamsNone'. -/
def paramsNoneUptoCard : Claim7 := { stood := { row := paramsNoneUptoRow, standIns := [], harness := (true, "f4f52911af6d5558f24e7cbd8da0e23d2298f9569e574cfd97f9597b72736e52"), looks := false }, kinds := [], alts := [], laidByText := true, laidKinds := [.data, .data], laidTests := true, laidLooks := .later }
def ParamsNoneUptoCardSaid : Prop := Claim7.holds Tryd.pinned (.plain (OpenSpec.upto paramsNoneSpec)) paramsNoneUptoCard

/-- THE SECOND FORM's CARD OF 'dominolaw05.ParamsBad'. -/
def paramsBadUptoCard : Claim7 := { stood := { row := paramsBadUptoRow, standIns := [], harness := (true, "f4f52911af6d5558f24e7cbd8da0e23d2298f9569e574cfd97f9597b72736e52"), looks := false }, kinds := [], alts := [], laidByText := true, laidKinds := [.data, .data], laidTests := true, laidLooks := .later }
def ParamsBadUptoCardSaid : Prop := Claim7.holds Tryd.pinned (.plain (OpenSpec.upto paramsBadSpec)) paramsBadUptoCard
end Rows
end Go.Proofs.YthbnedjcaflofaaDoor
