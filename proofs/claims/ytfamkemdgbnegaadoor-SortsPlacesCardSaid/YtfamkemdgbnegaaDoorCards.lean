/-
  DERIVED. GIVEN WITH THE SEED: THE CARDS: each row of YtfamkemdgbnegaaDoorRows.lean that lists a variable, with what it lists TIED to the program's text (the seventh form; the later family's looks); each row that meets fmt, with fmt's text TOLD by the authors' own Lean function (tested against real Go, not proved from fmt's source: count such statements apart). THE CARD IS WHAT COUNTS. Prove the row's statement (the work); the ties are given (YtfamkemdgbnegaaDoorTie.lean); close each card by the builder's one call (the guide's Derived/Test/ToyasCard.lean, 'card_holds'). Laid BY PROGRAM, IN A SANDBOX (cutbox-door.mjs). By AI agents, Wed Nov 11 2026. No macro, syntax, notation, axiom, sorry.
-/
import Derived.Test.YtfamkemdgbnegaaDoorRows
import GoSem.ClaimSeven
namespace Go.Proofs.YtfamkemdgbnegaaDoor
namespace Rows

/-- THE TIED CARD OF 'baizelaw12.SortsPlaces'. -/
def sortsPlacesCard : Claim7 := { stood := { row := sortsPlacesRow, standIns := [], harness := (true, "7703cd9fd2b47808093c32ab14627e8ee9feca8256fc7ae63bbc87fdd91888a7"), looks := true }, kinds := [], alts := [], laidByText := true, laidKinds := [.listed, .data, .data, .data], laidTests := true, laidLooks := .later }
def SortsPlacesCardSaid : Prop := Claim7.holds Tryd.pinned (.plain (OpenSpec.ofChange sortsPlacesSpec)) sortsPlacesCard

/-- THE TIED CARD OF 'baizelaw12.SortsUnknown'. -/
def sortsUnknownCard : Claim7 := { stood := { row := sortsUnknownRow, standIns := [], harness := (true, "7703cd9fd2b47808093c32ab14627e8ee9feca8256fc7ae63bbc87fdd91888a7"), looks := true }, kinds := [], alts := [], laidByText := true, laidKinds := [.listed, .data, .data, .data], laidTests := true, laidLooks := .later }
def SortsUnknownCardSaid : Prop := Claim7.holds Tryd.pinned (.plain (OpenSpec.ofChange sortsUnknownSpec)) sortsUnknownCard

/-- THE TIED CARD OF 'baizelaw12.SortsFirst'. -/
def sortsFirstCard : Claim7 := { stood := { row := sortsFirstRow, standIns := [], harness := (true, "7703cd9fd2b47808093c32ab14627e8ee9feca8256fc7ae63bbc87fdd91888a7"), looks := true }, kinds := [], alts := [], laidByText := true, laidKinds := [.listed, .data, .data, .data], laidTests := true, laidLooks := .later }
def SortsFirstCardSaid : Prop := Claim7.holds Tryd.pinned (.plain (OpenSpec.ofChange sortsFirstSpec)) sortsFirstCard

/-- THE TIED CARD OF 'baizelaw12.SortsEnds'. -/
def sortsEndsCard : Claim7 := { stood := { row := sortsEndsRow, standIns := [], harness := (true, "7703cd9fd2b47808093c32ab14627e8ee9feca8256fc7ae63bbc87fdd91888a7"), looks := true }, kinds := [], alts := [], laidByText := true, laidKinds := [.listed, .data, .data, .data], laidTests := true, laidLooks := .later }
def SortsEndsCardSaid : Prop := Claim7.holds Tryd.pinned (.plain (OpenSpec.ofChange sortsEndsSpec)) sortsEndsCard

/-- THE TIED CARD OF 'baizelaw12.SortsScopes'. -/
def sortsScopesCard : Claim7 := { stood := { row := sortsScopesRow, standIns := [], harness := (true, "7703cd9fd2b47808093c32ab14627e8ee9feca8256fc7ae63bbc87fdd91888a7"), looks := true }, kinds := [], alts := [], laidByText := true, laidKinds := [.listed, .data, .data, .data], laidTests := true, laidLooks := .later }
def SortsScopesCardSaid : Prop := Claim7.holds Tryd.pinned (.plain (OpenSpec.ofChange sortsScopesSpec)) sortsScopesCard

/-- THE TIED CARD OF 'baizelaw12.SortsCells'. -/
def sortsCellsCard : Claim7 := { stood := { row := sortsCellsRow, standIns := [], harness := (true, "7703cd9fd2b47808093c32ab14627e8ee9feca8256fc7ae63bbc87fdd91888a7"), looks := true }, kinds := [], alts := [], laidByText := true, laidKinds := [.listed, .data, .data, .data], laidTests := true, laidLooks := .later }
def SortsCellsCardSaid : Prop := Claim7.holds Tryd.pinned (.plain (OpenSpec.ofChange sortsCellsSpec)) sortsCellsCard

/-- THE TIED CARD OF 'baizelaw12.SortsOwn'. -/
def sortsOwnCard : Claim7 := { stood := { row := sortsOwnRow, standIns := [], harness := (true, "7703cd9fd2b47808093c32ab14627e8ee9feca8256fc7ae63bbc87fdd91888a7"), looks := true }, kinds := [], alts := [], laidByText := true, laidKinds := [.listed, .data, .data, .data], laidTests := true, laidLooks := .later }
def SortsOwnCardSaid : Prop := Claim7.holds Tryd.pinned (.plain (OpenSpec.ofChange sortsOwnSpec)) sortsOwnCard

/-- THE SECOND FORM's CARD OF 'baizelaw12.SortsPlaces'. -/
def sortsPlacesUptoCard : Claim7 := { stood := { row := sortsPlacesUptoRow, standIns := [], harness := (true, "7703cd9fd2b47808093c32ab14627e8ee9feca8256fc7ae63bbc87fdd91888a7"), looks := true }, kinds := [], alts := [], laidByText := true, laidKinds := [.listed, .data, .data, .data], laidTests := true, laidLooks := .later }
def SortsPlacesUptoCardSaid : Prop := Claim7.holds Tryd.pinned (.plain (OpenSpec.upto sortsPlacesSpec)) sortsPlacesUptoCard

/-- THE SECOND FORM's CARD OF 'baizelaw12.SortsUnknown'. -/
def sortsUnknownUptoCard : Claim7 := { stood := { row := sortsUnknownUptoRow, standIns := [], harness := (true, "7703cd9fd2b47808093c32ab14627e8ee9feca8256fc7ae63bbc87fdd91888a7"), looks := true }, kinds := [], alts := [], laidByText := true, laidKinds := [.listed, .data, .data, .data], laidTests := true, laidLooks := .later }
def SortsUnknownUptoCardSaid : Prop := Claim7.holds Tryd.pinned (.plain (OpenSpec.upto sortsUnknownSpec)) sortsUnknownUptoCard

/-- THE SECOND FORM's CARD OF 'baizelaw12.SortsFirst'. -/
def sortsFirstUptoCard : Claim7 := { stood := { row := sortsFirstUptoRow, standIns := [], harness := (true, "7703cd9fd2b47808093c32ab14627e8ee9feca8256fc7ae63bbc87fdd91888a7"), looks := true }, kinds := [], alts := [], laidByText := true, laidKinds := [.listed, .data, .data, .data], laidTests := true, laidLooks := .later }
def SortsFirstUptoCardSaid : Prop := Claim7.holds Tryd.pinned (.plain (OpenSpec.upto sortsFirstSpec)) sortsFirstUptoCard

/-- THE SECOND FORM's CARD OF 'baizelaw12.SortsEnds'. -/
def sortsEndsUptoCard : Claim7 := { stood := { row := sortsEndsUptoRow, standIns := [], harness := (true, "7703cd9fd2b47808093c32ab14627e8ee9feca8256fc7ae63bbc87fdd91888a7"), looks := true }, kinds := [], alts := [], laidByText := true, laidKinds := [.listed, .data, .data, .data], laidTests := true, laidLooks := .later }
def SortsEndsUptoCardSaid : Prop := Claim7.holds Tryd.pinned (.plain (OpenSpec.upto sortsEndsSpec)) sortsEndsUptoCard

/-- THE SECOND FORM's CARD OF 'baizelaw12.SortsScopes'. -/
def sortsScopesUptoCard : Claim7 := { stood := { row := sortsScopesUptoRow, standIns := [], harness := (true, "7703cd9fd2b47808093c32ab14627e8ee9feca8256fc7ae63bbc87fdd91888a7"), looks := true }, kinds := [], alts := [], laidByText := true, laidKinds := [.listed, .data, .data, .data], laidTests := true, laidLooks := .later }
def SortsScopesUptoCardSaid : Prop := Claim7.holds Tryd.pinned (.plain (OpenSpec.upto sortsScopesSpec)) sortsScopesUptoCard

/-- THE SECOND FORM's CARD OF 'baizelaw12.SortsCells'. -/
def sortsCellsUptoCard : Claim7 := { stood := { row := sortsCellsUptoRow, standIns := [], harness := (true, "7703cd9fd2b47808093c32ab14627e8ee9feca8256fc7ae63bbc87fdd91888a7"), looks := true }, kinds := [], alts := [], laidByText := true, laidKinds := [.listed, .data, .data, .data], laidTests := true, laidLooks := .later }
def SortsCellsUptoCardSaid : Prop := Claim7.holds Tryd.pinned (.plain (OpenSpec.upto sortsCellsSpec)) sortsCellsUptoCard

/-- THE SECOND FORM's CARD OF 'baizelaw12.SortsOwn'. -/
def sortsOwnUptoCard : Claim7 := { stood := { row := sortsOwnUptoRow, standIns := [], harness := (true, "7703cd9fd2b47808093c32ab14627e8ee9feca8256fc7ae63bbc87fdd91888a7"), looks := true }, kinds := [], alts := [], laidByText := true, laidKinds := [.listed, .data, .data, .data], laidTests := true, laidLooks := .later }
def SortsOwnUptoCardSaid : Prop := Claim7.holds Tryd.pinned (.plain (OpenSpec.upto sortsOwnSpec)) sortsOwnUptoCard
end Rows
end Go.Proofs.YtfamkemdgbnegaaDoor
