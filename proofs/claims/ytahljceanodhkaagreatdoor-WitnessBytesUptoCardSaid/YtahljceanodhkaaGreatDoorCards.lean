/-
  DERIVED. GIVEN WITH THE SEED: THE CARDS: each row of YtahljceanodhkaaGreatDoorRows.lean that lists a variable, with what it lists TIED to the program's text (the seventh form; the later family's looks); each row that meets fmt, with fmt's text TOLD by the authors' own Lean function (tested against real Go, not proved from fmt's source: count such statements apart). THE CARD IS WHAT COUNTS. Prove the row's statement (the work); the ties are given (YtahljceanodhkaaGreatDoorTie.lean); close each card by the builder's one call (the guide's Derived/Test/ToyasCard.lean, 'card_holds'). Laid BY PROGRAM, IN A SANDBOX (cutbox-door.mjs). By AI agents, Wed Nov 11 2026. No macro, syntax, notation, axiom, sorry.
-/
import Derived.Test.YtahljceanodhkaaGreatDoorRows
import GoSem.ClaimSeven
namespace Go.Proofs.YtahljceanodhkaaGreatDoor
namespace Rows

/-- THE TIED CARD OF 'baizelaw23.HalveSilence'. -/
def halveSilenceCard : Claim7 := { stood := { row := halveSilenceRow, standIns := [], harness := (true, "fd951ffa63f7af8ea8c2321a85dbb0e1210b7db50c127c162d0d957b8c245006"), looks := false }, kinds := [], alts := [], laidByText := true, laidKinds := [.data, .data, .data, .data], laidTests := true, laidLooks := .later }
def HalveSilenceCardSaid : Prop := Claim7.holds Tryz.pinned (.plain (OpenSpec.ofChange halveSilenceSpec)) halveSilenceCard

/-- THE TIED CARD OF 'baizelaw23.HalveClone'. -/
def halveCloneCard : Claim7 := { stood := { row := halveCloneRow, standIns := [], harness := (true, "fd951ffa63f7af8ea8c2321a85dbb0e1210b7db50c127c162d0d957b8c245006"), looks := false }, kinds := [], alts := [], laidByText := true, laidKinds := [.data, .data, .data, .data], laidTests := true, laidLooks := .later }
def HalveCloneCardSaid : Prop := Claim7.holds Tryz.pinned (.plain (OpenSpec.ofChange halveCloneSpec)) halveCloneCard

/-- THE TIED CARD OF 'baizelaw23.HalveNil'. -/
def halveNilCard : Claim7 := { stood := { row := halveNilRow, standIns := [], harness := (true, "fd951ffa63f7af8ea8c2321a85dbb0e1210b7db50c127c162d0d957b8c245006"), looks := false }, kinds := [], alts := [], laidByText := true, laidKinds := [.data, .data, .data, .data], laidTests := true, laidLooks := .later }
def HalveNilCardSaid : Prop := Claim7.holds Tryz.pinned (.plain (OpenSpec.ofChange halveNilSpec)) halveNilCard

/-- THE TIED CARD OF 'baizelaw22.WitnessDigests'. -/
def witnessDigestsCard : Claim7 := { stood := { row := witnessDigestsRow, standIns := [], harness := (true, "fd951ffa63f7af8ea8c2321a85dbb0e1210b7db50c127c162d0d957b8c245006"), looks := false }, kinds := [], alts := [], laidByText := true, laidKinds := [.data, .data, .data, .data], laidTests := true, laidLooks := .later }
def WitnessDigestsCardSaid : Prop := Claim7.holds Tryz.pinned (.plain (OpenSpec.ofChange witnessDigestsSpec)) witnessDigestsCard

/-- THE TIED CARD OF 'baizelaw22.WitnessStays'. -/
def witnessStaysCard : Claim7 := { stood := { row := witnessStaysRow, standIns := [], harness := (true, "fd951ffa63f7af8ea8c2321a85dbb0e1210b7db50c127c162d0d957b8c245006"), looks := false }, kinds := [], alts := [], laidByText := true, laidKinds := [.data, .data, .data, .data], laidTests := true, laidLooks := .later }
def WitnessStaysCardSaid : Prop := Claim7.holds Tryz.pinned (.plain (OpenSpec.ofChange witnessStaysSpec)) witnessStaysCard

/-- THE TIED CARD OF 'baizelaw22.WitnessTrace'. -/
def witnessTraceCard : Claim7 := { stood := { row := witnessTraceRow, standIns := [], harness := (true, "fd951ffa63f7af8ea8c2321a85dbb0e1210b7db50c127c162d0d957b8c245006"), looks := false }, kinds := [], alts := [], laidByText := true, laidKinds := [.data, .data, .data, .data], laidTests := true, laidLooks := .later }
def WitnessTraceCardSaid : Prop := Claim7.holds Tryz.pinned (.plain (OpenSpec.ofChange witnessTraceSpec)) witnessTraceCard

/-- THE TIED CARD OF 'baizelaw22.WitnessSmall'. -/
def witnessSmallCard : Claim7 := { stood := { row := witnessSmallRow, standIns := [], harness := (true, "fd951ffa63f7af8ea8c2321a85dbb0e1210b7db50c127c162d0d957b8c245006"), looks := false }, kinds := [], alts := [], laidByText := true, laidKinds := [.data, .data, .data, .data], laidTests := true, laidLooks := .later }
def WitnessSmallCardSaid : Prop := Claim7.holds Tryz.pinned (.plain (OpenSpec.ofChange witnessSmallSpec)) witnessSmallCard

/-- THE TIED CARD OF 'baizelaw23.HalveActs'. -/
def halveActsCard : Claim7 := { stood := { row := halveActsRow, standIns := [], harness := (true, "fd951ffa63f7af8ea8c2321a85dbb0e1210b7db50c127c162d0d957b8c245006"), looks := false }, kinds := [], alts := [], laidByText := true, laidKinds := [.data, .data, .data, .data], laidTests := true, laidLooks := .later }
def HalveActsCardSaid : Prop := Claim7.holds Tryz.pinned (.plain (OpenSpec.ofChange halveActsSpec)) halveActsCard

/-- THE TIED CARD OF 'baizelaw23.HalveTeller'. -/
def halveTellerCard : Claim7 := { stood := { row := halveTellerRow, standIns := [], harness := (true, "fd951ffa63f7af8ea8c2321a85dbb0e1210b7db50c127c162d0d957b8c245006"), looks := false }, kinds := [], alts := [], laidByText := true, laidKinds := [.data, .data, .data, .data], laidTests := true, laidLooks := .later }
def HalveTellerCardSaid : Prop := Claim7.holds Tryz.pinned (.plain (OpenSpec.ofChange halveTellerSpec)) halveTellerCard

/-- THE TIED CARD OF 'baizelaw22.WitnessBytes'. -/
def witnessBytesCard : Claim7 := { stood := { row := witnessBytesRow, standIns := [], harness := (true, "fd951ffa63f7af8ea8c2321a85dbb0e1210b7db50c127c162d0d957b8c245006"), looks := false }, kinds := [], alts := [], laidByText := true, laidKinds := [.data, .data, .data, .data], laidTests := true, laidLooks := .later }
def WitnessBytesCardSaid : Prop := Claim7.holds Tryz.pinned (.plain (OpenSpec.ofChange witnessBytesSpec)) witnessBytesCard

/-- THE SECOND FORM's CARD OF 'baizelaw23.HalveSilence'. -/
def halveSilenceUptoCard : Claim7 := { stood := { row := halveSilenceUptoRow, standIns := [], harness := (true, "fd951ffa63f7af8ea8c2321a85dbb0e1210b7db50c127c162d0d957b8c245006"), looks := false }, kinds := [], alts := [], laidByText := true, laidKinds := [.data, .data, .data, .data], laidTests := true, laidLooks := .later }
def HalveSilenceUptoCardSaid : Prop := Claim7.holds Tryz.pinned (.plain (OpenSpec.upto halveSilenceSpec)) halveSilenceUptoCard

/-- THE SECOND FORM's CARD OF 'baizelaw23.HalveClone'. -/
def halveCloneUptoCard : Claim7 := { stood := { row := halveCloneUptoRow, standIns := [], harness := (true, "fd951ffa63f7af8ea8c2321a85dbb0e1210b7db50c127c162d0d957b8c245006"), looks := false }, kinds := [], alts := [], laidByText := true, laidKinds := [.data, .data, .data, .data], laidTests := true, laidLooks := .later }
def HalveCloneUptoCardSaid : Prop := Claim7.holds Tryz.pinned (.plain (OpenSpec.upto halveCloneSpec)) halveCloneUptoCard

/-- THE SECOND FORM's CARD OF 'baizelaw23.HalveNil'. -/
def halveNilUptoCard : Claim7 := { stood := { row := halveNilUptoRow, standIns := [], harness := (true, "fd951ffa63f7af8ea8c2321a85dbb0e1210b7db50c127c162d0d957b8c245006"), looks := false }, kinds := [], alts := [], laidByText := true, laidKinds := [.data, .data, .data, .data], laidTests := true, laidLooks := .later }
def HalveNilUptoCardSaid : Prop := Claim7.holds Tryz.pinned (.plain (OpenSpec.upto halveNilSpec)) halveNilUptoCard

/-- THE SECOND FORM's CARD OF 'baizelaw22.WitnessDigests'. -/
def witnessDigestsUptoCard : Claim7 := { stood := { row := witnessDigestsUptoRow, standIns := [], harness := (true, "fd951ffa63f7af8ea8c2321a85dbb0e1210b7db50c127c162d0d957b8c245006"), looks := false }, kinds := [], alts := [], laidByText := true, laidKinds := [.data, .data, .data, .data], laidTests := true, laidLooks := .later }
def WitnessDigestsUptoCardSaid : Prop := Claim7.holds Tryz.pinned (.plain (OpenSpec.upto witnessDigestsSpec)) witnessDigestsUptoCard

/-- THE SECOND FORM's CARD OF 'baizelaw22.WitnessStays'. -/
def witnessStaysUptoCard : Claim7 := { stood := { row := witnessStaysUptoRow, standIns := [], harness := (true, "fd951ffa63f7af8ea8c2321a85dbb0e1210b7db50c127c162d0d957b8c245006"), looks := false }, kinds := [], alts := [], laidByText := true, laidKinds := [.data, .data, .data, .data], laidTests := true, laidLooks := .later }
def WitnessStaysUptoCardSaid : Prop := Claim7.holds Tryz.pinned (.plain (OpenSpec.upto witnessStaysSpec)) witnessStaysUptoCard

/-- THE SECOND FORM's CARD OF 'baizelaw22.WitnessTrace'. -/
def witnessTraceUptoCard : Claim7 := { stood := { row := witnessTraceUptoRow, standIns := [], harness := (true, "fd951ffa63f7af8ea8c2321a85dbb0e1210b7db50c127c162d0d957b8c245006"), looks := false }, kinds := [], alts := [], laidByText := true, laidKinds := [.data, .data, .data, .data], laidTests := true, laidLooks := .later }
def WitnessTraceUptoCardSaid : Prop := Claim7.holds Tryz.pinned (.plain (OpenSpec.upto witnessTraceSpec)) witnessTraceUptoCard

/-- THE SECOND FORM's CARD OF 'baizelaw22.WitnessSmall'. -/
def witnessSmallUptoCard : Claim7 := { stood := { row := witnessSmallUptoRow, standIns := [], harness := (true, "fd951ffa63f7af8ea8c2321a85dbb0e1210b7db50c127c162d0d957b8c245006"), looks := false }, kinds := [], alts := [], laidByText := true, laidKinds := [.data, .data, .data, .data], laidTests := true, laidLooks := .later }
def WitnessSmallUptoCardSaid : Prop := Claim7.holds Tryz.pinned (.plain (OpenSpec.upto witnessSmallSpec)) witnessSmallUptoCard

/-- THE SECOND FORM's CARD OF 'baizelaw23.HalveActs'. -/
def halveActsUptoCard : Claim7 := { stood := { row := halveActsUptoRow, standIns := [], harness := (true, "fd951ffa63f7af8ea8c2321a85dbb0e1210b7db50c127c162d0d957b8c245006"), looks := false }, kinds := [], alts := [], laidByText := true, laidKinds := [.data, .data, .data, .data], laidTests := true, laidLooks := .later }
def HalveActsUptoCardSaid : Prop := Claim7.holds Tryz.pinned (.plain (OpenSpec.upto halveActsSpec)) halveActsUptoCard

/-- THE SECOND FORM's CARD OF 'baizelaw23.HalveTeller'. -/
def halveTellerUptoCard : Claim7 := { stood := { row := halveTellerUptoRow, standIns := [], harness := (true, "fd951ffa63f7af8ea8c2321a85dbb0e1210b7db50c127c162d0d957b8c245006"), looks := false }, kinds := [], alts := [], laidByText := true, laidKinds := [.data, .data, .data, .data], laidTests := true, laidLooks := .later }
def HalveTellerUptoCardSaid : Prop := Claim7.holds Tryz.pinned (.plain (OpenSpec.upto halveTellerSpec)) halveTellerUptoCard

/-- THE SECOND FORM's CARD OF 'baizelaw22.WitnessBytes'. -/
def witnessBytesUptoCard : Claim7 := { stood := { row := witnessBytesUptoRow, standIns := [], harness := (true, "fd951ffa63f7af8ea8c2321a85dbb0e1210b7db50c127c162d0d957b8c245006"), looks := false }, kinds := [], alts := [], laidByText := true, laidKinds := [.data, .data, .data, .data], laidTests := true, laidLooks := .later }
def WitnessBytesUptoCardSaid : Prop := Claim7.holds Tryz.pinned (.plain (OpenSpec.upto witnessBytesSpec)) witnessBytesUptoCard
end Rows
end Go.Proofs.YtahljceanodhkaaGreatDoor
