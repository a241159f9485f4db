/-
  DERIVED. GIVEN WITH THE SEED: THE CARDS: each row of YtbfbabbcdochjaaGreatDoorRows.lean that lists a variable, with what it lists TIED to the program's text (the seventh form; the later family's looks); each row that meets fmt, with fmt's text TOLD by the authors' own Lean function (tested against real Go, not proved from fmt's source: count such statements apart). THE CARD IS WHAT COUNTS. Prove the row's statement (the work); the ties are given (YtbfbabbcdochjaaGreatDoorTie.lean); close each card by the builder's one call (the guide's Derived/Test/ToyasCard.lean, 'card_holds'). Laid BY PROGRAM, IN A SANDBOX (cutbox-door.mjs). By AI agents, Wed Nov 11 2026. No macro, syntax, notation, axiom, sorry.
-/
import Derived.Test.YtbfbabbcdochjaaGreatDoorRows
import GoSem.ClaimSeven
namespace Go.Proofs.YtbfbabbcdochjaaGreatDoor
namespace Rows

/-- THE TIED CARD OF 'baizelaw16.CompileMeans'. -/
def compileMeansCard : Claim7 := { stood := { row := compileMeansRow, standIns := [], harness := (true, "b5af111f0adb72852f4a4dc26dac32fb7c80d598246566f8cc376030e018629a"), looks := true }, kinds := [], alts := [], laidByText := true, laidKinds := [.listed, .data, .data, .data, .data], laidTests := true, laidLooks := .later }
def CompileMeansCardSaid : Prop := Claim7.holds Tryz.pinned (.plain (OpenSpec.ofChange compileMeansSpec)) compileMeansCard

/-- THE TIED CARD OF 'baizelaw16.CompileWrong'. -/
def compileWrongCard : Claim7 := { stood := { row := compileWrongRow, standIns := [], harness := (true, "b5af111f0adb72852f4a4dc26dac32fb7c80d598246566f8cc376030e018629a"), looks := true }, kinds := [], alts := [], laidByText := true, laidKinds := [.listed, .data, .data, .data, .data], laidTests := true, laidLooks := .later }
def CompileWrongCardSaid : Prop := Claim7.holds Tryz.pinned (.plain (OpenSpec.ofChange compileWrongSpec)) compileWrongCard

/-- THE TIED CARD OF 'baizelaw16.CompileWhich'. -/
def compileWhichCard : Claim7 := { stood := { row := compileWhichRow, standIns := [], harness := (true, "b5af111f0adb72852f4a4dc26dac32fb7c80d598246566f8cc376030e018629a"), looks := true }, kinds := [], alts := [], laidByText := true, laidKinds := [.listed, .data, .data, .data, .data], laidTests := true, laidLooks := .later }
def CompileWhichCardSaid : Prop := Claim7.holds Tryz.pinned (.plain (OpenSpec.ofChange compileWhichSpec)) compileWhichCard

/-- THE TIED CARD OF 'baizelaw16.CompileRanges'. -/
def compileRangesCard : Claim7 := { stood := { row := compileRangesRow, standIns := [], harness := (true, "b5af111f0adb72852f4a4dc26dac32fb7c80d598246566f8cc376030e018629a"), looks := true }, kinds := [], alts := [], laidByText := true, laidKinds := [.listed, .data, .data, .data, .data], laidTests := true, laidLooks := .later }
def CompileRangesCardSaid : Prop := Claim7.holds Tryz.pinned (.plain (OpenSpec.ofChange compileRangesSpec)) compileRangesCard

/-- THE TIED CARD OF 'baizelaw16.CompilePays'. -/
def compilePaysCard : Claim7 := { stood := { row := compilePaysRow, standIns := [], harness := (true, "b5af111f0adb72852f4a4dc26dac32fb7c80d598246566f8cc376030e018629a"), looks := true }, kinds := [], alts := [], laidByText := true, laidKinds := [.listed, .data, .data, .data, .data], laidTests := true, laidLooks := .later }
def CompilePaysCardSaid : Prop := Claim7.holds Tryz.pinned (.plain (OpenSpec.ofChange compilePaysSpec)) compilePaysCard

/-- THE TIED CARD OF 'baizelaw16.CompileSteps'. -/
def compileStepsCard : Claim7 := { stood := { row := compileStepsRow, standIns := [], harness := (true, "b5af111f0adb72852f4a4dc26dac32fb7c80d598246566f8cc376030e018629a"), looks := true }, kinds := [], alts := [], laidByText := true, laidKinds := [.listed, .data, .data, .data, .data], laidTests := true, laidLooks := .later }
def CompileStepsCardSaid : Prop := Claim7.holds Tryz.pinned (.plain (OpenSpec.ofChange compileStepsSpec)) compileStepsCard

/-- THE TIED CARD OF 'baizelaw16.CompileAgain'. -/
def compileAgainCard : Claim7 := { stood := { row := compileAgainRow, standIns := [], harness := (true, "b5af111f0adb72852f4a4dc26dac32fb7c80d598246566f8cc376030e018629a"), looks := true }, kinds := [], alts := [], laidByText := true, laidKinds := [.listed, .data, .data, .data, .data], laidTests := true, laidLooks := .later }
def CompileAgainCardSaid : Prop := Claim7.holds Tryz.pinned (.plain (OpenSpec.ofChange compileAgainSpec)) compileAgainCard

/-- THE TIED CARD OF 'baizelaw16.CompileStates'. -/
def compileStatesCard : Claim7 := { stood := { row := compileStatesRow, standIns := [], harness := (true, "b5af111f0adb72852f4a4dc26dac32fb7c80d598246566f8cc376030e018629a"), looks := true }, kinds := [], alts := [], laidByText := true, laidKinds := [.listed, .data, .data, .data, .data], laidTests := true, laidLooks := .later }
def CompileStatesCardSaid : Prop := Claim7.holds Tryz.pinned (.plain (OpenSpec.ofChange compileStatesSpec)) compileStatesCard

/-- THE SECOND FORM's CARD OF 'baizelaw16.CompileMeans'. -/
def compileMeansUptoCard : Claim7 := { stood := { row := compileMeansUptoRow, standIns := [], harness := (true, "b5af111f0adb72852f4a4dc26dac32fb7c80d598246566f8cc376030e018629a"), looks := true }, kinds := [], alts := [], laidByText := true, laidKinds := [.listed, .data, .data, .data, .data], laidTests := true, laidLooks := .later }
def CompileMeansUptoCardSaid : Prop := Claim7.holds Tryz.pinned (.plain (OpenSpec.upto compileMeansSpec)) compileMeansUptoCard

/-- THE SECOND FORM's CARD OF 'baizelaw16.CompileWrong'. -/
def compileWrongUptoCard : Claim7 := { stood := { row := compileWrongUptoRow, standIns := [], harness := (true, "b5af111f0adb72852f4a4dc26dac32fb7c80d598246566f8cc376030e018629a"), looks := true }, kinds := [], alts := [], laidByText := true, laidKinds := [.listed, .data, .data, .data, .data], laidTests := true, laidLooks := .later }
def CompileWrongUptoCardSaid : Prop := Claim7.holds Tryz.pinned (.plain (OpenSpec.upto compileWrongSpec)) compileWrongUptoCard

/-- THE SECOND FORM's CARD OF 'baizelaw16.CompileWhich'. -/
def compileWhichUptoCard : Claim7 := { stood := { row := compileWhichUptoRow, standIns := [], harness := (true, "b5af111f0adb72852f4a4dc26dac32fb7c80d598246566f8cc376030e018629a"), looks := true }, kinds := [], alts := [], laidByText := true, laidKinds := [.listed, .data, .data, .data, .data], laidTests := true, laidLooks := .later }
def CompileWhichUptoCardSaid : Prop := Claim7.holds Tryz.pinned (.plain (OpenSpec.upto compileWhichSpec)) compileWhichUptoCard

/-- THE SECOND FORM's CARD OF 'baizelaw16.CompileRanges'. -/
def compileRangesUptoCard : Claim7 := { stood := { row := compileRangesUptoRow, standIns := [], harness := (true, "b5af111f0adb72852f4a4dc26dac32fb7c80d598246566f8cc376030e018629a"), looks := true }, kinds := [], alts := [], laidByText := true, laidKinds := [.listed, .data, .data, .data, .data], laidTests := true, laidLooks := .later }
def CompileRangesUptoCardSaid : Prop := Claim7.holds Tryz.pinned (.plain (OpenSpec.upto compileRangesSpec)) compileRangesUptoCard

/-- THE SECOND FORM's CARD OF 'baizelaw16.CompilePays'. -/
def compilePaysUptoCard : Claim7 := { stood := { row := compilePaysUptoRow, standIns := [], harness := (true, "b5af111f0adb72852f4a4dc26dac32fb7c80d598246566f8cc376030e018629a"), looks := true }, kinds := [], alts := [], laidByText := true, laidKinds := [.listed, .data, .data, .data, .data], laidTests := true, laidLooks := .later }
def CompilePaysUptoCardSaid : Prop := Claim7.holds Tryz.pinned (.plain (OpenSpec.upto compilePaysSpec)) compilePaysUptoCard

/-- THE SECOND FORM's CARD OF 'baizelaw16.CompileSteps'. -/
def compileStepsUptoCard : Claim7 := { stood := { row := compileStepsUptoRow, standIns := [], harness := (true, "b5af111f0adb72852f4a4dc26dac32fb7c80d598246566f8cc376030e018629a"), looks := true }, kinds := [], alts := [], laidByText := true, laidKinds := [.listed, .data, .data, .data, .data], laidTests := true, laidLooks := .later }
def CompileStepsUptoCardSaid : Prop := Claim7.holds Tryz.pinned (.plain (OpenSpec.upto compileStepsSpec)) compileStepsUptoCard

/-- THE SECOND FORM's CARD OF 'baizelaw16.CompileAgain'. -/
def compileAgainUptoCard : Claim7 := { stood := { row := compileAgainUptoRow, standIns := [], harness := (true, "b5af111f0adb72852f4a4dc26dac32fb7c80d598246566f8cc376030e018629a"), looks := true }, kinds := [], alts := [], laidByText := true, laidKinds := [.listed, .data, .data, .data, .data], laidTests := true, laidLooks := .later }
def CompileAgainUptoCardSaid : Prop := Claim7.holds Tryz.pinned (.plain (OpenSpec.upto compileAgainSpec)) compileAgainUptoCard

/-- THE SECOND FORM's CARD OF 'baizelaw16.CompileStates'. -/
def compileStatesUptoCard : Claim7 := { stood := { row := compileStatesUptoRow, standIns := [], harness := (true, "b5af111f0adb72852f4a4dc26dac32fb7c80d598246566f8cc376030e018629a"), looks := true }, kinds := [], alts := [], laidByText := true, laidKinds := [.listed, .data, .data, .data, .data], laidTests := true, laidLooks := .later }
def CompileStatesUptoCardSaid : Prop := Claim7.holds Tryz.pinned (.plain (OpenSpec.upto compileStatesSpec)) compileStatesUptoCard
end Rows
end Go.Proofs.YtbfbabbcdochjaaGreatDoor
