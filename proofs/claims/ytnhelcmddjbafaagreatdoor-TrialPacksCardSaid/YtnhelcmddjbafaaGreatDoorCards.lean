/-
  DERIVED. GIVEN WITH THE SEED: THE CARDS: each row of YtnhelcmddjbafaaGreatDoorRows.lean that lists a variable, with what it lists TIED to the program's text (the seventh form; the later family's looks); each row that meets fmt, with fmt's text TOLD by the authors' own Lean function (tested against real Go, not proved from fmt's source: count such statements apart). THE CARD IS WHAT COUNTS. Prove the row's statement (the work); the ties are given (YtnhelcmddjbafaaGreatDoorTie.lean); close each card by the builder's one call (the guide's Derived/Test/ToyasCard.lean, 'card_holds'). Laid BY PROGRAM, IN A SANDBOX (cutbox-door.mjs). By AI agents, Wed Nov 11 2026. No macro, syntax, notation, axiom, sorry.
-/
import Derived.Test.YtnhelcmddjbafaaGreatDoorRows
import GoSem.ClaimSeven
namespace Go.Proofs.YtnhelcmddjbafaaGreatDoor
namespace Rows

/-- THE TIED CARD OF 'baizelaw36.TrialMiddles'. -/
def trialMiddlesCard : Claim7 := { stood := { row := trialMiddlesRow, standIns := [], harness := (true, "a9ca1449bc16a6c3d9d87955f9cc16510f9c320312281b40c322cd50ad8521ba"), looks := true }, kinds := [], alts := [], laidByText := true, laidKinds := [.data, .data, .data, .listed, .data, .data, .data, .data], laidTests := true, laidLooks := .later }
def TrialMiddlesCardSaid : Prop := Claim7.holds Tryz.pinned (.plain (OpenSpec.ofChange trialMiddlesSpec)) trialMiddlesCard

/-- THE TIED CARD OF 'baizelaw36.TrialHonest'. -/
def trialHonestCard : Claim7 := { stood := { row := trialHonestRow, standIns := [], harness := (true, "a9ca1449bc16a6c3d9d87955f9cc16510f9c320312281b40c322cd50ad8521ba"), looks := true }, kinds := [], alts := [], laidByText := true, laidKinds := [.data, .data, .data, .listed, .data, .data, .data, .data], laidTests := true, laidLooks := .later }
def TrialHonestCardSaid : Prop := Claim7.holds Tryz.pinned (.plain (OpenSpec.ofChange trialHonestSpec)) trialHonestCard

/-- THE TIED CARD OF 'baizelaw36.TrialSilent'. -/
def trialSilentCard : Claim7 := { stood := { row := trialSilentRow, standIns := [], harness := (true, "a9ca1449bc16a6c3d9d87955f9cc16510f9c320312281b40c322cd50ad8521ba"), looks := true }, kinds := [], alts := [], laidByText := true, laidKinds := [.data, .data, .data, .listed, .data, .data, .data, .data], laidTests := true, laidLooks := .later }
def TrialSilentCardSaid : Prop := Claim7.holds Tryz.pinned (.plain (OpenSpec.ofChange trialSilentSpec)) trialSilentCard

/-- THE TIED CARD OF 'baizelaw36.TrialNews'. -/
def trialNewsCard : Claim7 := { stood := { row := trialNewsRow, standIns := [], harness := (true, "a9ca1449bc16a6c3d9d87955f9cc16510f9c320312281b40c322cd50ad8521ba"), looks := true }, kinds := [], alts := [], laidByText := true, laidKinds := [.data, .data, .data, .listed, .data, .data, .data, .data], laidTests := true, laidLooks := .later }
def TrialNewsCardSaid : Prop := Claim7.holds Tryz.pinned (.plain (OpenSpec.ofChange trialNewsSpec)) trialNewsCard

/-- THE TIED CARD OF 'baizelaw36.TrialClones'. -/
def trialClonesCard : Claim7 := { stood := { row := trialClonesRow, standIns := [], harness := (true, "a9ca1449bc16a6c3d9d87955f9cc16510f9c320312281b40c322cd50ad8521ba"), looks := true }, kinds := [], alts := [], laidByText := true, laidKinds := [.data, .data, .data, .listed, .data, .data, .data, .data], laidTests := true, laidLooks := .later }
def TrialClonesCardSaid : Prop := Claim7.holds Tryz.pinned (.plain (OpenSpec.ofChange trialClonesSpec)) trialClonesCard

/-- THE TIED CARD OF 'baizelaw36.TrialPacks'. -/
def trialPacksCard : Claim7 := { stood := { row := trialPacksRow, standIns := [], harness := (true, "a9ca1449bc16a6c3d9d87955f9cc16510f9c320312281b40c322cd50ad8521ba"), looks := true }, kinds := [], alts := [], laidByText := true, laidKinds := [.data, .data, .data, .listed, .data, .data, .data, .data], laidTests := true, laidLooks := .later }
def TrialPacksCardSaid : Prop := Claim7.holds Tryz.pinned (.plain (OpenSpec.ofChange trialPacksSpec)) trialPacksCard

/-- THE SECOND FORM's CARD OF 'baizelaw36.TrialMiddles'. -/
def trialMiddlesUptoCard : Claim7 := { stood := { row := trialMiddlesUptoRow, standIns := [], harness := (true, "a9ca1449bc16a6c3d9d87955f9cc16510f9c320312281b40c322cd50ad8521ba"), looks := true }, kinds := [], alts := [], laidByText := true, laidKinds := [.data, .data, .data, .listed, .data, .data, .data, .data], laidTests := true, laidLooks := .later }
def TrialMiddlesUptoCardSaid : Prop := Claim7.holds Tryz.pinned (.plain (OpenSpec.upto trialMiddlesSpec)) trialMiddlesUptoCard

/-- THE SECOND FORM's CARD OF 'baizelaw36.TrialHonest'. -/
def trialHonestUptoCard : Claim7 := { stood := { row := trialHonestUptoRow, standIns := [], harness := (true, "a9ca1449bc16a6c3d9d87955f9cc16510f9c320312281b40c322cd50ad8521ba"), looks := true }, kinds := [], alts := [], laidByText := true, laidKinds := [.data, .data, .data, .listed, .data, .data, .data, .data], laidTests := true, laidLooks := .later }
def TrialHonestUptoCardSaid : Prop := Claim7.holds Tryz.pinned (.plain (OpenSpec.upto trialHonestSpec)) trialHonestUptoCard

/-- THE SECOND FORM's CARD OF 'baizelaw36.TrialSilent'. -/
def trialSilentUptoCard : Claim7 := { stood := { row := trialSilentUptoRow, standIns := [], harness := (true, "a9ca1449bc16a6c3d9d87955f9cc16510f9c320312281b40c322cd50ad8521ba"), looks := true }, kinds := [], alts := [], laidByText := true, laidKinds := [.data, .data, .data, .listed, .data, .data, .data, .data], laidTests := true, laidLooks := .later }
def TrialSilentUptoCardSaid : Prop := Claim7.holds Tryz.pinned (.plain (OpenSpec.upto trialSilentSpec)) trialSilentUptoCard

/-- THE SECOND FORM's CARD OF 'baizelaw36.TrialNews'. -/
def trialNewsUptoCard : Claim7 := { stood := { row := trialNewsUptoRow, standIns := [], harness := (true, "a9ca1449bc16a6c3d9d87955f9cc16510f9c320312281b40c322cd50ad8521ba"), looks := true }, kinds := [], alts := [], laidByText := true, laidKinds := [.data, .data, .data, .listed, .data, .data, .data, .data], laidTests := true, laidLooks := .later }
def TrialNewsUptoCardSaid : Prop := Claim7.holds Tryz.pinned (.plain (OpenSpec.upto trialNewsSpec)) trialNewsUptoCard

/-- THE SECOND FORM's CARD OF 'baizelaw36.TrialClones'. -/
def trialClonesUptoCard : Claim7 := { stood := { row := trialClonesUptoRow, standIns := [], harness := (true, "a9ca1449bc16a6c3d9d87955f9cc16510f9c320312281b40c322cd50ad8521ba"), looks := true }, kinds := [], alts := [], laidByText := true, laidKinds := [.data, .data, .data, .listed, .data, .data, .data, .data], laidTests := true, laidLooks := .later }
def TrialClonesUptoCardSaid : Prop := Claim7.holds Tryz.pinned (.plain (OpenSpec.upto trialClonesSpec)) trialClonesUptoCard

/-- THE SECOND FORM's CARD OF 'baizelaw36.TrialPacks'. -/
def trialPacksUptoCard : Claim7 := { stood := { row := trialPacksUptoRow, standIns := [], harness := (true, "a9ca1449bc16a6c3d9d87955f9cc16510f9c320312281b40c322cd50ad8521ba"), looks := true }, kinds := [], alts := [], laidByText := true, laidKinds := [.data, .data, .data, .listed, .data, .data, .data, .data], laidTests := true, laidLooks := .later }
def TrialPacksUptoCardSaid : Prop := Claim7.holds Tryz.pinned (.plain (OpenSpec.upto trialPacksSpec)) trialPacksUptoCard
end Rows
end Go.Proofs.YtnhelcmddjbafaaGreatDoor
