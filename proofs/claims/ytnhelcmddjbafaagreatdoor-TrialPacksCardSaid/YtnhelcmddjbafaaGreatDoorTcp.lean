import Derived.Test.YtnhelcmddjbafaaGreatDoorCards
import Derived.Test.YtnhelcmddjbafaaGreatDoorTie
import Derived.ProofKit
import Derived.OpenShut
import Derived.ShutString
import Derived.ChangeOld
import Derived.Below
import Derived.Deep.DeepHandedRow
import Derived.Lib.LaidTab
import Derived.Lib.SpaceR
import Derived.Deep.DeepLaidRun
import Derived.Deep.DeepWitnessRef
namespace Go.Proofs.YtnhelcmddjbafaaGreatDoor.trialPacks
open Go.ChangeShapes Go.WideShapes Go.ChangeAt Go.RowKit
set_option maxHeartbeats 4000000 in
theorem clo : joinedFacts Tryz.pinned.checked.prog 8 Tryz.f8 (OpenSpec.ofChange Rows.trialPacksSpec).bare Rows.trialPacksRow = true := by
  unfold joinedFacts
  simp only [Bool.and_eq_true]
  repeat' apply And.intro
  all_goals as_aux_lemma => kernel_rfl
end Go.Proofs.YtnhelcmddjbafaaGreatDoor.trialPacks
