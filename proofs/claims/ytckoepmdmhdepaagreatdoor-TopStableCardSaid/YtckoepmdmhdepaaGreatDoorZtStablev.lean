import Derived.Test.YtckoepmdmhdepaaGreatDoorRows
import Derived.Test.YtckoepmdmhdepaaGreatDoorCards
import Derived.Test.YtckoepmdmhdepaaGreatDoorTie
import Derived.LaidMore
import Derived.Lay
import Derived.Stop.Joined
import Derived.SevenTiedAt
import Derived.Test.YtckoepmdmhdepaaGreatDoorZtStable
import Derived.Test.YtckoepmdmhdepaaGreatDoorZtStableu
import Derived.Test.YtckoepmdmhdepaaGreatDoorZtStablet
namespace Go.Proofs.YtckoepmdmhdepaaGreatDoor
set_option linter.all false
open Go.SL Go.ChangeShapes Go.WideShapes Go.ChangeAt Go.RowKit
open Go.ChangeMaps (open_string shut_string)
set_option maxHeartbeats 4000000 in
set_option maxRecDepth 100000 in
/-- The statement. -/
theorem rowTopStable : Rows.TopStableSaid :=
  OpenClaim.holds_of_wide 4 Tryz.f4 rfl rfl rfl rfl rfl rfl rfl ⟨rfl, rfl, rfl, rfl, rfl⟩ rfl rfl rfl rfl rfl (by as_aux_lemma => kernel_rfl) Tryz.func4 closedFacts
    (of_decide_eq_true (by kernel_rfl)) (by unfold Func.isWrapper; first | (rw [if_pos (by decide +kernel)]; kernel_rfl) | (rw [if_neg (by decide +kernel)]; exact ⟨rfl, rfl⟩))
    (fun os started H enc _ => liftedTopStable os started H enc)
end Go.Proofs.YtckoepmdmhdepaaGreatDoor
