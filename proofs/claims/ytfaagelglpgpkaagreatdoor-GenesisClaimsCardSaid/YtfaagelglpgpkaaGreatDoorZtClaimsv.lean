import Derived.Test.YtfaagelglpgpkaaGreatDoorRows
import Derived.Test.YtfaagelglpgpkaaGreatDoorCards
import Derived.Test.YtfaagelglpgpkaaGreatDoorTie
import Derived.LaidMore
import Derived.Lay
import Derived.Stop.Joined
import Derived.SevenTiedAt
import Derived.Test.YtfaagelglpgpkaaGreatDoorZtClaims
import Derived.Test.YtfaagelglpgpkaaGreatDoorZtClaimsu
import Derived.Test.YtfaagelglpgpkaaGreatDoorZtClaimst
namespace Go.Proofs.YtfaagelglpgpkaaGreatDoor
set_option linter.all false
open Go.SL Go.ChangeShapes Go.WideShapes Go.ChangeAt Go.RowKit
open Go.ChangeMaps (open_string shut_string)
set_option maxHeartbeats 4000000 in
set_option maxRecDepth 100000 in
/-- The statement. -/
theorem rowGenesisClaims : Rows.GenesisClaimsSaid :=
  OpenClaim.holds_of_wide 4 Tryz.f4 rfl rfl rfl rfl rfl rfl rfl ⟨rfl, rfl, rfl, rfl, rfl⟩ rfl rfl rfl rfl rfl (by as_aux_lemma => kernel_rfl) Tryz.func4 closedFacts
    (of_decide_eq_true (by kernel_rfl)) (by unfold Func.isWrapper; first | (rw [if_pos (by decide +kernel)]; kernel_rfl) | (rw [if_neg (by decide +kernel)]; exact ⟨rfl, rfl⟩))
    (fun os started H enc _ => liftedGenesisClaims os started H enc)
end Go.Proofs.YtfaagelglpgpkaaGreatDoor
