import Derived.Test.YtfaagelglpgpkaaGreatDoorRows
import Derived.Test.YtfaagelglpgpkaaGreatDoorCards
import Derived.Test.YtfaagelglpgpkaaGreatDoorTie
import Derived.LaidMore
import Derived.Lay
import Derived.Stop.Joined
import Derived.SevenTiedAt
namespace Go.Proofs.YtfaagelglpgpkaaGreatDoor
set_option linter.all false
theorem joinTwo {a b : Bool} (h : a = true) (k : b = true) : (a && b) = true := by rw [h, k]; rfl
set_option maxHeartbeats 4000000 in
set_option maxRecDepth 100000 in
theorem closedFacts : joinedFacts Tryz.pinned.checked.prog 4 Tryz.f4 Rows.genesisClaimsSpec Rows.genesisClaimsRow = true :=
  (joinTwo (joinTwo (joinTwo (joinTwo (joinTwo (joinTwo (joinTwo (joinTwo (joinTwo (joinTwo (joinTwo (joinTwo (joinTwo (joinTwo (joinTwo (joinTwo (joinTwo (joinTwo (joinTwo (joinTwo (joinTwo (joinTwo (joinTwo (joinTwo (joinTwo (joinTwo (joinTwo (joinTwo (joinTwo (joinTwo (joinTwo (by as_aux_lemma => kernel_rfl) (by as_aux_lemma => kernel_rfl)) (by as_aux_lemma => kernel_rfl)) (by as_aux_lemma => kernel_rfl)) (by as_aux_lemma => kernel_rfl)) (by as_aux_lemma => kernel_rfl)) (by as_aux_lemma => kernel_rfl)) (by as_aux_lemma => kernel_rfl)) (by as_aux_lemma => kernel_rfl)) (by as_aux_lemma => kernel_rfl)) (by as_aux_lemma => kernel_rfl)) (by as_aux_lemma => kernel_rfl)) (by as_aux_lemma => kernel_rfl)) (by as_aux_lemma => kernel_rfl)) (by as_aux_lemma => kernel_rfl)) (by as_aux_lemma => kernel_rfl)) (by as_aux_lemma => kernel_rfl)) (by as_aux_lemma => kernel_rfl)) (by as_aux_lemma => kernel_rfl)) (by as_aux_lemma => kernel_rfl)) (by as_aux_lemma => kernel_rfl)) (by as_aux_lemma => kernel_rfl)) (by as_aux_lemma => kernel_rfl)) (by as_aux_lemma => kernel_rfl)) (by as_aux_lemma => kernel_rfl)) (by as_aux_lemma => kernel_rfl)) (by as_aux_lemma => kernel_rfl)) (by as_aux_lemma => kernel_rfl)) (by as_aux_lemma => kernel_rfl)) (by as_aux_lemma => kernel_rfl)) (by as_aux_lemma => kernel_rfl)) (by as_aux_lemma => kernel_rfl))
end Go.Proofs.YtfaagelglpgpkaaGreatDoor
