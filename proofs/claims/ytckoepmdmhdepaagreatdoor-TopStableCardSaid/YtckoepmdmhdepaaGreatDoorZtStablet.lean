import Derived.Test.YtckoepmdmhdepaaGreatDoorRows
import Derived.Test.YtckoepmdmhdepaaGreatDoorCards
import Derived.Test.YtckoepmdmhdepaaGreatDoorTie
import Derived.LaidMore
import Derived.Lay
import Derived.Stop.Joined
import Derived.SevenTiedAt
namespace Go.Proofs.YtckoepmdmhdepaaGreatDoor
set_option linter.all false
theorem joinTwo {a b : Bool} (h : a = true) (k : b = true) : (a && b) = true := by rw [h, k]; rfl
set_option maxHeartbeats 4000000 in
set_option maxRecDepth 100000 in
theorem closedFacts : joinedFacts Tryz.pinned.checked.prog 4 Tryz.f4 Rows.topStableSpec Rows.topStableRow = true :=
  (joinTwo (joinTwo (joinTwo (joinTwo (joinTwo (joinTwo (joinTwo (joinTwo (joinTwo (joinTwo (joinTwo (joinTwo (joinTwo (joinTwo (joinTwo (joinTwo (joinTwo (joinTwo (joinTwo (joinTwo (joinTwo (joinTwo (joinTwo (joinTwo (joinTwo (joinTwo (joinTwo (joinTwo (joinTwo (joinTwo (joinTwo (by as_aux_lemma => kernel_rfl) (by as_aux_lemma => kernel_rfl)) (by as_aux_lemma => kernel_rfl)) (by as_aux_lemma => kernel_rfl)) (by as_aux_lemma => kernel_rfl)) (by as_aux_lemma => kernel_rfl)) (by as_aux_lemma => kernel_rfl)) (by as_aux_lemma => kernel_rfl)) (by as_aux_lemma => kernel_rfl)) (by as_aux_lemma => kernel_rfl)) (by as_aux_lemma => kernel_rfl)) (by as_aux_lemma => kernel_rfl)) (by as_aux_lemma => kernel_rfl)) (by as_aux_lemma => kernel_rfl)) (by as_aux_lemma => kernel_rfl)) (by as_aux_lemma => kernel_rfl)) (by as_aux_lemma => kernel_rfl)) (by as_aux_lemma => kernel_rfl)) (by as_aux_lemma => kernel_rfl)) (by as_aux_lemma => kernel_rfl)) (by as_aux_lemma => kernel_rfl)) (by as_aux_lemma => kernel_rfl)) (by as_aux_lemma => kernel_rfl)) (by as_aux_lemma => kernel_rfl)) (by as_aux_lemma => kernel_rfl)) (by as_aux_lemma => kernel_rfl)) (by as_aux_lemma => kernel_rfl)) (by as_aux_lemma => kernel_rfl)) (by as_aux_lemma => kernel_rfl)) (by as_aux_lemma => kernel_rfl)) (by as_aux_lemma => kernel_rfl)) (by as_aux_lemma => kernel_rfl))
end Go.Proofs.YtckoepmdmhdepaaGreatDoor
