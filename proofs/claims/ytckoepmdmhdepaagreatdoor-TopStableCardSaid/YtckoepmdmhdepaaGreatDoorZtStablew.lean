import Derived.Test.YtckoepmdmhdepaaGreatDoorRows
import Derived.Test.YtckoepmdmhdepaaGreatDoorCards
import Derived.Test.YtckoepmdmhdepaaGreatDoorTie
import Derived.LaidMore
import Derived.Lay
import Derived.Stop.Joined
import Derived.SevenTiedAt
import Derived.Test.YtckoepmdmhdepaaGreatDoorZtStable
import Derived.Test.YtckoepmdmhdepaaGreatDoorZtStablev
namespace Go.Proofs.YtckoepmdmhdepaaGreatDoor
set_option linter.all false
open Go.SL Go.ChangeShapes Go.WideShapes Go.ChangeAt Go.RowKit
open Go.ChangeMaps (open_string shut_string)
set_option maxHeartbeats 4000000 in
set_option maxRecDepth 100000 in
/-- The card: the row, tied to the program text. -/
theorem provedTopStable : Rows.TopStableCardSaid :=
  Claim7.holds_tied_plain_at .later [] [.data, .handle, .pinned] true (true, "8f1a66c3586a6543d0ff0deadbb16891bb219f4fbf903f7e28670e1a29a0ce32") true rowTopStable (fun _ h => by cases h) (by as_aux_lemma => kernel_rfl) (fun _ h => by cases h) topStable_row_tie rfl ⟨rfl, rfl⟩ (by as_aux_lemma => kernel_rfl) rfl
    (fun f fn hf hfn => by
      obtain rfl : f = 4 := Option.some.inj ((show Tryz.prog.funcNamed "rescript/rescripttop.TopStable" = some 4 by as_aux_lemma => kernel_rfl).symm.trans hf) |>.symm
      obtain rfl : fn = Tryz.f4 := (Option.some.inj (Tryz.func4.symm.trans hfn)).symm
      exact ⟨by as_aux_lemma => kernel_rfl, fun j t ht => by
        rw [Tryz.params4] at ht
        have hm : t ∈ [59, 22, 22, 3, 9, 22] := by simpa using Array.mem_of_getElem? ht
        have hall : ([59, 22, 22, 3, 9, 22].all fun u => !Tryz.prog.wantsStandIn u) = true := by as_aux_lemma => kernel_rfl
        exact (show Tryz.prog.wantsStandIn t = false by simpa using List.all_eq_true.1 hall t hm)⟩)
    (by as_aux_lemma => kernel_rfl)
end Go.Proofs.YtckoepmdmhdepaaGreatDoor
