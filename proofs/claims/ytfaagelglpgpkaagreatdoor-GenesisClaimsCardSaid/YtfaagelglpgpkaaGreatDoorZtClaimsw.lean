import Derived.Test.YtfaagelglpgpkaaGreatDoorRows
import Derived.Test.YtfaagelglpgpkaaGreatDoorCards
import Derived.Test.YtfaagelglpgpkaaGreatDoorTie
import Derived.LaidMore
import Derived.Lay
import Derived.Stop.Joined
import Derived.SevenTiedAt
import Derived.Test.YtfaagelglpgpkaaGreatDoorZtClaims
import Derived.Test.YtfaagelglpgpkaaGreatDoorZtClaimsv
namespace Go.Proofs.YtfaagelglpgpkaaGreatDoor
set_option linter.all false
open Go.SL Go.ChangeShapes Go.WideShapes Go.ChangeAt Go.RowKit
open Go.ChangeMaps (open_string shut_string)
set_option maxHeartbeats 4000000 in
set_option maxRecDepth 100000 in
/-- The card: the row, tied to the program text. -/
theorem provedGenesisClaims : Rows.GenesisClaimsCardSaid :=
  Claim7.holds_tied_plain_at .later [] [.data, .pinned] true (true, "0211ce8be0871b26cafa4649daad7ce4abd6e81dcb4ab816676641ad4fe219b1") false rowGenesisClaims (fun _ h => by cases h) (by as_aux_lemma => kernel_rfl) (fun _ h => by cases h) genesisClaims_row_tie rfl ⟨rfl, rfl⟩ (by as_aux_lemma => kernel_rfl) rfl
    (fun f fn hf hfn => by
      obtain rfl : f = 4 := Option.some.inj ((show Tryz.prog.funcNamed "rescript/rescriptlaw25.GenesisClaims" = some 4 by as_aux_lemma => kernel_rfl).symm.trans hf) |>.symm
      obtain rfl : fn = Tryz.f4 := (Option.some.inj (Tryz.func4.symm.trans hfn)).symm
      exact ⟨by as_aux_lemma => kernel_rfl, fun j t ht => by
        rw [Tryz.params4] at ht
        have hm : t ∈ [32] := by simpa using Array.mem_of_getElem? ht
        have hall : ([32].all fun u => !Tryz.prog.wantsStandIn u) = true := by as_aux_lemma => kernel_rfl
        exact (show Tryz.prog.wantsStandIn t = false by simpa using List.all_eq_true.1 hall t hm)⟩)
    (by as_aux_lemma => kernel_rfl)
end Go.Proofs.YtfaagelglpgpkaaGreatDoor
