import Derived.Test.YthfinkklgbiaeaaDoorWj
namespace Go.Proofs.YthfinkklgbiaeaaDoor
set_option linter.all false
open Go.SL Go.RowKit Go.Shelf
theorem pre_zero {s : List UInt8} : Lib.hasPrefix s [0] = true ↔ 0 < s.length ∧ ((s.getD 0 0).toNat : Int) = 0 := by
  cases s with
  | nil => simp [Lib.hasPrefix]
  | cons x s =>
    have : (x = 0) ↔ x.toNat = 0 := ⟨fun h => by rw [h]; rfl, fun h => UInt8.toNat_inj.1 h⟩
    simp only [Lib.hasPrefix, List.isPrefixOf, Bool.and_true, beq_iff_eq, List.length_cons, List.getD_cons_zero]
    constructor
    · intro h; exact ⟨by omega, by rw [← h]; rfl⟩
    · rintro ⟨_, h⟩; exact (this.2 (by omega)).symm
end Go.Proofs.YthfinkklgbiaeaaDoor
