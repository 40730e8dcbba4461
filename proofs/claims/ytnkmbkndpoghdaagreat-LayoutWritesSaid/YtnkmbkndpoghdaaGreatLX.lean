import Derived.Test.YtnkmbkndpoghdaaGreatLXd
namespace Go.Proofs.YtnkmbkndpoghdaaGreat
set_option linter.all false
open Go.SL Go.RowKit Go.Shelf
/-! ### the reference of layouts: Rest; the law of what is told -/
theorem change_ok {f : Int} {s0 : List AcE} {go : Int → AcE → AcE × Int} {w : Int} {ws : List Int} {t tf : List AcE} (h : changeL f s0 go (w :: ws) t = (tf, 0)) (hc : (codeE f w).2 = true) :
    (go w (oldE t w)).2 = 0 ∧ (putS t (go w (oldE t w)).1).2 = 0 ∧ changeL f s0 go ws (putS t (go w (oldE t w)).1).1 = (tf, 0) := by
  rw [changeL_cons, if_neg (by rw [hc]; simp)] at h
  by_cases h1 : (go w (oldE t w)).2 = 0
  · rw [if_neg (by simpa using h1)] at h
    by_cases h2 : (putS t (go w (oldE t w)).1).2 = 0
    · rw [if_neg (by simpa using h2)] at h
      exact ⟨h1, h2, h⟩
    · rw [if_pos h2] at h; exact absurd (Prod.mk.inj h).2 h2
  · rw [if_pos h1] at h; exact absurd (Prod.mk.inj h).2 h1
theorem rows_ok {a : AcE} {x : BS × BS} {l : List (BS × BS)} (h : (setRows a (x :: l)).2 = 0) : (setE a x.1 x.2).2 = 0 ∧ setRows a (x :: l) = setRows (setE a x.1 x.2).1 l := by
  rw [setRows_cons] at h ⊢
  by_cases h1 : (setE a x.1 x.2).2 = 0
  · rw [if_neg (by simpa using h1)] at h ⊢; exact ⟨h1, rfl⟩
  · rw [if_pos h1] at h; exact absurd h h1
end Go.Proofs.YtnkmbkndpoghdaaGreat
