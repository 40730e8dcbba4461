import Derived.Test.YthfinkklgbiaeaaDoorOc
namespace Go.Proofs.YthfinkklgbiaeaaDoor
set_option linter.all false
open Go.SL Go.RowKit Go.Shelf
theorem putR_inv {v : Int} {p : List (List UInt8)} {n : Nat} {s : List UInt8} (h : putR v p n = (s, 0)) : (v = 0 ∨ v = 1) ∧ (∀ j, j < p.length → (p.getD j []).length = 32) ∧ (v = 0 → n = 0) ∧ s = headO v ++ p.flatten ++ tailO v n := by
  unfold putR at h
  split at h
  · simp at h
  · split at h
    · simp at h
    · rename_i h1 h2
      simp only [Prod.mk.injEq, and_true] at h
      refine ⟨by omega, fun j hj => ?_, fun hv => ?_, h.symm⟩
      · have h3 : all32 p = true := by
          cases h : all32 p with
          | true => rfl
          | false => exact absurd (.inl h) h2
        exact of_decide_eq_true (List.all_eq_true.1 h3 (p.getD j []) (by simp [List.getD_eq_getElem?_getD, hj]))
      · by_cases hn : n = 0
        · exact hn
        · exact absurd (.inr ⟨hv, hn⟩) h2
theorem tailO_len {v : Int} (h : v = 0 ∨ v = 1) (n : Nat) : (tailO v n).length = 8 * v.toNat := by
  unfold tailO; rcases h with rfl | rfl <;> simp [leN_len]
theorem parts3 (s : List UInt8) : partsS s 3 = [partO s 0, partO s 1, partO s 2] := rfl
theorem get_put {v : Int} {p : List (List UInt8)} (hp : p.length = 3) {n : Nat} (hn : n < 18446744073709551616) {s : List UInt8} (h : putR v p n = (s, 0)) : getR s = (v.toNat, p, n, 0) ∧ s.length = 128 + 8 * v.toNat := by
  obtain ⟨hv, hl, h0, rfl⟩ := putR_inv h
  obtain ⟨a, b, c, rfl⟩ := three hp
  have ha : a.length = 32 := hl 0 (by simp)
  have hb : b.length = 32 := hl 1 (by simp)
  have hc : c.length = 32 := hl 2 (by simp)
  have hh := headO_len v
  have ht := tailO_len hv n
  obtain ⟨s, hs⟩ : ∃ s, s = headO v ++ [a, b, c].flatten ++ tailO v n := ⟨_, rfl⟩
  have hs' : s = headO v ++ (a ++ (b ++ (c ++ tailO v n))) := by rw [hs]; simp
  have hsl : s.length = 128 + 8 * v.toNat := by rw [hs']; simp only [List.length_append]; omega
  have e32 : s.take 32 = headO v := by rw [hs', List.take_append_of_le_length (by omega), ← hh, List.take_length]
  have hw : wO s = [v.toNat, 0, 0, 0] := by unfold wO; rw [e32]; exact beD_unf (wokN (by omega))
  have e1 : s.drop 32 = a ++ (b ++ (c ++ tailO v n)) := by rw [hs', ← hh, List.drop_left]
  have e2 : s.drop 64 = b ++ (c ++ tailO v n) := by rw [show 64 = 32 + 32 from rfl, ← List.drop_drop, e1, ← ha, List.drop_left]
  have e3 : s.drop 96 = c ++ tailO v n := by rw [show 96 = 64 + 32 from rfl, ← List.drop_drop, e2, ← hb, List.drop_left]
  have e4 : s.drop 128 = tailO v n := by rw [show 128 = 96 + 32 from rfl, ← List.drop_drop, e3, ← hc, List.drop_left]
  have tk : ∀ {x y : List UInt8}, x.length = 32 → (x ++ y).take 32 = x := fun {x y} h => by rw [← h, List.take_left]
  have p0 : partO s 0 = a := by unfold partO; rw [List.drop_take, show 32 * (0 + 1) = 32 from rfl, e1, show 32 * (0 + 2) - 32 = 32 from rfl, tk ha]
  have p1 : partO s 1 = b := by unfold partO; rw [List.drop_take, show 32 * (1 + 1) = 64 from rfl, e2, show 32 * (1 + 2) - 64 = 32 from rfl, tk hb]
  have p2 : partO s 2 = c := by unfold partO; rw [List.drop_take, show 32 * (2 + 1) = 96 from rfl, e3, show 32 * (2 + 2) - 96 = 32 from rfl, tk hc]
  rw [← hs]
  refine ⟨?_, hsl⟩
  rw [getR_ok ⟨by rw [hw]; exact small_of _, by rw [hw]; simp only [List.getD_cons_zero]; omega⟩ (by rw [hw]; exact hsl), hw, parts3, p0, p1, p2]
  simp only [List.getD_cons_zero]
  rcases hv with rfl | rfl
  · rw [if_neg (by decide), h0 rfl]
  · rw [if_pos (by decide), e4]
    show (_, _, leV (tailO 1 n), _) = _
    rw [show tailO 1 n = leN n 8 from rfl, leV_leN 8 n (by simpa using hn)]
theorem getR_bad {s : List UInt8} (h : ¬ (getR s).2.2.2 = 0) : (getR s).1 = 0 ∧ (getR s).2.1 = [[], [], []] ∧ (getR s).2.2.1 = 0 := by
  unfold getR at h ⊢
  split
  · exact ⟨rfl, rfl, rfl⟩
  · rename_i h1
    rw [if_neg h1] at h
    split
    · exact ⟨rfl, rfl, rfl⟩
    · rename_i h2
      rw [if_neg h2] at h
      split
      · exact ⟨rfl, rfl, rfl⟩
      · rename_i h3
        rw [if_neg h3] at h
        split
        · exact ⟨rfl, rfl, rfl⟩
        · rename_i h4; rw [if_neg h4] at h; exact absurd rfl h
theorem getR_p3 (s : List UInt8) : (getR s).2.1.length = 3 := by
  unfold getR
  split
  · rfl
  · split
    · rfl
    · split
      · rfl
      · split
        · rfl
        · exact partsS_len s 3
theorem getR_lt (s : List UInt8) : (getR s).2.2.1 < 18446744073709551616 := by
  unfold getR
  split
  · show 0 < 18446744073709551616; decide
  · split
    · show 0 < 18446744073709551616; decide
    · split
      · show 0 < 18446744073709551616; decide
      · split
        · show 0 < 18446744073709551616; decide
        · rename_i h1 h2 h3 h4
          simp only
          split
          · have h5 := leV_lt (s.drop 128)
            rw [List.length_drop, show s.length - 128 = 8 from by omega] at h5
            exact h5
          · decide
theorem put_get {s : List UInt8} (h : (getR s).2.2.2 = 0) : putR ((getR s).1 : Nat) (getR s).2.1 (getR s).2.2.1 = (s, 0) := by
  unfold getR at h ⊢
  split
  · rename_i h1; rw [if_pos h1] at h; simp at h
  · rename_i h1
    rw [if_neg h1] at h
    split
    · rename_i h2; rw [if_pos h2] at h; simp at h
    · rename_i h2
      rw [if_neg h2] at h
      split
      · rename_i h3; rw [if_pos h3] at h; simp at h
      · rename_i h3
        rw [if_neg h3] at h
        split
        · rename_i h4; rw [if_pos h4] at h; simp at h
        · rename_i h4
          have hsm : smallB (wO s) = true ∧ (wO s).getD 0 0 ≤ 1 := by
            by_cases h5 : smallB (wO s) = true ∧ (wO s).getD 0 0 ≤ 1
            · exact h5
            · exact absurd h5 h2
          obtain ⟨m, hm⟩ : ∃ m, m = (wO s).getD 0 0 := ⟨_, rfl⟩
          have hw := small_eq hsm.1
          rw [← hm] at hw hsm h3 h4 ⊢
          have hsl : s.length = 128 + 8 * m := by omega
          simp only
          have l0 : ∀ i, i < 3 → (partO s i).length = 32 := fun i hi => by unfold partO; rw [List.length_drop, List.length_take]; omega
          rw [parts3, putR_ok (by omega) (lens3 (l0 0 (by decide)) (l0 1 (by decide)) (l0 2 (by decide))) (fun hv => by rw [if_neg (by omega)])]
          have hh : headO (m : Int) = s.take 32 := by
            unfold headO
            rw [Int.toNat_natCast, hw]
            exact unf_be (by rw [List.length_take]; omega)
          have ht : tailO (m : Int) (if m = 1 then leV (s.drop 128) else 0) = s.drop 128 := by
            unfold tailO
            by_cases h1 : m = 1
            · rw [if_pos (by omega), if_pos h1]
              have := leN_leV (s.drop 128)
              rw [List.length_drop, show s.length - 128 = 8 from by omega] at this
              exact this
            · rw [if_neg (by omega)]
              exact (List.drop_eq_nil_of_le (by omega)).symm
          rw [hh, ht]
          have pt : ∀ i, partO s i = (s.drop (32 * (i + 1))).take 32 := fun i => by unfold partO; rw [List.drop_take]; congr 1; omega
          simp only [List.flatten_cons, List.flatten_nil, List.append_nil, pt]
          have j : ∀ k (x : List UInt8), (s.drop k).take 32 ++ s.drop (k + 32) = s.drop k := fun k _ => by rw [← List.drop_drop, List.take_append_drop]
          have j1 := j 32 []
          have j2 := j 64 []
          have j3 := j 96 []
          simp only [Nat.reduceMul, Nat.reduceAdd, List.append_assoc] at j1 j2 j3 ⊢
          rw [j3, j2, j1, List.take_append_drop]
end Go.Proofs.YthfinkklgbiaeaaDoor
