import Derived.Test.YthfinkklgbiaeaaDoorNe
namespace Go.Proofs.YthfinkklgbiaeaaDoor
set_option linter.all false
open Go.SL Go.RowKit Go.Shelf
theorem beN_le8 {n : Nat} (hn : n < 18446744073709551616) : (beN n).length ≤ 8 := (beN_len hn (Nat.le_refl 8)).2 hn
theorem unbe_be {n : Nat} (hn : n < 18446744073709551616) : unbeR (beN n) = (n, 0) := by
  have h := beN_le8 hn
  unfold unbeR
  rw [if_neg (by omega)]
  unfold beN
  rw [parseR_bytes (wokN hn)]
  simp only [small_of, if_true, List.getD_cons_zero]
theorem varN_len : ∀ (e v : Nat), 1 ≤ (varN e v).length ∧ (varN e v).length ≤ e + 1
  | 0, v => by simp [varN]
  | e + 1, v => by
    have := varN_len e (v / 128)
    unfold varN; split <;> simp <;> omega
theorem rd_var {a : Nat} {rest : List UInt8} : ∀ (e i acc v : Nat), i + e = 9 → v < 2 * 128 ^ e → (i = 0 ∨ 0 < v) → rdV a i acc ((varN e v ++ rest).take (e + 1)) = (acc + v * 2 ^ (7 * i), a + i + (varN e v).length, 0)
  | e, i, acc, v, hi, hv, h0 => by
    by_cases hlo : v < 128
    · rw [varN_lo hlo]
      have hc : (UInt8.ofNat v).toNat = v := by rw [UInt8.toNat_ofNat', Nat.mod_eq_of_lt (by omega)]
      simp only [List.singleton_append, List.take_succ_cons, List.length_singleton]
      rw [rd_ok (by rw [hc]; rintro ⟨rfl, h⟩; have : e = 0 := by omega
                    subst this; simp at hv; omega) (by rw [hc]; exact hlo) (by rw [hc]; omega), hc, Nat.mod_eq_of_lt hlo]
    · obtain ⟨e, rfl⟩ := var_pos hv hlo
      rw [varN_hi hlo]
      have hc : (UInt8.ofNat (v % 128 + 128)).toNat = v % 128 + 128 := by rw [UInt8.toNat_ofNat', Nat.mod_eq_of_lt (by omega)]
      simp only [List.cons_append, List.take_succ_cons, List.length_cons]
      rw [rd_more (by omega) (by rw [hc]; omega), rd_var e (i + 1) _ (v / 128) (by omega) (var_step hv) (.inr (by omega)), hc]
      have e1 : 2 ^ (7 * (i + 1)) = 128 * 2 ^ (7 * i) := by rw [Nat.mul_add, Nat.pow_add, Nat.mul_comm]
      rw [e1, show (v % 128 + 128) % 128 = v % 128 from by omega]
      have e2 : v / 128 * (128 * 2 ^ (7 * i)) + v % 128 * 2 ^ (7 * i) = v * 2 ^ (7 * i) := by
        rw [← Nat.mul_assoc, ← Nat.add_mul]; congr 1; omega
      simp only [Prod.mk.injEq, and_true]
      omega
theorem unv_var {n : Nat} (hn : n < 18446744073709551616) (p q : List UInt8) : unvR (p ++ varL n ++ q) (p.length : Nat) = (n, p.length + (varL n).length, 0) := by
  unfold unvR
  rw [if_neg (by simp only [List.length_append]; omega), Int.toNat_natCast, List.append_assoc, List.drop_left]
  have := rd_var (a := p.length) (rest := q) 9 0 0 n rfl (var_0 hn) (.inl rfl)
  simpa [varL] using this
theorem rd_back {a : Nat} : ∀ (e i acc : Nat) (T : List UInt8) (N tt : Nat), i + e = 9 → rdV a i acc T = (N, tt, 0) →
    ∃ v rest, v < 2 * 128 ^ e ∧ (i = 0 ∨ 0 < v) ∧ N = acc + v * 2 ^ (7 * i) ∧ tt = a + i + (varN e v).length ∧ T = varN e v ++ rest
  | e, i, acc, [], N, tt, hi, h => by simp [rdV] at h
  | e, i, acc, c :: r, N, tt, hi, h => by
    have hcl := c.toNat_lt
    unfold rdV at h
    split at h
    · simp at h
    · rename_i h1
      split at h
      · rename_i h2
        obtain ⟨e, rfl⟩ : ∃ k, e = k + 1 := ⟨e - 1, by omega⟩
        obtain ⟨v, rest, g1, g2, g3, g4, g5⟩ := rd_back e (i + 1) _ r N tt (by omega) h
        have hv : c.toNat % 128 + 128 * v < 2 * 128 ^ (e + 1) := by rw [Nat.pow_succ]; omega
        have hge : ¬ c.toNat % 128 + 128 * v < 128 := by omega
        have e3 : varN (e + 1) (c.toNat % 128 + 128 * v) = c :: varN e v := by
          rw [varN_hi hge, show (c.toNat % 128 + 128 * v) % 128 + 128 = c.toNat from by omega, show (c.toNat % 128 + 128 * v) / 128 = v from by omega, UInt8.ofNat_toNat]
        have e1 : 2 ^ (7 * (i + 1)) = 128 * 2 ^ (7 * i) := by rw [Nat.mul_add, Nat.pow_add, Nat.mul_comm]
        refine ⟨c.toNat % 128 + 128 * v, rest, hv, .inr (by omega), ?_, ?_, ?_⟩
        · rw [g3, e1, Nat.add_mul, Nat.mul_comm 128 v, Nat.mul_assoc v 128]; omega
        · rw [g4, e3, List.length_cons]; omega
        · rw [e3, g5]; rfl
      · rename_i h2
        split at h
        · simp at h
        · rename_i h3
          simp only [Prod.mk.injEq, and_true] at h
          obtain ⟨rfl, rfl⟩ := h
          have hlo : c.toNat % 128 < 128 := Nat.mod_lt _ (by decide)
          have e3 : varN e (c.toNat % 128) = [c] := by rw [varN_lo hlo, Nat.mod_eq_of_lt (by omega), UInt8.ofNat_toNat]
          refine ⟨c.toNat % 128, r, ?_, by omega, rfl, by rw [e3]; rfl, by rw [e3]; rfl⟩
          cases e with
          | zero => simp; omega
          | succ e => have := Nat.pow_pos (n := e) (show 0 < 128 by decide); rw [Nat.pow_succ]; omega
theorem rd_zero {a : Nat} : ∀ (T : List UInt8) (i acc : Nat), (rdV a i acc T).2.2 ≠ 0 → (rdV a i acc T).1 = 0 ∧ (rdV a i acc T).2.1 = 0
  | [], i, acc, h => by simp [rdV]
  | c :: r, i, acc, h => by
    unfold rdV at h ⊢
    split
    · simp
    · rename_i h1
      rw [if_neg h1] at h
      split
      · rename_i h2; rw [if_pos h2] at h; exact rd_zero r _ _ h
      · rename_i h2
        rw [if_neg h2] at h
        split
        · simp
        · rename_i h3; rw [if_neg h3] at h; simp at h
theorem unv_bad {s : List UInt8} {p : Int} (h : ¬ (unvR s p).2.2 = 0) : (unvR s p).1 = 0 ∧ (unvR s p).2.1 = 0 := by
  unfold unvR at h ⊢
  split
  · simp
  · rename_i h1; rw [if_neg h1] at h; exact rd_zero _ _ _ h
theorem unv_ok {s : List UInt8} {p : Int} (h : (unvR s p).2.2 = 0) : (unvR s p).1 < 18446744073709551616 ∧ 0 ≤ p ∧ p < ((unvR s p).2.1 : Int) ∧ (unvR s p).2.1 ≤ s.length ∧ varL (unvR s p).1 = (s.take (unvR s p).2.1).drop p.toNat := by
  unfold unvR at h ⊢
  split at h
  · simp at h
  · rename_i h1
    rw [if_neg h1]
    obtain ⟨N, tt, e⟩ : ∃ N tt, rdV p.toNat 0 0 ((s.drop p.toNat).take 10) = (N, tt, 0) := ⟨_, _, by rw [← h]⟩
    rw [e]
    obtain ⟨v, rest, g1, -, g3, g4, g5⟩ := rd_back 9 0 0 _ N tt rfl e
    have hN : N = v := by simpa using g3
    subst hN
    have hl := varN_len 9 N
    have hlen := congrArg List.length g5
    simp only [List.length_take, List.length_drop, List.length_append] at hlen
    refine ⟨var_lt (Nat.le_refl 9) g1, by omega, by simp only; omega, by simp only; omega, ?_⟩
    simp only
    unfold varL
    have e5 : (s.take tt).drop p.toNat = (s.drop p.toNat).take (varN 9 N).length := by
      rw [List.drop_take]; congr 1; omega
    rw [e5]
    have : ((s.drop p.toNat).take 10).take (varN 9 N).length = varN 9 N := by rw [g5, List.take_left]
    rw [List.take_take] at this
    rw [show min (varN 9 N).length 10 = (varN 9 N).length from by omega] at this
    exact this.symm
theorem unv_lt (s : List UInt8) (p : Int) : (unvR s p).1 < 18446744073709551616 := by
  by_cases h : (unvR s p).2.2 = 0
  · exact (unv_ok h).1
  · rw [(unv_bad h).1]; decide
theorem le_ok {n : Nat} (hn : n < 18446744073709551616) {k : Int} (h : (leR n k).2 = 0) : unleR (leR n k).1 = (n, 0) ∧ (((leR n k).1.length : Nat) : Int) = k := by
  unfold leR at h ⊢
  split at h
  · simp at h
  · rename_i h1
    rw [if_neg h1]
    obtain ⟨j, rfl⟩ : ∃ j : Nat, k = j := ⟨k.toNat, by omega⟩
    have hj : n < 256 ^ j := (beN_len hn (by omega)).1 (by omega)
    simp only [Int.toNat_natCast, leN_len, and_true]
    unfold unleR
    rw [leN_len, if_neg (by omega), leV_leN j n hj]
theorem unbe_ok {s : List UInt8} (h : (unbeR s).2 = 0) : (unbeR s).1 < 18446744073709551616 ∧ beN (unbeR s).1 = s := by
  unfold unbeR at h ⊢
  split at h
  · simp at h
  · rename_i h1
    rw [if_neg h1]
    simp only at h ⊢
    have hb := parseR_back h
    have hok := parseR_ok s
    have hsm : smallB (parseR s).1 = true := by rw [smallB_eq hok, hb]; exact decide_eq_true (by omega)
    rw [if_pos hsm]
    refine ⟨hok.get 0, ?_⟩
    unfold beN
    rw [small_eq hsm]; exact hb
theorem unbe_lt (s : List UInt8) : (unbeR s).1 < 18446744073709551616 := by
  unfold unbeR
  split
  · decide
  · simp only; split
    · exact (parseR_ok s).get 0
    · decide
theorem unle_lt (s : List UInt8) : (unleR s).1 < 18446744073709551616 := by
  unfold unleR
  split
  · decide
  · have h1 := leV_lt s
    have h2 : 256 ^ s.length ≤ 256 ^ 8 := Nat.pow_le_pow_right (by decide) (by omega)
    have h3 : (256 : Nat) ^ 8 = 18446744073709551616 := by decide
    simp only; omega
theorem unle_ok {s : List UInt8} (h : (unleR s).2 = 0) : leR (unleR s).1 (s.length : Nat) = (s, 0) := by
  have hlt := unle_lt s
  unfold unleR at h hlt ⊢
  split at h
  · simp at h
  · rename_i h1
    rw [if_neg h1] at hlt ⊢
    simp only at hlt ⊢
    have hb : (beN (leV s)).length ≤ s.length := (beN_len hlt (by omega)).2 (leV_lt s)
    unfold leR
    rw [if_neg (by omega), Int.toNat_natCast, leN_leV]
theorem var_pre {m n : Nat} (hm : m < 18446744073709551616) (hn : n < 18446744073709551616) (h : (varL n).take (varL m).length = varL m) : m = n := by
  have h1 := unv_var hm [] ((varL n).drop (varL m).length)
  have h2 := unv_var hn [] []
  rw [List.nil_append] at h1 h2
  rw [List.append_nil] at h2
  have e : varL m ++ (varL n).drop (varL m).length = varL n := by
    have := List.take_append_drop (varL m).length (varL n)
    rw [h] at this; exact this
  rw [e] at h1
  exact congrArg Prod.fst (h1.symm.trans h2)
theorem var_pre_iff {m n : Nat} (hm : m < 18446744073709551616) (hn : n < 18446744073709551616) : decide ((varL n).take (varL m).length = varL m) = decide (m = n) := by
  rw [decide_eq_decide]
  exact ⟨var_pre hm hn, fun h => by rw [h, List.take_length]⟩
theorem beD_drop (l : List Nat) : ∀ j k, (beD l (j + k)).drop j = beD l k
  | 0, k => by simp
  | j + 1, k => by rw [show j + 1 + k = (j + k) + 1 from by omega, beD, List.drop_succ_cons, beD_drop l j k]
theorem beN_be {n : Nat} : beN n = beD [n, 0, 0, 0] (beN n).length := by
  have h := bytesW_pad [n, 0, 0, 0]
  have hl := bytesW_len [n, 0, 0, 0]
  have e : beD [n, 0, 0, 0] 32 = beD [n, 0, 0, 0] ((32 - (bytesW [n, 0, 0, 0]).length) + (bytesW [n, 0, 0, 0]).length) := by congr 1; omega
  have h2 := beD_drop [n, 0, 0, 0] (32 - (bytesW [n, 0, 0, 0]).length) (bytesW [n, 0, 0, 0]).length
  rw [← e, ← h] at h2
  rw [List.drop_left' (by simp)] at h2
  exact h2
theorem sm_beN {n k : Nat} (hn : n < 18446744073709551616) (hk : k ≤ 8) (h : n < 256 ^ k) : sm (dg [n, 0, 0, 0]) k = n := by
  have hz : ∀ t, k ≤ t → t < 32 → dg [n, 0, 0, 0] t = 0 := by
    have := (beN_len hn hk).2 h
    unfold beN bytesW at this
    exact (trim_len _ 32 k).1 this
  have key : ∀ j, k + j ≤ 32 → sm (dg [n, 0, 0, 0]) (k + j) = sm (dg [n, 0, 0, 0]) k := by
    intro j
    induction j with
    | zero => intro _; rfl
    | succ j ih => intro hj; rw [show k + (j + 1) = (k + j) + 1 from by omega, sm, hz (k + j) (by omega) (by omega), ih (by omega)]; simp
  have h32 := key (32 - k) (by omega)
  rw [show k + (32 - k) = 32 from by omega, sm_dg (wokN hn)] at h32
  rw [← h32]; simp [wN]
theorem be_less {m n : Nat} (hm : m < 18446744073709551616) (hn : n < 18446744073709551616) (hl : (beN m).length = (beN n).length) : Op.bytesLess (beN m) (beN n) = decide (m < n) := by
  have h1 := beN_le8 hm
  have h2 := beN_le8 hn
  rw [beN_be (n := m), beN_be (n := n), ← hl, less_be]
  have e1 := (beN_len hm h1).1 (Nat.le_refl _)
  have e2 := (beN_len hn h2).1 (Nat.le_refl _)
  rw [← hl] at e2
  rw [sm_beN hm h1 e1, sm_beN hn h1 e2]
theorem be_len_lt {m n : Nat} (hm : m < 18446744073709551616) (hn : n < 18446744073709551616) (hl : (beN m).length < (beN n).length) : m < n := by
  have h2 := beN_le8 hn
  have e1 := (beN_len hm (by omega : (beN m).length ≤ 8)).1 (Nat.le_refl _)
  have e2 : ¬ n < 256 ^ (beN m).length := fun h => by have := (beN_len hn (by omega : (beN m).length ≤ 8)).2 h; omega
  omega
end Go.Proofs.YthfinkklgbiaeaaDoor
