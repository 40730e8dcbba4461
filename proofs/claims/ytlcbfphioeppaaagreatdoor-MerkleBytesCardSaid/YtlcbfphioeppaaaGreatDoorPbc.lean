import Derived.Test.YtlcbfphioeppaaaGreatDoorPbb
import Derived.Lib.Overlaps
import Derived.Lib.AppendZerosOnto
import Derived.Laws.StructEq
namespace Go.Proofs.YtlcbfphioeppaaaGreatDoor
set_option linter.all false
open Go.SL Go.RowKit Go.Shelf
theorem wokN {n : Nat} (h : n < 18446744073709551616) : WOk [n, 0, 0, 0] := ⟨rfl, fun x hx => by simp at hx; rcases hx with rfl | rfl <;> simp_all⟩
def beN (n : Nat) : List UInt8 := bytesW [n, 0, 0, 0]
theorem dgN_lo {n t : Nat} (h : t < 8) : dg [n, 0, 0, 0] t = n / 256 ^ t % 256 := by
  have e : t / 8 = 0 := by omega
  have e2 : t % 8 = t := by omega
  simp only [dg, e, e2, List.getD_cons_zero]; rw [show (256 : Nat) = 2 ^ 8 from rfl, ← Nat.pow_mul, Nat.mul_comm]
theorem dgN_hi {n t : Nat} (h : 8 ≤ t) (h2 : t < 32) : dg [n, 0, 0, 0] t = 0 := by
  have hj : t / 8 = 1 ∨ t / 8 = 2 ∨ t / 8 = 3 := by omega
  rcases hj with e | e | e <;> simp [dg, e]
theorem beN_len {n k : Nat} (hn : n < 18446744073709551616) (hk : k ≤ 8) : (beN n).length ≤ k ↔ n < 256 ^ k := by
  unfold beN bytesW
  rw [trim_len]
  constructor
  · intro h
    have h' : ∀ t, k ≤ t → t < 8 → n / 256 ^ t % 256 = 0 := fun t h1 h2 => by rw [← dgN_lo h2]; exact h t h1 (by omega)
    have key : ∀ j, k ≤ j → j ≤ 8 → n < 256 ^ j → n < 256 ^ k := by
      intro j
      induction j with
      | zero => intro h1 _ h3; rw [show k = 0 from by omega]; exact h3
      | succ j ih =>
        intro h1 h2 h3
        by_cases e : k = j + 1
        · rw [e]; exact h3
        · refine ih (by omega) (by omega) ?_
          have h4 := h' j (by omega) (by omega)
          have h5 : n / 256 ^ j < 256 := by
            rw [Nat.div_lt_iff_lt_mul (Nat.pow_pos (by decide))]; rw [Nat.pow_succ, Nat.mul_comm] at h3; exact h3
          rw [Nat.mod_eq_of_lt h5] at h4
          rcases Nat.div_eq_zero_iff.1 h4 with h6 | h6
          · have := Nat.pow_pos (n := j) (show 0 < 256 by decide); omega
          · exact h6
    exact key 8 hk (Nat.le_refl _) hn
  · intro h t h1 h2
    by_cases ht : t < 8
    · rw [dgN_lo ht, Nat.div_eq_of_lt (Nat.lt_of_lt_of_le h (Nat.pow_le_pow_right (by decide) h1))]
    · exact dgN_hi (by omega) h2
set_option maxRecDepth 10000 in
theorem P_num_Be {n : Nat} (hn : n < 18446744073709551616) : Pure Tryz.prog 101 [uV n].toArray (.string (bs (beN n))) := by
  refine pure_of_HC Tryz.func101 rfl rfl fun w => ?_; refine HC_seq fun K1 hK1 => ?_; refine HC_region ?_; refine HL_r rfl rfl rfl rfl (R_assign rfl) ?_; refine HL_nil ?_; refine HQ_then ?_; refine hK1 _ _ _ _ ?_; clear hK1 K1; refine HC_seq fun K2 hK2 => ?_; refine HC_region ?_; refine HL_r rfl rfl rfl rfl (R_move rfl) ?_; refine HL_callP rfl rfl rfl (enters_of Tryz.func150 (by kernel_rfl) rfl) (P_word_Of n) ?_; refine HL_callP rfl rfl rfl (enters_of Tryz.func144 (by kernel_rfl) rfl) (P_word_Bytes (wokN hn)) ?_; refine HL_r rfl rfl rfl rfl (R_assign rfl) ?_; refine HL_nil ?_; refine HQ_then ?_; refine hK2 _ _ _ _ ?_; clear hK2 K2; refine HC_ret ?_; refine HQ_post rfl rfl (.cons (res_tmp rfl) .nil) (fun w1 hs1 => ?_); exact ⟨rfl, hs1.keep⟩
def leR (n : Nat) (w : Int) : List UInt8 × Int := if w < 1 ∨ w > 8 ∨ ((beN n).length : Int) > w then ([], 1) else (leN n w.toNat, 0)
def resS (p : List UInt8 × Int) : Value := .tuple #[.string (bs p.1), .int .i64 p.2]
theorem le_step {n i k : Nat} (h : i < k) : ((leN n i ++ List.replicate (k - i) 0).map bV).set i (bV (UInt8.ofNat (n / 2 ^ (8 * i) % 256))) = (leN n (i + 1) ++ List.replicate (k - (i + 1)) 0).map bV := by
  rw [← List.map_set, List.set_append_right _ _ (by rw [leN_len]; exact Nat.le_refl _), leN_len, Nat.sub_self, show k - i = (k - (i + 1)) + 1 from by omega, List.replicate_succ, List.set_cons_zero, leN_snoc, List.append_assoc]; rw [show (256 : Nat) ^ i = 2 ^ (8 * i) from by rw [show (256 : Nat) = 2 ^ 8 from rfl, ← Nat.pow_mul]]
  rfl
set_option maxRecDepth 10000 in
theorem P_num_Le {n : Nat} (hn : n < 18446744073709551616) (k : Int) : Pure Tryz.prog 56 [uV n, .int .i64 k].toArray (resS (leR n k)) := by
  refine pure_of_HC Tryz.func56 rfl rfl fun w => ?_; refine HC_seq fun K1 hK1 => ?_; refine HC_region ?_; refine HL_r rfl rfl rfl rfl (R_assign rfl) ?_; refine HL_r rfl rfl rfl rfl (R_assign rfl) ?_; refine HL_nil ?_; refine HQ_then ?_; refine hK1 _ _ _ _ ?_; clear hK1 K1; refine HC_seq fun K2 hK2 => ?_; refine HC_seq fun K3 hK3 => ?_; refine HC_region ?_; refine HL_r rfl rfl rfl rfl (R_move rfl) ?_; refine HL_r rfl rfl rfl rfl (R_pure rfl rfl rfl) ?_; refine HL_r rfl rfl rfl rfl (R_move rfl) ?_
  refine HL_case 10 rfl (fun hb4 => ?_) (fun hb4 => ?_) <;> (try simp only [Z1, Z2, Z3, Z4, Z5, Z6, Z7, Z8, Z9, Z10, Z11, Z12, Z13] at hb4) <;> first | (refine HL_r rfl rfl rfl rfl (R_move rfl) ?_) | (refine HL_skip rfl rfl rfl ?_)
  all_goals first
    | (refine HL_r rfl rfl rfl rfl (R_pure rfl rfl rfl) ?_)
    | (refine HL_skip rfl rfl rfl ?_)
  all_goals first
    | (refine HL_r rfl rfl rfl rfl (R_pickT rfl rfl) ?_)
    | (refine HL_r rfl rfl rfl rfl (R_pickF rfl rfl) ?_)
  all_goals refine HL_r rfl rfl rfl rfl (R_move rfl) ?_
  all_goals first
    | (refine HL_skip rfl rfl rfl ?_)
    | (refine HL_case 14 rfl (fun hb6 => ?_) (fun hb6 => ?_) <;> (try simp only [Z1, Z2, Z3, Z4, Z5, Z6, Z7, Z8, Z9, Z10, Z11, Z12, Z13] at hb6) <;> first | (refine HL_r rfl rfl rfl rfl (R_move rfl) ?_) | (refine HL_skip rfl rfl rfl ?_))
  all_goals first
    | (refine HL_callP rfl rfl rfl (enters_of Tryz.func101 (by kernel_rfl) rfl) (P_num_Be hn) ?_)
    | (refine HL_skip rfl rfl rfl ?_)
  all_goals first
    | (refine HL_r rfl rfl rfl rfl (R_lenBs rfl rfl) ?_)
    | (refine HL_skip rfl rfl rfl ?_)
  all_goals first
    | (refine HL_r rfl rfl rfl rfl (R_move rfl) ?_)
    | (refine HL_skip rfl rfl rfl ?_)
  all_goals first
    | (refine HL_r rfl rfl rfl rfl (R_pure rfl rfl rfl) ?_)
    | (refine HL_skip rfl rfl rfl ?_)
  all_goals first
    | (refine HL_r rfl rfl rfl rfl (R_pickT rfl rfl) ?_)
    | (refine HL_r rfl rfl rfl rfl (R_pickF rfl rfl) ?_)
  all_goals refine HL_nil ?_
  all_goals (
   refine HQ_then ?_; refine hK3 _ _ _ _ ?_; clear hK3 K3; refine HC_cond rfl (fun h11 => ?_) (fun h11 => ?_)
   · try exact Bool.noConfusion h11
     try simp only [Z1, Z2, Z3, Z4, Z5, Z6, Z7, Z8, Z9, Z10, Z11, Z12, Z13] at h11
     refine HC_seq fun K12 hK12 => ?_; refine HC_region ?_; refine HL_r rfl rfl rfl rfl (R_assign rfl) ?_; refine HL_r rfl rfl rfl rfl (R_assign rfl) ?_; refine HL_nil ?_; refine HQ_then ?_; refine hK12 _ _ _ _ ?_; clear hK12 K12; refine HC_ret ?_; refine HQ_thenR ?_; clear hK2 K2; refine HQ_post rfl rfl (.cons (res_tmp rfl) (.cons (res_tmp rfl) .nil)) (fun w1 hs1 => ?_); refine ⟨?_, hs1.keep⟩; rw [show leR n k = ([], 1) from by unfold leR; rw [if_pos (by omega)]]; rfl
   · try exact Bool.noConfusion h11
     all_goals try simp only [Z1, Z2, Z3, Z4, Z5, Z6, Z7, Z8, Z9, Z10, Z11, Z12, Z13] at h11
     all_goals (
      refine HC_skip ?_; refine HQ_then ?_; refine hK2 _ _ _ _ ?_; clear hK2 K2; refine HC_seq fun K13 hK13 => ?_
      have hk1 : 1 ≤ k ∧ k ≤ 8 ∧ ((beN n).length : Int) ≤ k := by omega
      have hlr : leR n k = (leN n k.toNat, 0) := by unfold leR; rw [if_neg (by omega)]
      obtain ⟨k, rfl⟩ : ∃ j : Nat, k = j := ⟨k.toNat, by omega⟩
      rw [Int.toNat_natCast] at hlr; refine HC_region ?_; refine HL_r rfl rfl rfl rfl (R_move rfl) ?_; refine HL_make (n := k) (b := 1) rfl rfl rfl rfl rfl rfl rfl rfl rfl (by omega) (by omega) fun r2 => ?_; refine HL_r rfl rfl rfl rfl (R_assign rfl) ?_; refine HL_nil ?_; refine HQ_then ?_; refine hK13 _ _ _ _ ?_; clear hK13 K13; refine HC_seq fun K14 hK14 => ?_; refine HC_seq fun K15 hK15 => ?_; refine HC_region ?_; refine HL_r rfl rfl rfl rfl (R_move rfl) ?_; refine HL_r rfl rfl rfl rfl (R_lenSl rfl rfl) ?_; refine HL_r rfl rfl rfl rfl (R_move rfl) ?_; refine HL_nil ?_; refine HQ_then ?_; refine hK15 _ _ _ _ ?_; clear hK15 K15; refine HC_block ?_; refine HC_loop (σ := Nat) (fun i => i ≤ k) (fun i => [(0, uV n), (6, .slice (some ⟨r2, 0, none⟩) k k), (24, .int .i64 (k : Int)), (25, .int .i64 (i : Int))]) (fun i => [(r2, .cells ((leN n i ++ List.replicate (k - i) 0).map bV).toArray 5 (0, 0))]) (fun _ _ _ => True) (fun i => k - i) 0 (Nat.zero_le _) (.cons rfl (.cons rfl (.cons rfl (.cons rfl .nil)))) (by simp [leN, bV]) (fun _ _ h => h) ?_; intro i hi; refine HC_seq fun K16 hK16 => ?_; refine HC_region ?_; refine HL_r rfl rfl rfl rfl (R_pure rfl rfl rfl) ?_; refine HL_nil ?_; refine HQ_then ?_; refine hK16 _ _ _ _ ?_; clear hK16 K16; refine HC_seq fun K17 hK17 => ?_; refine HC_cond rfl (fun h18 => ?_) (fun h18 => ?_)
      · try exact Bool.noConfusion h18
        try simp only [Z1, Z2, Z3, Z4, Z5, Z6, Z7, Z8, Z9, Z10, Z11, Z12, Z13] at h18
        refine HC_skip ?_; refine HQ_then ?_; refine hK17 _ _ _ _ ?_; clear hK17 K17; refine HC_seq fun K19 hK19 => ?_; refine HC_block ?_; refine HC_seq fun K20 hK20 => ?_; refine HC_region ?_; refine HL_r rfl rfl rfl rfl (R_move rfl) ?_; refine HL_r rfl rfl rfl rfl (R_assign rfl) ?_; refine HL_nil ?_; refine HQ_then ?_; refine hK20 _ _ _ _ ?_; clear hK20 K20; refine HC_region ?_; refine HL_r rfl rfl rfl rfl (R_move rfl) ?_; refine HL_r rfl rfl rfl rfl (R_move rfl) ?_; refine HL_r rfl rfl rfl rfl (R_move rfl) ?_; refine HL_r rfl rfl rfl rfl (R_move rfl) ?_; refine HL_r rfl rfl rfl rfl (R_pure rfl rfl rfl) ?_; refine HL_as (show _ = Value.int .i64 ((8 * i : Nat) : Int) from congrArg (Value.int .i64) (by rw [wrap_i64 (by omega) (by omega)]; omega)) ?_; refine HL_r rfl rfl rfl rfl (R_shr (n := 8 * i) rfl rfl (by omega) (show _ ≤ 64 from by omega) (by omega) (shr_nat _ _)) ?_; refine HL_r rfl rfl rfl rfl (R_pure rfl rfl rfl) ?_; refine HL_as (show _ = bV (UInt8.ofNat (n / 2 ^ (8 * i) % 256)) from byte_mod _) ?_; refine HL_r rfl rfl rfl rfl (R_indexS (j := i) (m := 1) (off' := i) rfl rfl rfl rfl (by omega) (by omega) (by omega)) ?_; refine HL_storeAt (k := 0) (off := i) (xs := (leN n i ++ List.replicate (k - i) 0).map bV) (ys := (leN n (i + 1) ++ List.replicate (k - (i + 1)) 0).map bV) rfl rfl rfl rfl rfl rfl (by simp [leN_len]; omega) (le_step (by omega)) rfl ?_; refine HL_nil ?_; refine HQ_blockN ?_; refine HQ_then ?_; refine hK19 _ _ _ _ ?_; clear hK19 K19; refine HC_region ?_; refine HL_r rfl rfl rfl rfl (R_pure rfl rfl rfl) ?_; refine HL_wrap_i64 (by omega) (by omega) ?_; refine HL_r rfl rfl rfl rfl (R_move rfl) ?_; refine HL_nil ?_; refine HQ_then ?_; exact HQ_again (i + 1) (by omega) (by omega) (.cons rfl (.cons rfl (.cons rfl (.cons rfl .nil)))) (List.Sublist.refl _) (fun _ _ h => h)
      · try exact Bool.noConfusion h18
        try simp only [Z1, Z2, Z3, Z4, Z5, Z6, Z7, Z8, Z9, Z10, Z11, Z12, Z13] at h18
        refine HC_exit ?_; refine HQ_thenE ?_; clear hK17 K17; refine HQ_thenE ?_; refine HQ_blockE ?_; refine HQ_then ?_; refine hK14 _ _ _ _ ?_; clear hK14 K14; refine HC_seq fun K21 hK21 => ?_
        have hik : k = i := by omega
        subst hik; refine HC_region ?_; refine HL_r rfl rfl rfl rfl (R_move rfl) ?_; refine HL_r rfl rfl rfl rfl (R_bytesStr (b := leN n k) (row := some (r2, k, [])) (e := 5) (show _ = some (rowV (leN n k).length (some (r2, k, []))) from by rw [leN_len]; rfl) ⟨by simp [leN_len], by simp [leN_len]⟩ (fun p hp => .inl (by rw [List.mem_singleton.1 hp]; simp)) rfl rfl rfl) ?_; refine HL_r rfl rfl rfl rfl (R_assign rfl) ?_; refine HL_r rfl rfl rfl rfl (R_assign rfl) ?_; refine HL_nil ?_; refine HQ_then ?_; refine hK21 _ _ _ _ ?_; clear hK21 K21; refine HC_ret ?_; refine HQ_post rfl rfl (.cons (res_tmp rfl) (.cons (res_tmp rfl) .nil)) (fun w1 hs1 => ?_); refine ⟨?_, hs1.keep⟩; rw [hlr]; rfl
      skip)
   skip)
end Go.Proofs.YtlcbfphioeppaaaGreatDoor
namespace Go.Proofs.YtlcbfphioeppaaaGreatDoor
set_option linter.all false
open Go.SL Go.RowKit Go.Shelf
end Go.Proofs.YtlcbfphioeppaaaGreatDoor
/-! ### Bits, 8 a byte; numbers, the lowest byte first -/
namespace Go.SL
set_option linter.all false
open Go Go.RowKit Go.Shelf
theorem be_unf2 {l : List Nat} (hl : WOk l) : unfW (beD l 32) = l := by
  have : unfW (beD l 32) = stW (dg l) 32 := stW_congr fun i hi => by
    have h := beD_get l (n := 32) (m := 31 - i) (by omega)
    have e : 32 - 1 - (31 - i) = i := by omega
    rw [e] at h
    rw [List.getD_eq_getElem?_getD, h, Option.getD_some, UInt8.toNat_ofNat', Nat.mod_eq_of_lt (dg_lt l i)]
  rw [this, st_dg hl]
/-- A number's bytes, the lowest ones first. -/
def leW (w : List Nat) (n : Nat) : List UInt8 := (beD w 32).reverse.take n
theorem leW_len (w : List Nat) {n : Nat} (h : n ≤ 32) : (leW w n).length = n := by
  unfold leW; rw [List.length_take, List.length_reverse, beD_len]; omega
/-- The number of bytes. -/
def padZ (s : List UInt8) : List UInt8 := s ++ List.replicate (32 - s.length) 0
def numD (s : List UInt8) : List Nat := unfW (padZ s).reverse
theorem padZ_len {s : List UInt8} (h : s.length ≤ 32) : (padZ s).length = 32 := by unfold padZ; rw [List.length_append, List.length_replicate]; omega
theorem num_le {w : List Nat} (hw : WOk w) {n : Nat} (hn : n ≤ 32) (h : ∀ t, n ≤ t → t < 32 → dg w t = 0) : numD (leW w n) = w := by
  have e : (padZ (leW w n)).reverse = beD w 32 := by
    have e2 : padZ (leW w n) = (beD w 32).reverse := by
      unfold padZ
      rw [leW_len w hn]
      unfold leW
      rw [← List.take_append_drop n (beD w 32).reverse]
      congr 1
      · rw [List.take_append_drop]
      · apply List.ext_getElem?
        intro m
        rw [List.getElem?_replicate, List.getElem?_drop]
        by_cases hm : m < 32 - n
        · rw [if_pos hm, List.getElem?_reverse (by rw [beD_len]; omega), beD_len, beD_get _ (by omega)]
          rw [show 32 - 1 - (32 - 1 - (n + m)) = n + m by omega, h (n + m) (by omega) (by omega)]
          rfl
        · rw [if_neg hm, List.getElem?_eq_none (by rw [List.length_reverse, beD_len]; omega)]
    rw [e2, List.reverse_reverse]
  unfold numD
  rw [e, be_unf2 hw]
/-! bits -/
def packS (l : List Bool) (N : Nat) : Nat → List UInt8
  | 0 => List.replicate N 0
  | i + 1 => if l.getD i false = true then (packS l N i).set (i / 8) (UInt8.ofNat (((packS l N i).getD (i / 8) 0).toNat ||| 2 ^ (i % 8))) else packS l N i
theorem packS_len (l : List Bool) (N : Nat) : ∀ i, (packS l N i).length = N
  | 0 => by rw [packS, List.length_replicate]
  | i + 1 => by
    rw [packS]
    split
    · rw [List.length_set, packS_len l N i]
    · exact packS_len l N i
theorem or_lt {x m : Nat} (hx : x < 256) (hm : m < 8) : x ||| 2 ^ m < 256 := Nat.or_lt_two_pow (n := 8) hx (Nat.pow_lt_pow_right (by decide) hm)
theorem packS_bit (l : List Bool) (N : Nat) : ∀ (i q j : Nat), i ≤ 8 * N → q < N → j < 8 → ((packS l N i).getD q 0).toNat.testBit j = (decide (8 * q + j < i) && l.getD (8 * q + j) false)
  | 0, q, j, _, hq, hj => by
    rw [packS, List.getD_eq_getElem?_getD, List.getElem?_replicate, if_pos hq]
    simp
  | i + 1, q, j, hi, hq, hj => by
    have ih := packS_bit l N i q j (by omega) hq hj
    rw [packS]
    split
    · rename_i hl
      rw [List.getD_eq_getElem?_getD, List.getElem?_set, packS_len]
      by_cases hqi : i / 8 = q
      · subst hqi
        rw [if_pos rfl, if_pos (by omega)]
        show (UInt8.ofNat _).toNat.testBit j = _
        rw [UInt8.toNat_ofNat', Nat.mod_eq_of_lt (or_lt (u8_lt _) (Nat.mod_lt _ (by decide))), Nat.testBit_or, ih, Nat.testBit_two_pow]
        by_cases hij : i % 8 = j
        · have e : 8 * (i / 8) + j = i := by omega
          rw [e, hl, decide_eq_true hij, decide_eq_true (Nat.lt_succ_self i)]
          simp
        · rw [decide_eq_false hij, Bool.or_false]
          congr 1
          rw [decide_eq_decide]; omega
      · rw [if_neg hqi, ← List.getD_eq_getElem?_getD, ih]
        congr 1
        rw [decide_eq_decide]; omega
    · rename_i hl
      rw [ih]
      by_cases hij : 8 * q + j = i
      · rw [hij, decide_eq_false (Nat.lt_irrefl i), decide_eq_true (Nat.lt_succ_self i)]
        simp at hl ⊢; exact hl
      · congr 1
        rw [decide_eq_decide]; omega
def packB (l : List Bool) : List UInt8 := packS l ((l.length + 7) / 8) l.length
theorem packB_len (l : List Bool) : (packB l).length = (l.length + 7) / 8 := packS_len _ _ _
theorem packB_bit (l : List Bool) {q j : Nat} (hq : q < (l.length + 7) / 8) (hj : j < 8) : ((packB l).getD q 0).toNat.testBit j = l.getD (8 * q + j) false := by
  unfold packB
  rw [packS_bit l _ _ q j (by omega) hq hj]
  by_cases h : 8 * q + j < l.length
  · rw [decide_eq_true h, Bool.true_and]
  · rw [decide_eq_false h, Bool.false_and, List.getD_eq_getElem?_getD, List.getElem?_eq_none (by omega)]; rfl
def bitAt (s : List UInt8) (i : Nat) : Bool := (s.getD (i / 8) 0).toNat.testBit (i % 8)
def unpackB (s : List UInt8) (n : Nat) : List Bool := (List.range n).map (bitAt s)
theorem unpackB_len (s : List UInt8) (n : Nat) : (unpackB s n).length = n := by unfold unpackB; rw [List.length_map, List.length_range]
theorem unpackB_get (s : List UInt8) {n i : Nat} (h : i < n) : (unpackB s n)[i]? = some (bitAt s i) := by
  unfold unpackB; rw [List.getElem?_map, List.getElem?_range h]; rfl
theorem pack_bit (l : List Bool) {i : Nat} (h : i < 8 * ((l.length + 7) / 8)) : bitAt (packB l) i = l.getD i false := by
  unfold bitAt
  rw [packB_bit l (by omega) (Nat.mod_lt _ (by decide))]
  congr 1; omega
theorem unpack_pack (l : List Bool) : unpackB (packB l) l.length = l := by
  apply List.ext_getElem?
  intro i
  by_cases h : i < l.length
  · rw [unpackB_get _ h, pack_bit l (by omega), List.getD_eq_getElem?_getD, List.getElem?_eq_getElem h]; rfl
  · rw [List.getElem?_eq_none (by rw [unpackB_len]; omega), List.getElem?_eq_none (by omega)]
end Go.SL
namespace Go.Proofs.YtlcbfphioeppaaaGreatDoor
set_option linter.all false
open Go.SL Go.RowKit Go.Shelf
/-! ### Values as bytes, in plain Lean -/
mutual
def wV : Vl → Nat
  | .mk _ _ _ _ bits _ items _ _ => 1 + bits.length / 8 + wL items
def wL : List Vl → Nat
  | [] => 0
  | x :: xs => wV x + wL xs
end
theorem valL_ge : ∀ (l : List Vl) (most deep n : Int), n ≤ valL l most deep n
  | [], _, _, n => by rw [valL]; exact Int.le_refl _
  | x :: xs, most, deep, n => by
    rw [valL]
    split
    · have h1 := (valN_le x (most - n) (deep - 1) (by omega)).1
      have h2 := valL_ge xs most deep (n + valN x (most - n) (deep - 1))
      omega
    · exact Int.le_refl _
theorem valN_w (v : Vl) : ∀ most deep : Int, valN v most deep ≤ most → valN v most deep = (wV v : Nat) := by
  induction v using Vl.ind with
  | h a b c d bits pb items pi pick ih =>
    intro most deep h; rw [valN] at h ⊢
    split at h
    · omega
    · rename_i h1
      rw [if_neg h1]
      have key : ∀ l : List Vl, (∀ x ∈ l, x ∈ items) → ∀ n : Int, valL l most deep n ≤ most → valL l most deep n = n + (wL l : Nat) := by
        intro l
        induction l with
        | nil => intro _ n _; rw [valL, wL]; simp
        | cons x xs ihl =>
          intro hs n hn
          have hnm : n ≤ most := Int.le_trans (valL_ge (x :: xs) most deep n) hn
          rw [valL] at hn ⊢; rw [if_pos hnm] at hn ⊢
          have h3 := ihl (fun y hy => hs y (List.mem_cons_of_mem _ hy)) _ hn
          have h4 := valL_ge xs most deep (n + valN x (most - n) (deep - 1))
          have h5 := ih x (hs x List.mem_cons_self) (most - n) (deep - 1) (by omega)
          rw [h3, h5, wL]
          first | omega | (push_cast; omega)
      rw [key items (fun _ h => h) _ h, wV]
      first | omega | (push_cast; omega)
theorem few_w {t : Ty} {v : Vl} (h : fewB t v = true) : wV v ≤ 150 := by
  unfold fewB at h
  rw [Bool.and_eq_true, decide_eq_true_eq, decide_eq_true_eq] at h
  have := valN_w v 150 9 h.2
  omega
/-- A row's bytes: what stands in the front, then the rest. -/
def rowF (head : Nat) : List (Ty × List UInt8) → List UInt8 → List UInt8 → List UInt8
  | [], f, th => f ++ th
  | (x, s) :: l, f, th => if isFix x then rowF head l (f ++ s) th else rowF head l (f ++ (leR (head + th.length) 4).1) (th ++ s)
def begT (x : Ty) : Int := if isFix x then sizT x else 4
def begL : List Ty → Int
  | [] => 0
  | x :: l => begT x + begL l
mutual
def putV : Vl → Ty → List UInt8
  | .mk a b c d bits _ items _ pick, t =>
    if t.k = 1 then leW [a, b, c, d] t.n.toNat else if t.k = 2 then leW [a, b, c, d] 1 else if t.k = 5 then packB bits else if t.k = 6 then packB (bits ++ [true])
    else if t.k = 8 then UInt8.ofNat pick.toNat :: ((putL items t.k pick t.ins 0).headD (default, [])).2
    else rowF (begL ((putL items t.k pick t.ins 0).map Prod.fst)).toNat (putL items t.k pick t.ins 0) [] []
def putL : List Vl → Int → Int → List Ty → Nat → List (Ty × List UInt8)
  | [], _, _, _, _ => []
  | x :: xs, k, pick, ins, i => (inTy k pick ins i, putV x (inTy k pick ins i)) :: putL xs k pick ins (i + 1)
end
theorem putL_len : ∀ (l : List Vl) (k pick : Int) (ins : List Ty) (i : Nat), (putL l k pick ins i).length = l.length
  | [], _, _, _, _ => by rw [putL]; rfl
  | x :: xs, k, pick, ins, i => by rw [putL, List.length_cons, putL_len xs, List.length_cons]
theorem putL_get : ∀ {l : List Vl} {k pick : Int} {ins : List Ty} {i j : Nat} {x : Vl}, l[j]? = some x → (putL l k pick ins i)[j]? = some (inTy k pick ins (i + j), putV x (inTy k pick ins (i + j)))
  | [], _, _, _, _, _, _, h => by simp at h
  | y :: ys, k, pick, ins, i, j, x, h => by
    rw [putL]
    cases j with
    | zero => simp at h; subst h; rfl
    | succ j =>
      rw [List.getElem?_cons_succ] at h ⊢; rw [putL_get h, show i + 1 + j = i + (j + 1) by omega]
theorem leR4_len (n : Nat) : (leR n 4).1.length ≤ 4 := by
  unfold leR
  split
  · exact Nat.zero_le _
  · rw [leN_len]; decide
theorem rowF_len (head : Nat) : ∀ (l : List (Ty × List UInt8)) (f th : List UInt8), (rowF head l f th).length ≤ f.length + th.length + (l.map fun p => p.2.length + 4).sum
  | [], f, th => by rw [rowF, List.length_append]; simp
  | (x, s) :: l, f, th => by
    rw [rowF, List.map_cons, List.sum_cons]
    have h4 := leR4_len (head + th.length)
    split
    · have := rowF_len head l (f ++ s) th
      rw [List.length_append] at this
      simp only
      omega
    · have := rowF_len head l (f ++ (leR (head + th.length) 4).1) (th ++ s)
      rw [List.length_append, List.length_append] at this
      simp only
      omega
theorem putV_len (v : Vl) : ∀ t : Ty, (putV v t).length + 4 ≤ 40 * wV v := by
  induction v using Vl.ind with
  | h a b c d bits pb items pi pick ih =>
    intro t
    have key : ∀ (l : List Vl) (i : Nat), (∀ x ∈ l, x ∈ items) → ((putL l t.k pick t.ins i).map fun p => p.2.length + 4).sum ≤ 40 * wL l := by
      intro l
      induction l with
      | nil => intro i _; rw [putL, wL]; exact Nat.zero_le _
      | cons x xs ihl =>
        intro i hs; rw [putL, wL, List.map_cons, List.sum_cons]
        have h1 := ih x (hs x List.mem_cons_self) (inTy t.k pick t.ins i)
        have h2 := ihl (i + 1) fun y hy => hs y (List.mem_cons_of_mem _ hy)
        simp only at h1 ⊢; omega
    have hk := key items 0 fun _ h => h
    have hle : ∀ n, (leW [a, b, c, d] n).length ≤ 32 := fun n => by unfold leW; rw [List.length_take, List.length_reverse, beD_len]; omega
    rw [putV, wV]
    split
    · have := hle t.n.toNat; omega
    · split
      · have := hle 1; omega
      · split
        · rw [packB_len]; omega
        · split
          · rw [packB_len, List.length_append]; simp only [List.length_cons, List.length_nil]; omega
          · split
            · rw [List.length_cons]
              cases items with
              | nil => rw [putL]; simp only [List.headD_nil, List.length_nil]; omega
              | cons x xs =>
                rw [putL, List.headD_cons]
                have h1 := ih x List.mem_cons_self (inTy t.k pick t.ins 0)
                rw [wL]
                simp only
                omega
            · have h1 := rowF_len (begL ((putL items t.k pick t.ins 0).map Prod.fst)).toNat (putL items t.k pick t.ins 0) [] []
              simp only [List.length_nil] at h1; omega
def putR (t : Ty) (v : Vl) : List UInt8 × Int := if fitsT t v ≠ 0 then ([], fitsT t v) else if (putV v t).length > 65536 then ([], 5) else (putV v t, 0)
end Go.Proofs.YtlcbfphioeppaaaGreatDoor
/-! ### Keccak, lane by lane -/
namespace Go.SL
set_option linter.all false
open Go
def SOk (n : Nat) (a : List Nat) : Prop := a.length = n ∧ ∀ x ∈ a, x < 18446744073709551616
theorem SOk.get {n : Nat} {a : List Nat} (h : SOk n a) (j : Nat) : a.getD j 0 < 18446744073709551616 := by
  by_cases hj : j < a.length
  · have : a.getD j 0 ∈ a := by simp [List.getD_eq_getElem?_getD, hj]
    exact h.2 _ this
  · rw [List.getD_eq_getElem?_getD, List.getElem?_eq_none (by omega)]; decide
theorem SOk.set {n : Nat} {a : List Nat} (h : SOk n a) (j : Nat) {x : Nat} (hx : x < 18446744073709551616) : SOk n (a.set j x) :=
  ⟨by rw [List.length_set, h.1], fun y hy => (List.mem_or_eq_of_mem_set hy).elim (h.2 y) fun e => e ▸ hx⟩
def rotN (n k : Nat) : Nat := n * 2 ^ (k % 64) % 18446744073709551616 ||| n / 2 ^ (64 - k % 64)
theorem or_lt64 {a b : Nat} (ha : a < 18446744073709551616) (hb : b < 18446744073709551616) : a ||| b < 18446744073709551616 := Nat.or_lt_two_pow (n := 64) ha hb
theorem xor_lt64 {a b : Nat} (ha : a < 18446744073709551616) (hb : b < 18446744073709551616) : a ^^^ b < 18446744073709551616 := Nat.xor_lt_two_pow (n := 64) ha hb
theorem and_lt64 {a b : Nat} (hb : b < 18446744073709551616) : a &&& b < 18446744073709551616 := Nat.lt_of_le_of_lt Nat.and_le_right hb
theorem rotN_lt {n : Nat} (hn : n < 18446744073709551616) (k : Nat) : rotN n k < 18446744073709551616 :=
  or_lt64 (Nat.mod_lt _ (by decide)) (Nat.lt_of_le_of_lt (Nat.div_le_self _ _) hn)
def cS (a : List Nat) : Nat → List Nat
  | 0 => [0, 0, 0, 0, 0]
  | i + 1 => (cS a i).set (i % 5) ((cS a i).getD (i % 5) 0 ^^^ a.getD i 0)
theorem cS_ok {a : List Nat} (h : SOk 25 a) : ∀ i, SOk 5 (cS a i)
  | 0 => ⟨rfl, by simp [cS]⟩
  | i + 1 => (cS_ok h i).set _ (xor_lt64 ((cS_ok h i).get _) (h.get _))
def mS (c a : List Nat) : Nat → List Nat
  | 0 => a
  | i + 1 => (mS c a i).set i ((mS c a i).getD i 0 ^^^ (c.getD ((i % 5 + 5 - 1) % 5) 0 ^^^ rotN (c.getD ((i % 5 + 1) % 5) 0) 1))
theorem mS_ok {c a : List Nat} (hc : SOk 5 c) (h : SOk 25 a) : ∀ i, SOk 25 (mS c a i)
  | 0 => h
  | i + 1 => (mS_ok hc h i).set _ (xor_lt64 ((mS_ok hc h i).get _) (xor_lt64 (hc.get _) (rotN_lt (hc.get _) 1)))
def mixA (a : List Nat) : List Nat := mS (cS a 25) a 25
theorem mixA_ok {a : List Nat} (h : SOk 25 a) : SOk 25 (mixA a) := mS_ok (cS_ok h 25) h 25
def z25 : List Nat := [0, 0, 0, 0, 0, 0, 0, 0, 0, 0, 0, 0, 0, 0, 0, 0, 0, 0, 0, 0, 0, 0, 0, 0, 0]
set_option maxRecDepth 4000 in
theorem z25_ok : SOk 25 z25 := ⟨rfl, by simp [z25]⟩
def rS (a b : List Nat) : Nat → List Nat
  | 0 => z25
  | i + 1 => (rS a b i).set (i / 5 + 5 * ((2 * (i % 5) + 3 * (i / 5)) % 5)) (rotN (a.getD i 0) (b.getD i 0))
theorem rS_ok {a : List Nat} (b : List Nat) (h : SOk 25 a) : ∀ i, SOk 25 (rS a b i)
  | 0 => z25_ok
  | i + 1 => (rS_ok b h i).set _ (rotN_lt (h.get _) _)
def chiN (b : List Nat) (i : Nat) : Nat := b.getD i 0 ^^^ ((18446744073709551615 ^^^ b.getD (i - i % 5 + (i % 5 + 1) % 5) 0) &&& b.getD (i - i % 5 + (i % 5 + 2) % 5) 0)
theorem chiN_lt {b : List Nat} (h : SOk 25 b) (i : Nat) : chiN b i < 18446744073709551616 := xor_lt64 (h.get _) (and_lt64 (h.get _))
def xS (b a : List Nat) : Nat → List Nat
  | 0 => a
  | i + 1 => (xS b a i).set i (chiN b i)
theorem xS_ok {b a : List Nat} (hb : SOk 25 b) (h : SOk 25 a) : ∀ i, SOk 25 (xS b a i)
  | 0 => h
  | i + 1 => (xS_ok hb h i).set _ (chiN_lt hb _)
def iotaA (a : List Nat) (n : Nat) : List Nat := a.set 0 (a.getD 0 0 ^^^ n)
def roundA (by_ a : List Nat) (n : Nat) : List Nat := iotaA (xS (rS (mixA a) by_ 25) (mixA a) 25) n
theorem iotaA_ok {a : List Nat} (h : SOk 25 a) {n : Nat} (hn : n < 18446744073709551616) : SOk 25 (iotaA a n) := h.set _ (xor_lt64 (h.get _) hn)
theorem roundA_ok {a : List Nat} (by_ : List Nat) (h : SOk 25 a) {n : Nat} (hn : n < 18446744073709551616) : SOk 25 (roundA by_ a n) :=
  iotaA_ok (xS_ok (rS_ok by_ (mixA_ok h) 25) (mixA_ok h) 25) hn
def turnsL : List Nat := [0, 1, 62, 28, 27, 36, 44, 6, 55, 20, 3, 10, 43, 25, 39, 41, 45, 15, 21, 8, 18, 2, 61, 56, 14]
def numsL : List Nat := [0x0000000000000001, 0x0000000000008082, 0x800000000000808A, 0x8000000080008000, 0x000000000000808B, 0x0000000080000001,
  0x8000000080008081, 0x8000000000008009, 0x000000000000008A, 0x0000000000000088, 0x0000000080008009, 0x000000008000000A,
  0x000000008000808B, 0x800000000000008B, 0x8000000000008089, 0x8000000000008003, 0x8000000000008002, 0x8000000000000080,
  0x000000000000800A, 0x800000008000000A, 0x8000000080008081, 0x8000000000008080, 0x0000000080000001, 0x8000000080008008]
set_option maxRecDepth 10000 in
theorem numsL_ok : SOk 24 numsL := ⟨rfl, by decide +kernel⟩
def permS (a : List Nat) : Nat → List Nat
  | 0 => a
  | i + 1 => roundA turnsL (permS a i) (numsL.getD i 0)
theorem permS_ok {a : List Nat} (h : SOk 25 a) : ∀ i, SOk 25 (permS a i)
  | 0 => h
  | i + 1 => roundA_ok turnsL (permS_ok h i) (numsL_ok.get i)
def permA (a : List Nat) : List Nat := permS a 24
theorem permA_ok {a : List Nat} (h : SOk 25 a) : SOk 25 (permA a) := by unfold permA; exact permS_ok h 24
def abS (a : List Nat) (s : List UInt8) : Nat → List Nat
  | 0 => a
  | i + 1 => (abS a s i).set (i / 8) ((abS a s i).getD (i / 8) 0 ^^^ (s.getD i 0).toNat * 2 ^ (i % 8 * 8))
theorem abS_ok {a : List Nat} (s : List UInt8) (h : SOk 25 a) : ∀ i, SOk 25 (abS a s i)
  | 0 => h
  | i + 1 => (abS_ok s h i).set _ (xor_lt64 ((abS_ok s h i).get _) (sh_lt (u8_lt _) (by omega)))
def sumS (t : List UInt8) : Nat → List Nat
  | 0 => z25
  | j + 1 => permA (abS (sumS t j) (t.drop (136 * j)) 136)
theorem sumS_ok (t : List UInt8) : ∀ j, SOk 25 (sumS t j)
  | 0 => z25_ok
  | j + 1 => by unfold sumS; exact permA_ok (abS_ok _ (sumS_ok t j) 136)
def padL (n : Nat) : List UInt8 := if 136 - n % 136 = 1 then [129] else 1 :: (List.replicate (134 - n % 136) 0 ++ [128])
theorem padL_len (n : Nat) : (padL n).length = 136 - n % 136 := by
  unfold padL; split
  · simp; omega
  · simp; omega
def outL (a : List Nat) : Nat → List UInt8
  | 0 => []
  | i + 1 => outL a i ++ [UInt8.ofNat (a.getD (i / 8) 0 / 2 ^ (i % 8 * 8) % 256)]
theorem outL_len (a : List Nat) : ∀ i, (outL a i).length = i
  | 0 => rfl
  | i + 1 => by simp [outL, outL_len a i]
def kec (s : List UInt8) : List UInt8 := outL (sumS (s ++ padL s.length) ((s ++ padL s.length).length / 136)) 32
theorem kec_len (s : List UInt8) : (kec s).length = 32 := outL_len _ _
theorem kec_blocks (s : List UInt8) : (s ++ padL s.length).length % 136 = 0 := by rw [List.length_append, padL_len]; omega
end Go.SL
namespace Go.Proofs.YtlcbfphioeppaaaGreatDoor
set_option linter.all false
open Go.SL Go.RowKit Go.Shelf
set_option maxRecDepth 10000 in
theorem P_rot {n k : Nat} (hn : n < 18446744073709551616) (hk : k < 9223372036854775808) : Pure Tryz.prog 188 [uV n, .int .i64 (k : Int)].toArray (uV (rotN n k)) := by
  refine pure_of_HC Tryz.func188 rfl rfl fun w => ?_
  have hk6 : k % 64 < 64 := Nat.mod_lt _ (by decide)
  refine HC_seq fun K1 hK1 => ?_; refine HC_region ?_; refine HL_r rfl rfl rfl rfl (R_assign rfl) ?_; refine HL_nil ?_; refine HQ_then ?_; refine hK1 _ _ _ _ ?_; clear hK1 K1; refine HC_seq fun K2 hK2 => ?_; refine HC_region ?_; refine HL_r rfl rfl rfl rfl (R_move rfl) ?_; refine HL_r rfl rfl rfl rfl (R_pure rfl rfl rfl) ?_; refine HL_as (show _ = uV k from congrArg (Value.int .u64) (wrap_u64 (by omega) (by omega))) ?_; refine HL_r rfl rfl rfl rfl (R_bits64 (op := .and) (b := ((k % 64 : Nat) : Int)) rfl rfl rfl (by omega) (by decide) (congrArg (fun z : Nat => (z : Int)) (Nat.and_two_pow_sub_one_eq_mod k 6))) ?_; refine HL_r rfl rfl rfl rfl (R_assign rfl) ?_; refine HL_nil ?_; refine HQ_then ?_; refine hK2 _ _ _ _ ?_; clear hK2 K2; refine HC_seq fun K3 hK3 => ?_; refine HC_region ?_; refine HL_r rfl rfl rfl rfl (R_move rfl) ?_; refine HL_r rfl rfl rfl rfl (R_move rfl) ?_; refine HL_r rfl rfl rfl rfl (R_shl (n := k % 64) (b := ((n * 2 ^ (k % 64) % 18446744073709551616 : Nat) : Int)) rfl rfl rfl (show _ ≤ 64 from by omega) (wrapU _)) ?_; refine HL_r rfl rfl rfl rfl (R_move rfl) ?_; refine HL_r rfl rfl rfl rfl (R_move rfl) ?_; refine HL_r rfl rfl rfl rfl (R_pure rfl rfl rfl) ?_; refine HL_as (show _ = uV (64 - k % 64) from congrArg (Value.int .u64) (by rw [wrap_u64 (by omega) (by omega)]; omega)) ?_; refine HL_r rfl rfl rfl rfl (R_shr (n := 64 - k % 64) rfl rfl rfl (show _ ≤ 64 from by omega) (by omega) (shr_nat _ _)) ?_; refine HL_r rfl rfl rfl rfl (R_bits64 (op := .or) (b := ((rotN n k : Nat) : Int)) rfl rfl rfl (Nat.mod_lt _ (by decide)) (Nat.lt_of_le_of_lt (Nat.div_le_self _ _) hn) rfl) ?_; refine HL_r rfl rfl rfl rfl (R_assign rfl) ?_; refine HL_nil ?_; refine HQ_then ?_; refine hK3 _ _ _ _ ?_; clear hK3 K3; refine HC_ret ?_; refine HQ_post rfl rfl (.cons (res_tmp rfl) .nil) (fun w1 hs1 => ?_); exact ⟨rfl, hs1.keep⟩
set_option maxRecDepth 10000 in
theorem P_each : Pure Tryz.prog 187 [].toArray (.func (.func 215) #[] #[]) := by
  refine pure_of_HC Tryz.func187 rfl rfl fun w => ?_; refine HC_seq fun K1 hK1 => ?_; refine HC_region ?_; refine HL_r rfl rfl rfl rfl (R_assign rfl) ?_; refine HL_nil ?_; refine HQ_then ?_; refine hK1 _ _ _ _ ?_; clear hK1 K1; refine HC_seq fun K2 hK2 => ?_; refine HC_region ?_; refine HL_r rfl rfl rfl rfl (R_assign rfl) ?_; refine HL_nil ?_; refine HQ_then ?_; refine hK2 _ _ _ _ ?_; clear hK2 K2; refine HC_ret ?_; refine HQ_post rfl rfl (.cons (res_tmp rfl) .nil) (fun w1 hs1 => ?_); exact ⟨rfl, hs1.keep⟩
def eachAt (i : Nat) : List Value := [.int .i64 (i : Int), .agg [.int .i64 ((i % 5 : Nat) : Int), .int .i64 ((i / 5 : Nat) : Int)].toArray]
set_option maxRecDepth 10000 in
theorem I_each : Iter Tryz.prog 215 [] [] 0 (nxN eachAt 25) (finN 25) := by
  refine iter_of_HC Tryz.func215 rfl rfl fun q xids w2 XI XF hY => ?_; refine HC_seq fun K1 hK1 => ?_; refine HC_region ?_; refine HL_r rfl rfl rfl rfl (R_move rfl) ?_; refine HL_nil ?_; refine HQ_then ?_; refine hK1 _ _ _ _ ?_; clear hK1 K1; refine HC_block ?_; refine HC_loop (σ := Nat) (fun i => i ≤ 25) (fun i => [(0, .func (.yield q) #[] #[]), (3, .int .i64 (i : Int))]) (fun _ => []) (fun i => XI i) (fun i => 25 - i) 0 (Nat.zero_le _) (.cons rfl (.cons rfl .nil)) (List.nil_sublist _) (fun _ _ h => h) ?_; intro i hi; refine HC_seq fun K2 hK2 => ?_; refine HC_region ?_; refine HL_r rfl rfl rfl rfl (R_pure rfl rfl rfl) ?_; refine HL_nil ?_; refine HQ_then ?_; refine hK2 _ _ _ _ ?_; clear hK2 K2; refine HC_seq fun K3 hK3 => ?_; refine HC_cond rfl (fun h4 => ?_) (fun h4 => ?_)
  · try exact Bool.noConfusion h4
    try simp only [Z1, Z2, Z3, Z4, Z5, Z6, Z7, Z8, Z9, Z10, Z11, Z12, Z13] at h4
    refine HC_skip ?_; refine HQ_then ?_; refine hK3 _ _ _ _ ?_; clear hK3 K3; refine HC_seq fun K5 hK5 => ?_; refine HC_block ?_; refine HC_seq fun K6 hK6 => ?_; refine HC_region ?_; refine HL_r rfl rfl rfl rfl (R_move rfl) ?_; refine HL_r rfl rfl rfl rfl (R_assign rfl) ?_; refine HL_nil ?_; refine HQ_then ?_; refine hK6 _ _ _ _ ?_; clear hK6 K6; refine HC_seq fun K7 hK7 => ?_; refine HC_region ?_; refine HL_r rfl rfl rfl rfl (R_move rfl) ?_; refine HL_r rfl rfl rfl rfl (R_move rfl) ?_; refine HL_r rfl rfl rfl rfl (R_move rfl) ?_; refine HL_r rfl rfl rfl rfl (R_pure rfl rfl rfl) ?_; refine HL_as (show _ = Value.int .i64 ((i % 5 : Nat) : Int) from congrArg (Value.int .i64) (rem_nat _ 5)) ?_; refine HL_r rfl rfl rfl rfl (R_move rfl) ?_; refine HL_r rfl rfl rfl rfl (R_pure rfl rfl rfl) ?_; refine HL_as (show _ = Value.int .i64 ((i / 5 : Nat) : Int) from congrArg (Value.int .i64) (by rw [quo_i64 (by omega) (by omega) (by omega)]; omega)) ?_; refine HL_r rfl rfl rfl rfl (R_build (r := [_, _]) rfl rfl) ?_; refine HL_yield (XT := XI (i + 1)) (XF := XF) rfl rfl rfl rfl (hY i (eachAt i) (i + 1) ⟨by omega, rfl, rfl⟩) ?_ ?_
    all_goals refine HL_r rfl rfl rfl rfl (R_pure rfl rfl rfl) ?_
    all_goals refine HL_nil ?_
    all_goals (
     refine HQ_then ?_; refine hK7 _ _ _ _ ?_; clear hK7 K7; refine HC_cond rfl (fun h8 => ?_) (fun h8 => ?_)
     · try exact Bool.noConfusion h8
       all_goals try simp only [Z1, Z2, Z3, Z4, Z5, Z6, Z7, Z8, Z9, Z10, Z11, Z12, Z13] at h8
       all_goals (
        refine HC_ret ?_; refine HQ_blockR ?_; refine HQ_thenR ?_; clear hK5 K5; refine HQ_thenR ?_; refine HQ_blockR ?_; refine HQ_post rfl rfl .nil (fun w1 hs1 => ?_)
        obtain ⟨xs1, hx1⟩ := hs1.now
        exact ⟨⟨_, rfl⟩, hs1.keep, .inr ⟨_, hx1⟩⟩
        skip)
     · try exact Bool.noConfusion h8
       all_goals try simp only [Z1, Z2, Z3, Z4, Z5, Z6, Z7, Z8, Z9, Z10, Z11, Z12, Z13] at h8
       all_goals (
        refine HC_skip ?_; refine HQ_blockN ?_; refine HQ_then ?_; refine hK5 _ _ _ _ ?_; clear hK5 K5; refine HC_region ?_; refine HL_r rfl rfl rfl rfl (R_pure rfl rfl rfl) ?_; refine HL_wrap_i64 (by omega) (by omega) ?_; refine HL_r rfl rfl rfl rfl (R_move rfl) ?_; refine HL_nil ?_; refine HQ_then ?_; exact HQ_again (i + 1) (by omega) (by omega) (.cons rfl (.cons rfl .nil)) (List.nil_sublist _) (fun _ _ h => h)
        skip)
     skip)
  · try exact Bool.noConfusion h4
    try simp only [Z1, Z2, Z3, Z4, Z5, Z6, Z7, Z8, Z9, Z10, Z11, Z12, Z13] at h4
    refine HC_exit ?_; refine HQ_thenE ?_; clear hK3 K3; refine HQ_thenE ?_; refine HQ_blockE ?_; refine HQ_postN rfl rfl .nil (fun w1 hs1 => ?_)
    obtain ⟨xs1, hx1⟩ := hs1.now
    exact ⟨⟨_, rfl⟩, hs1.keep, .inl ⟨i, _, (by show i = 25; omega), hx1⟩⟩
end Go.Proofs.YtlcbfphioeppaaaGreatDoor
namespace Go.Proofs.YtlcbfphioeppaaaGreatDoor
set_option linter.all false
open Go.SL Go.RowKit Go.Shelf
def kO (a : List Nat) : Obj := .cells (a.map uV).toArray 73 (0, 0)
def cO (c : List Nat) : Obj := .cells (c.map uV).toArray 181 (0, 0)
set_option maxRecDepth 10000 in
theorem M_columns {a : List Nat} (ha : SOk 25 a) (r : Nat) : PureM Tryz.prog 186 [.pointer (some ⟨r, 0, none⟩)].toArray (.tuple #[]) r (kO a) (kO (mixA a)) := by
  refine pureM_of_HC Tryz.func186 rfl rfl fun w => ?_
  have hal := ha.1
  obtain ⟨cc, hcc⟩ : ∃ c, c = cS a 25 := ⟨_, rfl⟩
  have hc : SOk 5 cc := by rw [hcc]; exact cS_ok ha 25
  have hmx : mixA a = mS cc a 25 := by rw [hcc]; rfl
  refine HC_seq fun K1 hK1 => ?_; refine HC_region ?_; refine HL_box (cs := #[_]) rfl rfl rfl rfl fun r1 => ?_; refine HL_nil ?_; refine HQ_then ?_; refine hK1 _ _ _ _ ?_; clear hK1 K1; refine HC_seq fun K2 hK2 => ?_; refine HC_region ?_; refine HL_alloc (cs := ((cS a 0).map uV).toArray) rfl rfl rfl rfl fun r2 => ?_; refine HL_nil ?_; refine HQ_then ?_; refine hK2 _ _ _ _ ?_; clear hK2 K2; refine HC_seq fun K3 hK3 => ?_; refine HC_seq fun K4 hK4 => ?_; refine HC_region ?_; refine HL_callP rfl rfl rfl (enters_of Tryz.func187 (by kernel_rfl) rfl) P_each ?_; refine HL_nil ?_; refine HQ_then ?_; refine hK4 _ _ _ _ ?_; clear hK4 K4; refine HC_block ?_; refine HC_range (τ := Unit) (fun i (s : List Nat) => s = cS a i ∧ i ≤ 25) (fun s => [(r2, cO s)]) (fun _ _ => False) (fun _ => []) [(r1, _), (r, kO a)] (cS a 0) rfl rfl (enters_of Tryz.func215 (by kernel_rfl) rfl) I_each (by rintro _ _ _ ⟨_, rfl, _⟩; rfl) rfl (by simp) rfl ⟨rfl, by decide⟩ ?_ ?_ ?_
  · rintro q Xr Xb w3 i _ _ s ⟨hi, rfl, rfl⟩ ⟨hs, -⟩ Kr hKr
    have hsk : SOk 5 s := by rw [hs]; exact cS_ok ha i
    have hsl := hsk.1
    refine HC_seq fun K5 hK5 => ?_; refine HC_region ?_; refine HL_r rfl rfl rfl rfl (R_assign rfl) ?_; refine HL_nil ?_; refine HQ_then ?_; refine hK5 _ _ _ _ ?_; clear hK5 K5; refine HC_region ?_; refine HL_alloc (cs := #[_, _]) rfl rfl rfl rfl fun r2 => ?_
    refine HL_storeA (k := 0) (n := 2) (cs' := #[_, _]) (vs := #[_, _]) rfl rfl rfl rfl rfl rfl rfl (by exact Nat.le_of_ble_eq_true rfl) rfl (by first | (simp only [List.set_cons_zero, List.set_cons_succ]; exact rfl) | exact rfl) ?_; refine HL_nil ?_; refine HQ_then ?_; refine hKr _ _ ?_; clear hKr; refine HC_block ?_; refine HC_draw 11 (by kernel_rfl) (by kernel_rfl) ?_
    refine HD_r rfl rfl rfl (R_indexA (j := 0) rfl rfl rfl rfl rfl (by first | decide | omega) (by first | (simp only [Nat.zero_add, Nat.reduceAdd, Nat.reduceMul, Nat.zero_mul, Nat.mul_one, Nat.add_zero]; exact rfl) | exact rfl)) ?_; refine HD_r rfl rfl rfl (R_load rfl (known_L (k := 0) rfl) rfl rfl) ?_; refine HD_r rfl rfl rfl (R_indexA (j := i % 5) (m := 1) (off' := i % 5) rfl rfl rfl rfl (by omega) (by omega) (by omega)) ?_; refine HD_r rfl rfl rfl (R_loadAt rfl (known_L (k := 1) rfl) rfl (mapU_get (by rw [hsl]; omega))) ?_; refine HD_r rfl rfl rfl (R_load rfl (known_R (k := 0) rfl) rfl rfl) ?_; refine HD_r rfl rfl rfl (R_move rfl) ?_; refine HD_r rfl rfl rfl (R_pure rfl rfl rfl) ?_; refine HD_r rfl rfl rfl (R_indexA (j := i) (m := 1) (off' := i) rfl rfl rfl rfl (by omega) (by omega) (by omega)) ?_; refine HD_r rfl rfl rfl (R_loadAt rfl (known_R (k := 1) rfl) rfl (mapU_get (by rw [hal]; omega))) ?_; refine HD_r rfl rfl rfl (R_bits64 (op := .xor) (b := ((s.getD (i % 5) 0 ^^^ a.getD i 0 : Nat) : Int)) rfl rfl rfl (hsk.get _) (ha.get _) rfl) ?_; refine HD_r rfl rfl rfl (R_indexA (j := i % 5) (m := 1) (off' := i % 5) rfl rfl rfl rfl (by omega) (by omega) (by omega)) ?_; refine HD_end ?_; refine HL_storeAt (k := 1) (off := i % 5) (xs := s.map uV) (ys := (cS a (i + 1)).map uV) rfl rfl rfl rfl rfl rfl (by rw [List.length_map, hsl]; omega) (set_mapU (by rw [hs]; rfl)) rfl ?_; refine HL_nil ?_; refine HQ_blockN ?_; refine HQ_sel [1] (L' := [_]) (by decide) rfl ?_; exact HQ_round (cS a (i + 1)) ⟨rfl, by omega⟩ rfl
  · rintro D i s hfi ⟨hs, -⟩
    have hi25 : i = 25 := hfi
    subst hi25; rw [← hcc] at hs
    have hs := hs.symm
    subst hs; refine HQ_blockN ?_; refine HQ_then ?_; refine hK3 _ _ _ _ ?_; clear hK3 K3; refine HC_seq fun K6 hK6 => ?_; refine HC_region ?_; refine HL_callP rfl rfl rfl (enters_of Tryz.func187 (by kernel_rfl) rfl) P_each ?_; refine HL_nil ?_; refine HQ_then ?_; refine hK6 _ _ _ _ ?_; clear hK6 K6; refine HC_block ?_; refine HC_sel [3, 0, 1, 2] (by decide) rfl ?_; refine HC_range (τ := Unit) (fun i (s : List Nat) => s = mS cc a i ∧ i ≤ 25) (fun s => [(r, kO s)]) (fun _ _ => False) (fun _ => []) [(D, _), (r2, cO cc), (r1, _)] (a) rfl rfl (enters_of Tryz.func215 (by kernel_rfl) rfl) I_each (by rintro _ _ _ ⟨_, rfl, _⟩; rfl) rfl (by simp) rfl ⟨rfl, by decide⟩ ?_ ?_ ?_
    · rintro q Xr Xb w3 i _ _ s ⟨hi, rfl, rfl⟩ ⟨hs, -⟩ Kr hKr
      have hsk : SOk 25 s := by rw [hs]; exact mS_ok hc ha i
      have hsl := hsk.1
      refine HC_seq fun K7 hK7 => ?_; refine HC_region ?_; refine HL_r rfl rfl rfl rfl (R_assign rfl) ?_; refine HL_nil ?_; refine HQ_then ?_; refine hK7 _ _ _ _ ?_; clear hK7 K7; refine HC_region ?_; refine HL_alloc (cs := #[_, _]) rfl rfl rfl rfl fun r3 => ?_
      refine HL_storeA (k := 0) (n := 2) (cs' := #[_, _]) (vs := #[_, _]) rfl rfl rfl rfl rfl rfl rfl (by exact Nat.le_of_ble_eq_true rfl) rfl (by first | (simp only [List.set_cons_zero, List.set_cons_succ]; exact rfl) | exact rfl) ?_; refine HL_nil ?_; refine HQ_then ?_; refine hKr _ _ ?_; clear hKr; refine HC_block ?_; refine HC_seq fun K8 hK8 => ?_; refine HC_region ?_
      refine HL_r rfl rfl rfl rfl (R_indexA (j := 0) rfl rfl rfl rfl rfl (by first | decide | omega) (by first | (simp only [Nat.zero_add, Nat.reduceAdd, Nat.reduceMul, Nat.zero_mul, Nat.mul_one, Nat.add_zero]; exact rfl) | exact rfl)) ?_; refine HL_r rfl rfl rfl rfl (R_load rfl (known_L (k := 0) rfl) rfl rfl) ?_; refine HL_r rfl rfl rfl rfl (R_assign rfl) ?_; refine HL_nil ?_; refine HQ_then ?_; refine hK8 _ _ _ _ ?_; clear hK8 K8; refine HC_draw 21 (by kernel_rfl) (by kernel_rfl) ?_; refine HD_r rfl rfl rfl (R_load rfl (known_R (k := 2) rfl) rfl rfl) ?_; refine HD_r rfl rfl rfl (R_move rfl) ?_; refine HD_r rfl rfl rfl (R_pure rfl rfl rfl) ?_; refine HD_r rfl rfl rfl (R_indexA (j := i) (m := 1) (off' := i) rfl rfl rfl rfl (by omega) (by omega) (by omega)) ?_; refine HD_r rfl rfl rfl (R_loadAt rfl (known_L (k := 1) rfl) rfl (mapU_get (by rw [hsl]; omega))) ?_; refine HD_r rfl rfl rfl (R_move rfl) ?_; refine HD_r rfl rfl rfl (R_pure rfl rfl rfl) ?_; refine HD_as (show _ = Value.int .i64 ((i % 5 + 5 : Nat) : Int) from congrArg (Value.int .i64) (by rw [wrap_i64 (by omega) (by omega)]; omega)) ?_; refine HD_r rfl rfl rfl (R_pure rfl rfl rfl) ?_; refine HD_as (show _ = Value.int .i64 ((i % 5 + 5 - 1 : Nat) : Int) from congrArg (Value.int .i64) (by rw [wrap_i64 (by omega) (by omega)]; omega)) ?_; refine HD_r rfl rfl rfl (R_pure rfl rfl rfl) ?_; refine HD_as (show _ = Value.int .i64 (((i % 5 + 5 - 1) % 5 : Nat) : Int) from congrArg (Value.int .i64) (by rw [Int.tmod_eq_emod_of_nonneg (by omega)]; omega)) ?_; refine HD_r rfl rfl rfl (R_indexA (j := (i % 5 + 5 - 1) % 5) (m := 1) (off' := (i % 5 + 5 - 1) % 5) rfl rfl rfl rfl (by omega) (by omega) (by omega)) ?_; refine HD_r rfl rfl rfl (R_loadAt rfl (known_R (k := 1) rfl) rfl (mapU_get (by rw [hc.1]; omega))) ?_; refine HD_r rfl rfl rfl (R_move rfl) ?_; refine HD_r rfl rfl rfl (R_pure rfl rfl rfl) ?_; refine HD_as (show _ = Value.int .i64 ((i % 5 + 1 : Nat) : Int) from congrArg (Value.int .i64) (by rw [wrap_i64 (by omega) (by omega)]; omega)) ?_; refine HD_r rfl rfl rfl (R_pure rfl rfl rfl) ?_; refine HD_as (show _ = Value.int .i64 (((i % 5 + 1) % 5 : Nat) : Int) from congrArg (Value.int .i64) (by rw [Int.tmod_eq_emod_of_nonneg (by omega)]; omega)) ?_; refine HD_r rfl rfl rfl (R_indexA (j := (i % 5 + 1) % 5) (m := 1) (off' := (i % 5 + 1) % 5) rfl rfl rfl rfl (by omega) (by omega) (by omega)) ?_; refine HD_r rfl rfl rfl (R_loadAt rfl (known_R (k := 1) rfl) rfl (mapU_get (by rw [hc.1]; omega))) ?_; refine HD_callP rfl rfl rfl (enters_of Tryz.func188 (by kernel_rfl) rfl) (P_rot (k := 1) (hc.get _) (by decide)) ?_; refine HD_r rfl rfl rfl (R_bits64 (op := .xor) (b := ((cc.getD ((i % 5 + 5 - 1) % 5) 0 ^^^ rotN (cc.getD ((i % 5 + 1) % 5) 0) 1 : Nat) : Int)) rfl rfl rfl (hc.get _) (rotN_lt (hc.get _) 1) rfl) ?_; refine HD_r rfl rfl rfl (R_bits64 (op := .xor) (b := ((s.getD i 0 ^^^ (cc.getD ((i % 5 + 5 - 1) % 5) 0 ^^^ rotN (cc.getD ((i % 5 + 1) % 5) 0) 1) : Nat) : Int)) rfl rfl rfl (hsk.get _) (xor_lt64 (hc.get _) (rotN_lt (hc.get _) 1)) rfl) ?_; refine HD_r rfl rfl rfl (R_pure rfl rfl rfl) ?_; refine HD_r rfl rfl rfl (R_indexA (j := i) (m := 1) (off' := i) rfl rfl rfl rfl (by omega) (by omega) (by omega)) ?_; refine HD_end ?_; refine HL_storeAt (k := 1) (off := i) (xs := s.map uV) (ys := (mS cc a (i + 1)).map uV) rfl rfl rfl rfl rfl rfl (by rw [List.length_map, hsl]; omega) (set_mapU (by rw [hs]; rfl)) rfl ?_; refine HL_nil ?_; refine HQ_blockN ?_; refine HQ_sel [1] (L' := [_]) (by decide) rfl ?_; exact HQ_round (mS cc a (i + 1)) ⟨rfl, by omega⟩ rfl
    · rintro D2 i s hfi ⟨hs, -⟩
      have hi25 : i = 25 := hfi
      subst hi25; refine HQ_blockN ?_; refine HQ_mark (k := 0) rfl rfl ?_; refine HQ_mark (k := 2) rfl rfl ?_; refine HQ_post rfl rfl .nil (fun w1 hs1 => ?_); exact ⟨rfl, _, List.mem_cons_of_mem _ (by rw [hmx, ← hs]; exact List.mem_cons_self), hs1⟩
    · exact fun _ _ _ h => h.elim
  · exact fun _ _ _ h => h.elim
end Go.Proofs.YtlcbfphioeppaaaGreatDoor
namespace Go.Proofs.YtlcbfphioeppaaaGreatDoor
set_option linter.all false
open Go.SL Go.RowKit Go.Shelf
set_option maxRecDepth 10000 in
theorem M_round {a : List Nat} (ha : SOk 25 a) {n : Nat} (hn : n < 18446744073709551616) {by_ : List Nat} (hbl : by_.length = 25) (hby : ∀ i, by_.getD i 0 < 9223372036854775808) (r : Nat) :
    PureM Tryz.prog 119 [.pointer (some ⟨r, 0, none⟩), uV n, .agg (by_.map iV).toArray].toArray (.tuple #[]) r (kO a) (kO (roundA by_ a n)) := by
  refine pureM_of_HC Tryz.func119 rfl rfl fun w => ?_
  obtain ⟨m, hm⟩ : ∃ m, m = mixA a := ⟨_, rfl⟩
  have hmk : SOk 25 m := by rw [hm]; exact mixA_ok ha
  have hml := hmk.1
  have hbk := rS_ok by_ hmk 25
  obtain ⟨b, hb⟩ : ∃ b, b = rS m by_ 25 := ⟨_, rfl⟩
  have hbk : SOk 25 b := by rw [hb]; exact rS_ok by_ hmk 25
  have hbln := hbk.1
  have hra : roundA by_ a n = iotaA (xS b m 25) n := by rw [hb, hm]; rfl
  refine HC_seq fun K1 hK1 => ?_; refine HC_region ?_; refine HL_box (cs := #[_]) rfl rfl rfl rfl fun r1 => ?_; refine HL_box (cs := (by_.map iV).toArray) rfl rfl rfl rfl fun r2 => ?_; refine HL_nil ?_; refine HQ_then ?_; refine hK1 _ _ _ _ ?_; clear hK1 K1; refine HC_seq fun K2 hK2 => ?_; refine HC_region ?_; refine HL_r rfl rfl rfl rfl (R_load rfl (known_L (k := 1) rfl) rfl rfl) ?_; refine HL_callM (k := 2) rfl rfl rfl (enters_of Tryz.func186 (by kernel_rfl) rfl) rfl (M_columns ha r) rfl ?_; rw [← hm]; refine HL_nil ?_; refine HQ_then ?_; refine hK2 _ _ _ _ ?_; clear hK2 K2; refine HC_seq fun K3 hK3 => ?_; refine HC_region ?_; refine HL_alloc (cs := (z25.map uV).toArray) rfl rfl rfl rfl fun r3 => ?_; refine HL_nil ?_; refine HQ_then ?_; refine hK3 _ _ _ _ ?_; clear hK3 K3; refine HC_seq fun K4 hK4 => ?_; refine HC_seq fun K5 hK5 => ?_; refine HC_region ?_; refine HL_callP rfl rfl rfl (enters_of Tryz.func187 (by kernel_rfl) rfl) P_each ?_; refine HL_nil ?_; refine HQ_then ?_; refine hK5 _ _ _ _ ?_; clear hK5 K5; refine HC_block ?_; refine HC_range (τ := Unit) (fun i (s : List Nat) => s = rS m by_ i ∧ i ≤ 25) (fun s => [(r3, kO s)]) (fun _ _ => False) (fun _ => []) [(r2, _), (r1, _), (r, kO m)] (z25) rfl rfl (enters_of Tryz.func215 (by kernel_rfl) rfl) I_each (by rintro _ _ _ ⟨_, rfl, _⟩; rfl) rfl (by simp) rfl ⟨rfl, by decide⟩ ?_ ?_ ?_
  · rintro q Xr Xb w3 i _ _ s ⟨hi, rfl, rfl⟩ ⟨hs, -⟩ Kr hKr
    have hsk : SOk 25 s := by rw [hs]; exact rS_ok by_ hmk i
    have hsl := hsk.1
    refine HC_seq fun K6 hK6 => ?_; refine HC_region ?_; refine HL_r rfl rfl rfl rfl (R_assign rfl) ?_; refine HL_nil ?_; refine HQ_then ?_; refine hK6 _ _ _ _ ?_; clear hK6 K6; refine HC_region ?_; refine HL_alloc (cs := #[_, _]) rfl rfl rfl rfl fun r2 => ?_
    refine HL_storeA (k := 0) (n := 2) (cs' := #[_, _]) (vs := #[_, _]) rfl rfl rfl rfl rfl rfl rfl (by exact Nat.le_of_ble_eq_true rfl) rfl (by first | (simp only [List.set_cons_zero, List.set_cons_succ]; exact rfl) | exact rfl) ?_; refine HL_nil ?_; refine HQ_then ?_; refine hKr _ _ ?_; clear hKr; refine HC_block ?_; refine HC_seq fun K7 hK7 => ?_; refine HC_draw 6 (by kernel_rfl) (by kernel_rfl) ?_
    refine HD_r rfl rfl rfl (R_indexA (j := 0) rfl rfl rfl rfl rfl (by first | decide | omega) (by first | (simp only [Nat.zero_add, Nat.reduceAdd, Nat.reduceMul, Nat.zero_mul, Nat.mul_one, Nat.add_zero]; exact rfl) | exact rfl)) ?_; refine HD_r rfl rfl rfl (R_load rfl (known_L (k := 0) rfl) rfl rfl) ?_
    refine HD_r rfl rfl rfl (R_indexA (j := 1) rfl rfl rfl rfl rfl (by first | decide | omega) (by first | (simp only [Nat.zero_add, Nat.reduceAdd, Nat.reduceMul, Nat.zero_mul, Nat.mul_one, Nat.add_zero]; exact rfl) | exact rfl)) ?_; refine HD_r rfl rfl rfl (R_load rfl (known_L (k := 0) rfl) rfl rfl) ?_; refine HD_r rfl rfl rfl (R_assign rfl) ?_; refine HD_r rfl rfl rfl (R_assign rfl) ?_; refine HD_end ?_; refine HL_nil ?_; refine HQ_then ?_; refine hK7 _ _ _ _ ?_; clear hK7 K7; refine HC_draw 19 (by kernel_rfl) (by kernel_rfl) ?_; refine HD_r rfl rfl rfl (R_move rfl) ?_; refine HD_r rfl rfl rfl (R_move rfl) ?_; refine HD_r rfl rfl rfl (R_pure rfl rfl rfl) ?_; refine HD_as (show _ = Value.int .i64 ((2 * (i % 5) : Nat) : Int) from congrArg (Value.int .i64) (by rw [wrap_i64 (by omega) (by omega)]; omega)) ?_; refine HD_r rfl rfl rfl (R_move rfl) ?_; refine HD_r rfl rfl rfl (R_pure rfl rfl rfl) ?_; refine HD_as (show _ = Value.int .i64 ((3 * (i / 5) : Nat) : Int) from congrArg (Value.int .i64) (by rw [wrap_i64 (by omega) (by omega)]; omega)) ?_; refine HD_r rfl rfl rfl (R_pure rfl rfl rfl) ?_; refine HD_as (show _ = Value.int .i64 ((2 * (i % 5) + 3 * (i / 5) : Nat) : Int) from congrArg (Value.int .i64) (by rw [wrap_i64 (by omega) (by omega)]; omega)) ?_; refine HD_r rfl rfl rfl (R_pure rfl rfl rfl) ?_; refine HD_as (show _ = Value.int .i64 (((2 * (i % 5) + 3 * (i / 5)) % 5 : Nat) : Int) from congrArg (Value.int .i64) (by rw [Int.tmod_eq_emod_of_nonneg (by omega)]; omega)) ?_; refine HD_r rfl rfl rfl (R_pure rfl rfl rfl) ?_; refine HD_as (show _ = Value.int .i64 ((5 * ((2 * (i % 5) + 3 * (i / 5)) % 5) : Nat) : Int) from congrArg (Value.int .i64) (by rw [wrap_i64 (by omega) (by omega)]; omega)) ?_; refine HD_r rfl rfl rfl (R_pure rfl rfl rfl) ?_; refine HD_as (show _ = Value.int .i64 ((i / 5 + 5 * ((2 * (i % 5) + 3 * (i / 5)) % 5) : Nat) : Int) from congrArg (Value.int .i64) (by rw [wrap_i64 (by omega) (by omega)]; omega)) ?_; refine HD_r rfl rfl rfl (R_load rfl (known_R (k := 1) rfl) rfl rfl) ?_; refine HD_r rfl rfl rfl (R_move rfl) ?_; refine HD_r rfl rfl rfl (R_pure rfl rfl rfl) ?_; refine HD_r rfl rfl rfl (R_indexA (j := i) (m := 1) (off' := i) rfl rfl rfl rfl (by omega) (by omega) (by omega)) ?_; refine HD_r rfl rfl rfl (R_loadAt rfl (known_R (k := 2) rfl) rfl (mapU_get (by rw [hml]; omega))) ?_; refine HD_r rfl rfl rfl (R_move rfl) ?_; refine HD_r rfl rfl rfl (R_indexA (j := i) (m := 1) (off' := i) rfl rfl rfl rfl (by omega) (by omega) (by omega)) ?_; refine HD_r rfl rfl rfl (R_loadAt rfl (known_R (k := 0) rfl) rfl (mapI_get (by rw [hbl]; omega))) ?_; refine HD_callP rfl rfl rfl (enters_of Tryz.func188 (by kernel_rfl) rfl) (P_rot (k := by_.getD i 0) (hmk.get _) (hby i)) ?_; refine HD_r rfl rfl rfl (R_indexA (j := (i / 5 + 5 * ((2 * (i % 5) + 3 * (i / 5)) % 5))) (m := 1) (off' := (i / 5 + 5 * ((2 * (i % 5) + 3 * (i / 5)) % 5))) rfl rfl rfl rfl (by omega) (by omega) (by omega)) ?_; refine HD_end ?_; refine HL_storeAt (k := 1) (off := i / 5 + 5 * ((2 * (i % 5) + 3 * (i / 5)) % 5)) (xs := s.map uV) (ys := (rS m by_ (i + 1)).map uV) rfl rfl rfl rfl rfl rfl (by rw [List.length_map, hsl]; omega) (set_mapU (by rw [hs]; rfl)) rfl ?_; refine HL_nil ?_; refine HQ_blockN ?_; refine HQ_sel [1] (L' := [_]) (by decide) rfl ?_; exact HQ_round (rS m by_ (i + 1)) ⟨rfl, by omega⟩ rfl
  · rintro D i s hfi ⟨hs, -⟩
    have hi25 : i = 25 := hfi
    subst hi25; rw [← hb] at hs
    have hs := hs.symm
    subst hs; refine HQ_blockN ?_; refine HQ_then ?_; refine hK4 _ _ _ _ ?_; clear hK4 K4; refine HC_seq fun K8 hK8 => ?_; refine HC_seq fun K9 hK9 => ?_; refine HC_region ?_; refine HL_callP rfl rfl rfl (enters_of Tryz.func187 (by kernel_rfl) rfl) P_each ?_; refine HL_nil ?_; refine HQ_then ?_; refine hK9 _ _ _ _ ?_; clear hK9 K9; refine HC_block ?_; refine HC_sel [4, 0, 1, 2, 3] (by decide) rfl ?_; refine HC_range (τ := Unit) (fun i (s : List Nat) => s = xS b m i ∧ i ≤ 25) (fun s => [(r, kO s)]) (fun _ _ => False) (fun _ => []) [(D, _), (r3, kO b), (r2, _), (r1, _)] (m) rfl rfl (enters_of Tryz.func215 (by kernel_rfl) rfl) I_each (by rintro _ _ _ ⟨_, rfl, _⟩; rfl) rfl (by simp) rfl ⟨rfl, by decide⟩ ?_ ?_ ?_
    · rintro q Xr Xb w3 i _ _ s ⟨hi, rfl, rfl⟩ ⟨hs, -⟩ Kr hKr
      have hsk : SOk 25 s := by rw [hs]; exact xS_ok hbk hmk i
      have hsl := hsk.1
      refine HC_seq fun K10 hK10 => ?_; refine HC_region ?_; refine HL_r rfl rfl rfl rfl (R_assign rfl) ?_; refine HL_nil ?_; refine HQ_then ?_; refine hK10 _ _ _ _ ?_; clear hK10 K10; refine HC_region ?_; refine HL_alloc (cs := #[_, _]) rfl rfl rfl rfl fun r3 => ?_
      refine HL_storeA (k := 0) (n := 2) (cs' := #[_, _]) (vs := #[_, _]) rfl rfl rfl rfl rfl rfl rfl (by exact Nat.le_of_ble_eq_true rfl) rfl (by first | (simp only [List.set_cons_zero, List.set_cons_succ]; exact rfl) | exact rfl) ?_; refine HL_nil ?_; refine HQ_then ?_; refine hKr _ _ ?_; clear hKr; refine HC_block ?_; refine HC_seq fun K11 hK11 => ?_; refine HC_draw 8 (by kernel_rfl) (by kernel_rfl) ?_
      refine HD_r rfl rfl rfl (R_indexA (j := 0) rfl rfl rfl rfl rfl (by first | decide | omega) (by first | (simp only [Nat.zero_add, Nat.reduceAdd, Nat.reduceMul, Nat.zero_mul, Nat.mul_one, Nat.add_zero]; exact rfl) | exact rfl)) ?_; refine HD_r rfl rfl rfl (R_load rfl (known_L (k := 0) rfl) rfl rfl) ?_; refine HD_r rfl rfl rfl (R_move rfl) ?_
      refine HD_r rfl rfl rfl (R_indexA (j := 0) rfl rfl rfl rfl rfl (by first | decide | omega) (by first | (simp only [Nat.zero_add, Nat.reduceAdd, Nat.reduceMul, Nat.zero_mul, Nat.mul_one, Nat.add_zero]; exact rfl) | exact rfl)) ?_; refine HD_r rfl rfl rfl (R_load rfl (known_L (k := 0) rfl) rfl rfl) ?_; refine HD_r rfl rfl rfl (R_pure rfl rfl rfl) ?_; refine HD_as (show _ = Value.int .i64 ((i - i % 5 : Nat) : Int) from congrArg (Value.int .i64) (by rw [wrap_i64 (by omega) (by omega)]; omega)) ?_; refine HD_r rfl rfl rfl (R_assign rfl) ?_; refine HD_r rfl rfl rfl (R_assign rfl) ?_; refine HD_end ?_; refine HL_nil ?_; refine HQ_then ?_; refine hK11 _ _ _ _ ?_; clear hK11 K11; refine HC_draw 24 (by kernel_rfl) (by kernel_rfl) ?_; refine HD_r rfl rfl rfl (R_load rfl (known_R (k := 3) rfl) rfl rfl) ?_; refine HD_r rfl rfl rfl (R_move rfl) ?_; refine HD_r rfl rfl rfl (R_move rfl) ?_; refine HD_r rfl rfl rfl (R_indexA (j := i) (m := 1) (off' := i) rfl rfl rfl rfl (by omega) (by omega) (by omega)) ?_; refine HD_r rfl rfl rfl (R_loadAt rfl (known_R (k := 1) rfl) rfl (mapU_get (by rw [hbln]; omega))) ?_; refine HD_r rfl rfl rfl (R_move rfl) ?_; refine HD_r rfl rfl rfl (R_move rfl) ?_; refine HD_r rfl rfl rfl (R_pure rfl rfl rfl) ?_; refine HD_as (show _ = Value.int .i64 ((i % 5 + 1 : Nat) : Int) from congrArg (Value.int .i64) (by rw [wrap_i64 (by omega) (by omega)]; omega)) ?_; refine HD_r rfl rfl rfl (R_pure rfl rfl rfl) ?_; refine HD_as (show _ = Value.int .i64 (((i % 5 + 1) % 5 : Nat) : Int) from congrArg (Value.int .i64) (by rw [Int.tmod_eq_emod_of_nonneg (by omega)]; omega)) ?_; refine HD_r rfl rfl rfl (R_pure rfl rfl rfl) ?_; refine HD_as (show _ = Value.int .i64 ((i - i % 5 + (i % 5 + 1) % 5 : Nat) : Int) from congrArg (Value.int .i64) (by rw [wrap_i64 (by omega) (by omega)]; omega)) ?_; refine HD_r rfl rfl rfl (R_indexA (j := (i - i % 5 + (i % 5 + 1) % 5)) (m := 1) (off' := (i - i % 5 + (i % 5 + 1) % 5)) rfl rfl rfl rfl (by omega) (by omega) (by omega)) ?_; refine HD_r rfl rfl rfl (R_loadAt rfl (known_R (k := 1) rfl) rfl (mapU_get (by rw [hbln]; omega))) ?_; refine HD_r rfl rfl rfl (R_compl rfl (hbk.get _)) ?_; refine HD_r rfl rfl rfl (R_move rfl) ?_; refine HD_r rfl rfl rfl (R_move rfl) ?_; refine HD_r rfl rfl rfl (R_pure rfl rfl rfl) ?_; refine HD_as (show _ = Value.int .i64 ((i % 5 + 2 : Nat) : Int) from congrArg (Value.int .i64) (by rw [wrap_i64 (by omega) (by omega)]; omega)) ?_; refine HD_r rfl rfl rfl (R_pure rfl rfl rfl) ?_; refine HD_as (show _ = Value.int .i64 (((i % 5 + 2) % 5 : Nat) : Int) from congrArg (Value.int .i64) (by rw [Int.tmod_eq_emod_of_nonneg (by omega)]; omega)) ?_; refine HD_r rfl rfl rfl (R_pure rfl rfl rfl) ?_; refine HD_as (show _ = Value.int .i64 ((i - i % 5 + (i % 5 + 2) % 5 : Nat) : Int) from congrArg (Value.int .i64) (by rw [wrap_i64 (by omega) (by omega)]; omega)) ?_; refine HD_r rfl rfl rfl (R_indexA (j := (i - i % 5 + (i % 5 + 2) % 5)) (m := 1) (off' := (i - i % 5 + (i % 5 + 2) % 5)) rfl rfl rfl rfl (by omega) (by omega) (by omega)) ?_; refine HD_r rfl rfl rfl (R_loadAt rfl (known_R (k := 1) rfl) rfl (mapU_get (by rw [hbln]; omega))) ?_; refine HD_r rfl rfl rfl (R_bits64 (op := .and) (b := (((18446744073709551615 ^^^ b.getD (i - i % 5 + (i % 5 + 1) % 5) 0) &&& b.getD (i - i % 5 + (i % 5 + 2) % 5) 0 : Nat) : Int)) rfl rfl rfl (xor_lt64 (by decide) (hbk.get _)) (hbk.get _) rfl) ?_; refine HD_r rfl rfl rfl (R_bits64 (op := .xor) (b := ((chiN b i : Nat) : Int)) rfl rfl rfl (hbk.get _) (and_lt64 (hbk.get _)) rfl) ?_; refine HD_r rfl rfl rfl (R_pure rfl rfl rfl) ?_; refine HD_r rfl rfl rfl (R_indexA (j := i) (m := 1) (off' := i) rfl rfl rfl rfl (by omega) (by omega) (by omega)) ?_; refine HD_end ?_; refine HL_storeAt (k := 1) (off := i) (xs := s.map uV) (ys := (xS b m (i + 1)).map uV) rfl rfl rfl rfl rfl rfl (by rw [List.length_map, hsl]; omega) (set_mapU (by rw [hs]; rfl)) rfl ?_; refine HL_nil ?_; refine HQ_blockN ?_; refine HQ_sel [1] (L' := [_]) (by decide) rfl ?_; exact HQ_round (xS b m (i + 1)) ⟨rfl, by omega⟩ rfl
    · rintro D2 i s hfi ⟨hs, -⟩
      have hi25 : i = 25 := hfi
      subst hi25
      have hsk : SOk 25 s := by rw [hs]; exact xS_ok hbk hmk 25
      have hsl := hsk.1
      refine HQ_blockN ?_; refine HQ_then ?_; refine hK8 _ _ _ _ ?_; clear hK8 K8; refine HC_draw 8 (by kernel_rfl) (by kernel_rfl) ?_; refine HD_r rfl rfl rfl (R_load rfl (known_L (k := 5) rfl) rfl rfl) ?_; refine HD_r rfl rfl rfl (R_pure rfl rfl rfl) ?_
      refine HD_r rfl rfl rfl (R_indexA (j := 0) rfl rfl rfl rfl rfl (by first | decide | omega) (by first | (simp only [Nat.zero_add, Nat.reduceAdd, Nat.reduceMul, Nat.zero_mul, Nat.mul_one, Nat.add_zero]; exact rfl) | exact rfl)) ?_; refine HD_r rfl rfl rfl (R_loadAt rfl (known_L (k := 1) rfl) rfl (mapU_get (by rw [hsl]; omega))) ?_; refine HD_r rfl rfl rfl (R_move rfl) ?_; refine HD_r rfl rfl rfl (R_bits64 (op := .xor) (b := ((s.getD 0 0 ^^^ n : Nat) : Int)) rfl rfl rfl (hsk.get _) (hn) rfl) ?_; refine HD_r rfl rfl rfl (R_pure rfl rfl rfl) ?_
      refine HD_r rfl rfl rfl (R_indexA (j := 0) rfl rfl rfl rfl rfl (by first | decide | omega) (by first | (simp only [Nat.zero_add, Nat.reduceAdd, Nat.reduceMul, Nat.zero_mul, Nat.mul_one, Nat.add_zero]; exact rfl) | exact rfl)) ?_; refine HD_end ?_; refine HL_storeAt (k := 1) (off := 0) (xs := s.map uV) (ys := (iotaA s n).map uV) rfl rfl rfl rfl rfl rfl (by rw [List.length_map, hsl]; omega) (set_mapU rfl) rfl ?_; refine HL_nil ?_; refine HQ_mark (k := 0) rfl rfl ?_; refine HQ_mark (k := 2) rfl rfl ?_; refine HQ_post rfl rfl .nil (fun w1 hs1 => ?_); exact ⟨rfl, _, List.mem_cons_of_mem _ (by rw [hra, ← hs]; exact List.mem_cons_self), hs1⟩
    · exact fun _ _ _ h => h.elim
  · exact fun _ _ _ h => h.elim
end Go.Proofs.YtlcbfphioeppaaaGreatDoor
namespace Go.Proofs.YtlcbfphioeppaaaGreatDoor
set_option linter.all false
open Go.SL Go.RowKit Go.Shelf
set_option maxRecDepth 10000 in
theorem P_turns : Pure Tryz.prog 117 [].toArray (.agg (turnsL.map iV).toArray) := by
  refine pure_of_HC Tryz.func117 rfl rfl fun w => ?_; refine HC_seq fun K1 hK1 => ?_; refine HC_region ?_; refine HL_alloc (cs := #[_, _, _, _, _, _, _, _, _, _, _, _, _, _, _, _, _, _, _, _, _, _, _, _, _]) rfl rfl rfl rfl fun r1 => ?_; refine HL_nil ?_; refine HQ_then ?_; refine hK1 _ _ _ _ ?_; clear hK1 K1; refine HC_seq fun K2 hK2 => ?_; refine HC_region ?_; refine HL_r rfl rfl rfl rfl (R_build (r := turnsL.map iV) rfl (by kernel_rfl)) ?_; refine HL_storeArr (k := 0) (n := 25) (ys := turnsL.map iV) rfl rfl rfl rfl rfl rfl rfl rfl rfl ?_; refine HL_nil ?_; refine HQ_then ?_; refine hK2 _ _ _ _ ?_; clear hK2 K2; refine HC_ret ?_; refine HQ_post rfl rfl (.cons (res_cellA (vs := turnsL.map iV) rfl (known_L (k := 0) rfl) rfl rfl) .nil) (fun w1 hs1 => ?_); exact ⟨rfl, hs1.keep⟩
set_option maxRecDepth 10000 in
theorem P_numbers : Pure Tryz.prog 118 [].toArray (.agg (numsL.map uV).toArray) := by
  refine pure_of_HC Tryz.func118 rfl rfl fun w => ?_; refine HC_seq fun K1 hK1 => ?_; refine HC_region ?_; refine HL_alloc (cs := #[_, _, _, _, _, _, _, _, _, _, _, _, _, _, _, _, _, _, _, _, _, _, _, _]) rfl rfl rfl rfl fun r1 => ?_; refine HL_nil ?_; refine HQ_then ?_; refine hK1 _ _ _ _ ?_; clear hK1 K1; refine HC_seq fun K2 hK2 => ?_; refine HC_region ?_; refine HL_r rfl rfl rfl rfl (R_build (r := numsL.map uV) rfl (by kernel_rfl)) ?_; refine HL_storeArr (k := 0) (n := 24) (ys := numsL.map uV) rfl rfl rfl rfl rfl rfl rfl rfl rfl ?_; refine HL_nil ?_; refine HQ_then ?_; refine hK2 _ _ _ _ ?_; clear hK2 K2; refine HC_ret ?_; refine HQ_post rfl rfl (.cons (res_cellA (vs := numsL.map uV) rfl (known_L (k := 0) rfl) rfl rfl) .nil) (fun w1 hs1 => ?_); exact ⟨rfl, hs1.keep⟩
theorem turns_lt (i : Nat) : turnsL.getD i 0 < 9223372036854775808 := by
  by_cases h : i < 25
  · have : turnsL.all (fun x => decide (x < 9223372036854775808)) = true := by decide
    have hm : turnsL.getD i 0 ∈ turnsL := by simp [List.getD_eq_getElem?_getD, show i < turnsL.length from h]
    exact of_decide_eq_true (List.all_eq_true.1 this _ hm)
  · rw [List.getD_eq_getElem?_getD, List.getElem?_eq_none (by simpa [turnsL] using h)]; decide
set_option maxRecDepth 10000 in
theorem P_Permute {a : List Nat} (ha : SOk 25 a) : Pure Tryz.prog 64 [.agg (a.map uV).toArray].toArray (.agg ((permA a).map uV).toArray) := by
  refine pure_of_HC Tryz.func64 rfl rfl fun w => ?_
  have hal := ha.1
  obtain ⟨tu, htu⟩ : ∃ t, t = turnsL := ⟨_, rfl⟩
  have htul : tu.length = 25 := by rw [htu]; rfl
  have htub : ∀ i, tu.getD i 0 < 9223372036854775808 := by rw [htu]; exact turns_lt
  obtain ⟨nu, hnu⟩ : ∃ t, t = numsL := ⟨_, rfl⟩
  have hnuk : SOk 24 nu := by rw [hnu]; exact numsL_ok
  have hnul := hnuk.1
  have hPt : Pure Tryz.prog 117 [].toArray (.agg (tu.map iV).toArray) := by rw [htu]; exact P_turns
  have hPn : Pure Tryz.prog 118 [].toArray (.agg (nu.map uV).toArray) := by rw [hnu]; exact P_numbers
  refine HC_seq fun K1 hK1 => ?_; refine HC_region ?_; refine HL_box (cs := (a.map uV).toArray) rfl rfl rfl rfl fun r1 => ?_; refine HL_alloc (cs := (z25.map uV).toArray) rfl rfl rfl rfl fun r2 => ?_; refine HL_nil ?_; refine HQ_then ?_; refine hK1 _ _ _ _ ?_; clear hK1 K1; refine HC_seq fun K2 hK2 => ?_; refine HC_region ?_; refine HL_r rfl rfl rfl rfl (R_loadArr (xs := a.map uV) (n := 25) rfl (known_L (k := 1) rfl) rfl rfl (by rw [List.length_map, hal])) ?_; refine HL_alloc (cs := (z25.map uV).toArray) rfl rfl rfl rfl fun r3 => ?_; refine HL_storeArr (k := 0) (n := 25) (ys := a.map uV) rfl rfl rfl rfl rfl (by rw [List.length_map, hal]) rfl (mapU_one _) rfl ?_; refine HL_nil ?_; refine HQ_then ?_; refine hK2 _ _ _ _ ?_; clear hK2 K2; refine HC_seq fun K3 hK3 => ?_; refine HC_region ?_; refine HL_callP rfl rfl rfl (enters_of Tryz.func117 (by kernel_rfl) rfl) hPt ?_; refine HL_alloc (cs := ((List.replicate 25 0).map iV).toArray) rfl rfl rfl rfl fun r4 => ?_; refine HL_storeArr (k := 0) (n := 25) (ys := tu.map iV) rfl rfl rfl rfl rfl (by rw [List.length_map, htul]) rfl (by simp [iV, oneB, List.all_map, List.all_eq_true]) rfl ?_; refine HL_nil ?_; refine HQ_then ?_; refine hK3 _ _ _ _ ?_; clear hK3 K3; refine HC_seq fun K4 hK4 => ?_; refine HC_seq fun K5 hK5 => ?_; refine HC_region ?_; refine HL_callP rfl rfl rfl (enters_of Tryz.func118 (by kernel_rfl) rfl) hPn ?_; refine HL_r rfl rfl rfl rfl (R_move rfl) ?_; refine HL_nil ?_; refine HQ_then ?_; refine hK5 _ _ _ _ ?_; clear hK5 K5; refine HC_block ?_; refine HC_loop (σ := Nat) (fun i => i ≤ 24) (fun i => [(2, .pointer (some ⟨r2, 0, none⟩)), (3, .pointer (some ⟨r3, 0, none⟩)), (4, .pointer (some ⟨r4, 0, none⟩)), (9, .agg (nu.map uV).toArray), (10, .int .i64 (i : Int))]) (fun i => [(r4, .cells (tu.map iV).toArray 114 (0, 0)), (r3, kO (permS a i)), (r2, .cells (z25.map uV).toArray 72 (0, 0)), (r1, .cells (a.map uV).toArray 72 (0, 0))]) (fun _ _ _ => True) (fun i => 24 - i) 0 (Nat.zero_le _) (.cons rfl (.cons rfl (.cons rfl (.cons rfl (.cons rfl .nil))))) (List.Sublist.refl _) (fun _ _ h => h) ?_; intro i hi; refine HC_seq fun K6 hK6 => ?_; refine HC_region ?_; refine HL_r rfl rfl rfl rfl (R_pure rfl rfl rfl) ?_; refine HL_nil ?_; refine HQ_then ?_; refine hK6 _ _ _ _ ?_; clear hK6 K6; refine HC_seq fun K7 hK7 => ?_; refine HC_cond rfl (fun h8 => ?_) (fun h8 => ?_)
  · try exact Bool.noConfusion h8
    try simp only [Z1, Z2, Z3, Z4, Z5, Z6, Z7, Z8, Z9, Z10, Z11, Z12, Z13] at h8
    refine HC_skip ?_; refine HQ_then ?_; refine hK7 _ _ _ _ ?_; clear hK7 K7; refine HC_seq fun K9 hK9 => ?_; refine HC_block ?_; refine HC_seq fun K10 hK10 => ?_; refine HC_region ?_; refine HL_r rfl rfl rfl rfl (R_indexV (j := i) rfl rfl rfl rfl rfl rfl (by omega) (nth_xs (mapU_get (by rw [hnul]; omega)))) ?_; refine HL_r rfl rfl rfl rfl (R_assign rfl) ?_; refine HL_nil ?_; refine HQ_then ?_; refine hK10 _ _ _ _ ?_; clear hK10 K10; refine HC_region ?_; refine HL_r rfl rfl rfl rfl (R_move rfl) ?_; refine HL_r rfl rfl rfl rfl (R_loadArr (xs := tu.map iV) (n := 25) rfl (known_L (k := 0) rfl) rfl rfl (by rw [List.length_map, htul])) ?_; refine HL_callM (k := 1) rfl rfl rfl (enters_of Tryz.func119 (by kernel_rfl) rfl) rfl (M_round (permS_ok ha i) (n := nu.getD i 0) (hnuk.get i) htul htub r3) rfl ?_; refine HL_nil ?_; refine HQ_blockN ?_; refine HQ_then ?_; refine hK9 _ _ _ _ ?_; clear hK9 K9; refine HC_region ?_; refine HL_r rfl rfl rfl rfl (R_pure rfl rfl rfl) ?_; refine HL_wrap_i64 (by omega) (by omega) ?_; refine HL_r rfl rfl rfl rfl (R_move rfl) ?_; refine HL_nil ?_; refine HQ_then ?_; exact HQ_again (i + 1) (by omega) (by omega) (.cons rfl (.cons rfl (.cons rfl (.cons rfl (.cons rfl .nil))))) (by rw [show permS a (i + 1) = roundA tu (permS a i) (nu.getD i 0) from by rw [htu, hnu]; rfl]; exact List.Sublist.refl _) (fun _ _ h => h)
  · try exact Bool.noConfusion h8
    try simp only [Z1, Z2, Z3, Z4, Z5, Z6, Z7, Z8, Z9, Z10, Z11, Z12, Z13] at h8
    refine HC_exit ?_; refine HQ_thenE ?_; clear hK7 K7; refine HQ_thenE ?_; refine HQ_blockE ?_; refine HQ_then ?_; refine hK4 _ _ _ _ ?_; clear hK4 K4; refine HC_seq fun K11 hK11 => ?_
    have hi24 : 24 = i := by omega
    subst hi24; refine HC_region ?_; refine HL_r rfl rfl rfl rfl (R_loadArr (xs := (permS a 24).map uV) (n := 25) rfl (known_L (k := 1) rfl) rfl rfl (by rw [List.length_map, (permS_ok ha 24).1])) ?_; refine HL_storeArr (k := 2) (n := 25) (ys := (permS a 24).map uV) rfl rfl rfl rfl rfl (by rw [List.length_map, (permS_ok ha 24).1]) rfl (mapU_one _) rfl ?_; refine HL_nil ?_; refine HQ_then ?_; refine hK11 _ _ _ _ ?_; clear hK11 K11; refine HC_ret ?_; refine HQ_post rfl rfl (.cons (res_cellA (vs := (permS a 24).map uV) rfl (known_L (k := 2) rfl) rfl (by rw [List.length_map, (permS_ok ha 24).1]; rfl)) .nil) (fun w1 hs1 => ?_); exact ⟨rfl, hs1.keep⟩
theorem mapB_get {l : List UInt8} {j : Nat} (h : j < l.length) : (l.map bV)[j]? = some (.int .u8 ((l.getD j 0).toNat : Nat)) := by
  simp [h, bV, List.getD_eq_getElem?_getD]
set_option maxRecDepth 10000 in
theorem P_Pad {n : Nat} (hn : n ≤ 1099511627776) : Pure Tryz.prog 62 [.int .i64 (n : Int)].toArray (.tuple #[.string (bs (padL n)), .int .i64 0]) := by
  refine pure_of_HC Tryz.func62 rfl rfl fun w => ?_
  obtain ⟨k, hk⟩ : ∃ k, k = 135 - n % 136 := ⟨_, rfl⟩
  have hn1 : n % 136 < 136 := Nat.mod_lt _ (by decide)
  obtain ⟨x, hx⟩ : ∃ x : UInt8, x = (1 :: List.replicate k 0 : List UInt8).getD k 0 := ⟨_, rfl⟩
  have hxl := x.toNat_lt
  have hpl : (1 :: List.replicate k 0 : List UInt8).set k (UInt8.ofNat (x.toNat ||| 128)) = padL n := by
    unfold padL
    cases k with
    | zero => rw [if_pos (by omega), hx]; rfl
    | succ k =>
      rw [if_neg (by omega), hx]
      have e1 : (1 :: List.replicate (k + 1) 0 : List UInt8).getD (k + 1) 0 = 0 := by simp [List.getD_eq_getElem?_getD]
      rw [e1, show 134 - n % 136 = k from by omega]; simp only [List.set_cons_succ]
      congr 1
      rw [List.replicate_succ', List.set_append_right _ _ (by simp), List.length_replicate, Nat.sub_self]; rfl
  refine HC_seq fun K1 hK1 => ?_; refine HC_region ?_; refine HL_r rfl rfl rfl rfl (R_assign rfl) ?_; refine HL_r rfl rfl rfl rfl (R_assign rfl) ?_; refine HL_nil ?_; refine HQ_then ?_; refine hK1 _ _ _ _ ?_; clear hK1 K1; refine HC_seq fun K2 hK2 => ?_; refine HC_seq fun K3 hK3 => ?_; refine HC_region ?_; refine HL_r rfl rfl rfl rfl (R_move rfl) ?_; refine HL_r rfl rfl rfl rfl (R_pure rfl rfl rfl) ?_; refine HL_r rfl rfl rfl rfl (R_move rfl) ?_; refine HL_r rfl rfl rfl rfl (R_move rfl) ?_; refine HL_r rfl rfl rfl rfl (R_pure rfl rfl rfl) ?_; refine HL_r rfl rfl rfl rfl (R_pickF rfl rfl) ?_; refine HL_nil ?_; refine HQ_then ?_; refine hK3 _ _ _ _ ?_; clear hK3 K3; refine HC_cond rfl (fun h6 => ?_) (fun h6 => ?_)
  · try exact Bool.noConfusion h6
    try simp only [Z1, Z2, Z3, Z4, Z5, Z6, Z7, Z8, Z9, Z10, Z11, Z12, Z13] at h6
    refine HC_seq fun K7 hK7 => ?_; refine HC_region ?_; refine HL_r rfl rfl rfl rfl (R_assign rfl) ?_; refine HL_r rfl rfl rfl rfl (R_assign rfl) ?_; refine HL_nil ?_; refine HQ_then ?_; refine hK7 _ _ _ _ ?_; clear hK7 K7; refine HC_ret ?_; refine HQ_thenR ?_; clear hK2 K2; refine HQ_post rfl rfl (.cons (res_tmp rfl) (.cons (res_tmp rfl) .nil)) (fun w1 hs1 => ?_)
    first | (exact ⟨rfl, hs1.keep⟩) | (exfalso; omega)
  · try exact Bool.noConfusion h6
    try simp only [Z1, Z2, Z3, Z4, Z5, Z6, Z7, Z8, Z9, Z10, Z11, Z12, Z13] at h6
    refine HC_skip ?_; refine HQ_then ?_; refine hK2 _ _ _ _ ?_; clear hK2 K2; refine HC_seq fun K8 hK8 => ?_; refine HC_region ?_; refine HL_r rfl rfl rfl rfl (R_move rfl) ?_; refine HL_r rfl rfl rfl rfl (R_pure rfl rfl rfl) ?_; refine HL_as (show _ = Value.int .i64 ((n % 136 : Nat) : Int) from congrArg (Value.int .i64) (by rw [Int.tmod_eq_emod_of_nonneg (by omega)]; omega)) ?_; refine HL_r rfl rfl rfl rfl (R_pure rfl rfl rfl) ?_; refine HL_as (show _ = Value.int .i64 ((k + 1 : Nat) : Int) from congrArg (Value.int .i64) (by rw [wrap_i64 (by omega) (by omega)]; omega)) ?_; refine HL_make (n := k + 1) (b := 1) rfl rfl rfl rfl rfl rfl rfl rfl rfl (by omega) (by omega) fun r2 => ?_; refine HL_r rfl rfl rfl rfl (R_assign rfl) ?_; refine HL_nil ?_; refine HQ_then ?_; refine hK8 _ _ _ _ ?_; clear hK8 K8; refine HC_seq fun K9 hK9 => ?_; refine HC_region ?_; refine HL_r rfl rfl rfl rfl (R_move rfl) ?_; refine HL_r rfl rfl rfl rfl (R_indexS (j := 0) (m := 1) (off' := 0) rfl rfl rfl rfl rfl (by omega) rfl) ?_; refine HL_storeAt (k := 0) (off := 0) (xs := List.replicate (k + 1) (.int .u8 0)) (ys := (1 :: List.replicate k 0 : List UInt8).map bV) rfl rfl rfl rfl rfl rfl (by simp) (by rw [List.replicate_succ]; simp [bV]) rfl ?_; refine HL_nil ?_; refine HQ_then ?_; refine hK9 _ _ _ _ ?_; clear hK9 K9; refine HC_seq fun K10 hK10 => ?_; refine HC_region ?_; refine HL_r rfl rfl rfl rfl (R_move rfl) ?_; refine HL_r rfl rfl rfl rfl (R_move rfl) ?_; refine HL_r rfl rfl rfl rfl (R_lenSl rfl rfl) ?_; refine HL_r rfl rfl rfl rfl (R_pure rfl rfl rfl) ?_; refine HL_as (show _ = Value.int .i64 ((k : Nat) : Int) from congrArg (Value.int .i64) (by rw [wrap_i64 (by omega) (by omega)]; omega)) ?_; refine HL_r rfl rfl rfl rfl (R_indexS (j := k) (m := 1) (off' := k) rfl rfl rfl rfl rfl (by omega) (by omega)) ?_; refine HL_r rfl rfl rfl rfl (R_loadAt rfl (known_L (k := 0) rfl) rfl (mapB_get (by simp))) ?_; rw [← hx]
    refine HL_r rfl rfl rfl rfl (R_bits8 (op := .or) (b := ((x.toNat ||| 128 : Nat) : Int)) rfl rfl rfl hxl (by decide) rfl) ?_; refine HL_as (show _ = bV (UInt8.ofNat (x.toNat ||| 128)) from bV_of (Nat.or_lt_two_pow (n := 8) hxl (by decide))) ?_; refine HL_r rfl rfl rfl rfl (R_indexS (j := k) (m := 1) (off' := k) rfl rfl rfl rfl rfl (by omega) (by omega)) ?_; refine HL_storeAt (k := 0) (off := k) (xs := (1 :: List.replicate k 0 : List UInt8).map bV) (ys := (padL n).map bV) rfl rfl rfl rfl rfl rfl (by simp) (by rw [← hpl, List.map_set]) rfl ?_; refine HL_nil ?_; refine HQ_then ?_; refine hK10 _ _ _ _ ?_; clear hK10 K10; refine HC_seq fun K11 hK11 => ?_; refine HC_region ?_; refine HL_r rfl rfl rfl rfl (R_move rfl) ?_; refine HL_r rfl rfl rfl rfl (R_bytesStr (b := padL n) (row := some (r2, k + 1, [])) (e := 5) (show _ = some (rowV (padL n).length (some (r2, k + 1, []))) from by rw [padL_len, show 136 - n % 136 = k + 1 from by omega]; rfl) ⟨by simp, by simp [padL_len]; omega⟩ (fun p hp => .inl (by rw [List.mem_singleton.1 hp]; simp)) rfl rfl rfl) ?_; refine HL_r rfl rfl rfl rfl (R_assign rfl) ?_; refine HL_r rfl rfl rfl rfl (R_assign rfl) ?_; refine HL_nil ?_; refine HQ_then ?_; refine hK11 _ _ _ _ ?_; clear hK11 K11; refine HC_ret ?_; refine HQ_post rfl rfl (.cons (res_tmp rfl) (.cons (res_tmp rfl) .nil)) (fun w1 hs1 => ?_)
    first | (exact ⟨rfl, hs1.keep⟩) | (exfalso; omega)
end Go.Proofs.YtlcbfphioeppaaaGreatDoor
namespace Go.Proofs.YtlcbfphioeppaaaGreatDoor
set_option linter.all false
open Go.SL Go.RowKit Go.Shelf
def chL (rb n cap : Nat) (p : Nat × Nat) : List (Nat × Obj) := [(p.2, .cells #[.int .i64 136] 3 (0, 0)), (p.1, .cells #[.slice (some ⟨rb, 0, none⟩) n cap] 52 (0, 0))]
set_option maxRecDepth 10000 in
theorem E_Chunk (rb n cap : Nat) : PureE (α := Nat × Nat) Tryz.prog 63 [.slice (some ⟨rb, 0, none⟩) n cap, .int .i64 136].toArray (fun p => .func (.func 116) #[] #[.pointer (some ⟨p.1, 0, none⟩), .pointer (some ⟨p.2, 0, none⟩)]) (chL rb n cap) := by
  refine pureE_of_HC Tryz.func63 rfl rfl fun w => ?_; refine HC_seq fun K1 hK1 => ?_; refine HC_region ?_; refine HL_box (cs := #[_]) rfl rfl rfl rfl fun r1 => ?_; refine HL_box (cs := #[_]) rfl rfl rfl rfl fun r2 => ?_; refine HL_r rfl rfl rfl rfl (R_assign rfl) ?_; refine HL_nil ?_; refine HQ_then ?_; refine hK1 _ _ _ _ ?_; clear hK1 K1; refine HC_seq fun K2 hK2 => ?_; refine HC_seq fun K3 hK3 => ?_; refine HC_region ?_; refine HL_r rfl rfl rfl rfl (R_load rfl (known_L (k := 0) rfl) rfl rfl) ?_; refine HL_r rfl rfl rfl rfl (R_pure rfl rfl rfl) ?_; refine HL_nil ?_; refine HQ_then ?_; refine hK3 _ _ _ _ ?_; clear hK3 K3; refine HC_cond rfl (fun h4 => ?_) (fun h4 => ?_)
  · exact absurd h4 (by decide)
  · try exact Bool.noConfusion h4
    try simp only [Z1, Z2, Z3, Z4, Z5, Z6, Z7, Z8, Z9, Z10, Z11, Z12, Z13] at h4
    refine HC_skip ?_; refine HQ_then ?_; refine hK2 _ _ _ _ ?_; clear hK2 K2; refine HC_seq fun K5 hK5 => ?_; refine HC_region ?_; refine HL_r rfl rfl rfl rfl (R_makeFunc rfl rfl) ?_; refine HL_r rfl rfl rfl rfl (R_assign rfl) ?_; refine HL_nil ?_; refine HQ_then ?_; refine hK5 _ _ _ _ ?_; clear hK5 K5; refine HC_ret ?_; refine HQ_post rfl rfl (.cons (res_tmp rfl) .nil) (fun w1 hs1 => ?_); exact ⟨(r1, r2), rfl, hs1⟩
def chunkAt (rb j : Nat) : List Value := [.slice (some ⟨rb, 136 * j, none⟩) 136 136]
set_option maxRecDepth 10000 in
theorem I_Chunk {rb n cap N : Nat} (hn : n = 136 * N) (hcap : n ≤ cap) (hlim : n ≤ 2199023255552) (p1 p2 : Nat) : Iter Tryz.prog 116 [.pointer (some ⟨p1, 0, none⟩), .pointer (some ⟨p2, 0, none⟩)] (chL rb n cap (p1, p2)) 0 (nxN (chunkAt rb) N) (finN N) := by
  refine iter_of_HC Tryz.func116 rfl rfl fun q xids w2 XI XF hY => ?_; refine HC_seq fun K1 hK1 => ?_; refine HC_region ?_; refine HL_r rfl rfl rfl rfl (R_assign rfl) ?_; refine HL_nil ?_; refine HQ_then ?_; refine hK1 _ _ _ _ ?_; clear hK1 K1; refine HC_block ?_; refine HC_loop (σ := Nat) (fun i => i ≤ N) (fun i => [(0, .func (.yield q) #[] #[]), (1, .pointer (some ⟨p1, 0, none⟩)), (2, .pointer (some ⟨p2, 0, none⟩)), (4, .int .i64 ((136 * i : Nat) : Int))]) (fun _ => []) (fun i => XI i) (fun i => N - i) 0 (Nat.zero_le _) (.cons rfl (.cons rfl (.cons rfl (.cons rfl .nil)))) (List.nil_sublist _) (fun _ _ h => h) ?_; intro i hi; refine HC_seq fun K2 hK2 => ?_; refine HC_seq fun K3 hK3 => ?_; refine HC_region ?_; refine HL_r rfl rfl rfl rfl (R_move rfl) ?_; refine HL_r rfl rfl rfl rfl (R_load rfl (known_R (k := 1) rfl) rfl rfl) ?_; refine HL_r rfl rfl rfl rfl (R_lenSl rfl rfl) ?_; refine HL_r rfl rfl rfl rfl (R_pure rfl rfl rfl) ?_; refine HL_nil ?_; refine HQ_then ?_; refine hK3 _ _ _ _ ?_; clear hK3 K3; refine HC_cond rfl (fun h4 => ?_) (fun h4 => ?_)
  · try exact Bool.noConfusion h4
    try simp only [Z1, Z2, Z3, Z4, Z5, Z6, Z7, Z8, Z9, Z10, Z11, Z12, Z13] at h4
    refine HC_skip ?_; refine HQ_then ?_; refine hK2 _ _ _ _ ?_; clear hK2 K2; refine HC_seq fun K5 hK5 => ?_; refine HC_block ?_; refine HC_seq fun K6 hK6 => ?_; refine HC_draw 7 (by kernel_rfl) (by kernel_rfl) ?_; refine HD_r rfl rfl rfl (R_load rfl (known_R (k := 0) rfl) rfl rfl) ?_; refine HD_r rfl rfl rfl (R_load rfl (known_R (k := 1) rfl) rfl rfl) ?_; refine HD_r rfl rfl rfl (R_move rfl) ?_; refine HD_r rfl rfl rfl (R_sliceSl (kl := some (136 * i)) (kh := none) (km := none) (sz := 1) (m := 136 * i) (q := n) (z := cap) rfl rfl rfl ⟨_, rfl⟩ trivial trivial rfl rfl rfl (by omega) hcap (Nat.le_refl _) (fun _ => rfl) rfl) ?_; refine HD_r rfl rfl rfl (R_lenSl rfl rfl) ?_; refine HD_r rfl rfl rfl (R_min2 (r := 136) rfl rfl (by rw [if_neg (by omega)])) ?_; refine HD_r rfl rfl rfl (R_assign rfl) ?_; refine HD_end ?_; refine HL_nil ?_; refine HQ_then ?_; refine hK6 _ _ _ _ ?_; clear hK6 K6; refine HC_seq fun K7 hK7 => ?_; refine HC_region ?_; refine HL_r rfl rfl rfl rfl (R_move rfl) ?_; refine HL_r rfl rfl rfl rfl (R_load rfl (known_R (k := 1) rfl) rfl rfl) ?_; refine HL_r rfl rfl rfl rfl (R_move rfl) ?_; refine HL_r rfl rfl rfl rfl (R_move rfl) ?_; refine HL_r rfl rfl rfl rfl (R_move rfl) ?_; refine HL_r rfl rfl rfl rfl (R_pure rfl rfl rfl) ?_; refine HL_as (show _ = Value.int .i64 ((136 * i + 136 : Nat) : Int) from congrArg (Value.int .i64) (by rw [wrap_i64 (by omega) (by omega)]; omega)) ?_; refine HL_r rfl rfl rfl rfl (R_move rfl) ?_; refine HL_r rfl rfl rfl rfl (R_move rfl) ?_; refine HL_r rfl rfl rfl rfl (R_pure rfl rfl rfl) ?_; refine HL_as (show _ = Value.int .i64 ((136 * i + 136 : Nat) : Int) from congrArg (Value.int .i64) (by rw [wrap_i64 (by omega) (by omega)]; omega)) ?_
    refine HL_r rfl rfl rfl rfl (R_sliceSl (kl := some (136 * i)) (kh := some (136 * i + 136)) (km := some (136 * i + 136)) (sz := 1) (m := 136 * i) (q := 136 * i + 136) (z := 136 * i + 136) (off' := 136 * i) rfl rfl rfl ⟨_, rfl⟩ ⟨_, rfl⟩ ⟨_, rfl⟩ rfl rfl rfl (by omega) (Nat.le_refl _) (by omega) (fun h => by cases h) (by rw [if_neg (by omega)]; omega)) ?_; refine HL_as (show _ = Value.slice (some ⟨rb, 136 * i, none⟩) 136 136 from by congr 1 <;> omega) ?_; refine HL_yield (XT := XI (i + 1)) (XF := XF) rfl rfl rfl rfl (hY i (chunkAt rb i) (i + 1) ⟨by omega, rfl, rfl⟩) ?_ ?_
    all_goals refine HL_r rfl rfl rfl rfl (R_pure rfl rfl rfl) ?_
    all_goals refine HL_nil ?_
    all_goals (
     refine HQ_then ?_; refine hK7 _ _ _ _ ?_; clear hK7 K7; refine HC_cond rfl (fun h8 => ?_) (fun h8 => ?_)
     · try exact Bool.noConfusion h8
       all_goals try simp only [Z1, Z2, Z3, Z4, Z5, Z6, Z7, Z8, Z9, Z10, Z11, Z12, Z13] at h8
       all_goals (
        refine HC_ret ?_; refine HQ_blockR ?_; refine HQ_thenR ?_; clear hK5 K5; refine HQ_thenR ?_; refine HQ_blockR ?_; refine HQ_post rfl rfl .nil (fun w1 hs1 => ?_)
        obtain ⟨xs1, hx1⟩ := hs1.now
        exact ⟨⟨_, rfl⟩, hs1.keep, .inr ⟨_, hx1⟩⟩
        skip)
     · try exact Bool.noConfusion h8
       all_goals try simp only [Z1, Z2, Z3, Z4, Z5, Z6, Z7, Z8, Z9, Z10, Z11, Z12, Z13] at h8
       all_goals (
        refine HC_skip ?_; refine HQ_blockN ?_; refine HQ_then ?_; refine hK5 _ _ _ _ ?_; clear hK5 K5; refine HC_region ?_; refine HL_r rfl rfl rfl rfl (R_move rfl) ?_; refine HL_r rfl rfl rfl rfl (R_load rfl (known_R (k := 0) rfl) rfl rfl) ?_; refine HL_r rfl rfl rfl rfl (R_pure rfl rfl rfl) ?_; refine HL_as (show _ = Value.int .i64 ((136 * (i + 1) : Nat) : Int) from congrArg (Value.int .i64) (by rw [wrap_i64 (by omega) (by omega)]; omega)) ?_; refine HL_r rfl rfl rfl rfl (R_assign rfl) ?_; refine HL_nil ?_; refine HQ_then ?_; exact HQ_again (i + 1) (by omega) (by omega) (.cons rfl (.cons rfl (.cons rfl (.cons rfl .nil)))) (List.nil_sublist _) (fun _ _ h => h)
        skip)
     skip)
  · try exact Bool.noConfusion h4
    try simp only [Z1, Z2, Z3, Z4, Z5, Z6, Z7, Z8, Z9, Z10, Z11, Z12, Z13] at h4
    refine HC_exit ?_; refine HQ_thenE ?_; clear hK2 K2; refine HQ_thenE ?_; refine HQ_blockE ?_; refine HQ_postN rfl rfl .nil (fun w1 hs1 => ?_)
    obtain ⟨xs1, hx1⟩ := hs1.now
    exact ⟨⟨_, rfl⟩, hs1.keep, .inl ⟨i, _, (by show i = N; omega), hx1⟩⟩
theorem out_step {a : List Nat} {i : Nat} (h : i < 32) : ((outL a i ++ List.replicate (32 - i) 0).map bV).set i (bV (UInt8.ofNat (a.getD (i / 8) 0 / 2 ^ (i % 8 * 8) % 256))) = (outL a (i + 1) ++ List.replicate (32 - (i + 1)) 0).map bV := by
  rw [← List.map_set, List.set_append_right _ _ (by rw [outL_len]; exact Nat.le_refl _), outL_len, Nat.sub_self, show 32 - i = (32 - (i + 1)) + 1 from by omega, List.replicate_succ, List.set_cons_zero, outL, List.append_assoc]
  rfl
theorem row_get {t : List UInt8} {k j i : Nat} (h : 136 * j + i < t.length) : (t.map bV ++ List.replicate k (Value.int .u8 0))[136 * j + i]? = some (.int .u8 (((t.drop (136 * j)).getD i 0).toNat : Nat)) := by
  rw [List.getElem?_append_left (by rw [List.length_map]; exact h), mapB_get h]
  simp [List.getD_eq_getElem?_getD]
set_option maxRecDepth 10000 in
theorem P_kec {s : List UInt8} (hs : s.length ≤ 1099511627776) : Pure Tryz.prog 34 [.string (bs s)].toArray (.string (bs (kec s))) := by
  refine pure_of_HC Tryz.func34 rfl rfl fun w => ?_
  have hpl := padL_len s.length
  obtain ⟨t, ht⟩ : ∃ t, t = s ++ padL s.length := ⟨_, rfl⟩
  obtain ⟨N, hN⟩ : ∃ N, N = t.length / 136 := ⟨_, rfl⟩
  have htl : t.length = 136 * N := by have := kec_blocks s; rw [← ht] at this; omega
  have hlim : t.length ≤ 2199023255552 := by rw [ht, List.length_append]; omega
  have hkec : kec s = outL (sumS t N) 32 := by unfold kec; rw [← ht, ← hN]
  refine HC_seq fun K1 hK1 => ?_; refine HC_region ?_; refine HL_r rfl rfl rfl rfl (R_assign rfl) ?_; refine HL_nil ?_; refine HQ_then ?_; refine hK1 _ _ _ _ ?_; clear hK1 K1; refine HC_seq fun K2 hK2 => ?_; refine HC_region ?_; refine HL_r rfl rfl rfl rfl (R_move rfl) ?_; refine HL_r rfl rfl rfl rfl (R_lenBs rfl rfl) ?_; refine HL_callP rfl rfl rfl (enters_of Tryz.func62 (by kernel_rfl) rfl) (P_Pad hs) ?_; refine HL_r rfl rfl rfl rfl (R_move rfl) ?_; refine HL_r rfl rfl rfl rfl (R_extract rfl rfl) ?_; refine HL_r rfl rfl rfl rfl (R_extract rfl rfl) ?_; refine HL_r rfl rfl rfl rfl (R_assign rfl) ?_; refine HL_r rfl rfl rfl rfl (R_assign rfl) ?_; refine HL_nil ?_; refine HQ_then ?_; refine hK2 _ _ _ _ ?_; clear hK2 K2; refine HC_seq fun K3 hK3 => ?_; refine HC_region ?_; refine HL_alloc (cs := (z25.map uV).toArray) rfl rfl rfl rfl fun r1 => ?_; refine HL_nil ?_; refine HQ_then ?_; refine hK3 _ _ _ _ ?_; clear hK3 K3; refine HC_seq fun K4 hK4 => ?_; refine HC_seq fun K5 hK5 => ?_; refine HC_region ?_; refine HL_r rfl rfl rfl rfl (R_move rfl) ?_; refine HL_r rfl rfl rfl rfl (R_move rfl) ?_; refine HL_r rfl rfl rfl rfl (R_concat rfl rfl (by omega)) ?_; rw [← ht]; refine HL_strBytes rfl rfl rfl rfl rfl rfl fun rb kb => ?_; refine HL_callPE rfl rfl rfl (enters_of Tryz.func63 (by kernel_rfl) rfl) (E_Chunk rb t.length (t.length + kb)) fun pp => ?_
  obtain ⟨p1, p2⟩ := pp
  change HL _ _ _ [(p2, _), (p1, _), (rb, _), (r1, _)] _ _ _ _; refine HL_nil ?_; refine HQ_then ?_; refine hK5 _ _ _ _ ?_; clear hK5 K5; refine HC_block ?_; refine HC_sel [3, 0, 1, 2] (by decide) rfl ?_; refine HC_range (τ := Unit) (fun j (s : List Nat) => s = sumS t j ∧ j ≤ N) (fun s => [(r1, kO s)]) (fun _ _ => False) (fun _ => []) [(p2, _), (p1, _), (rb, _)] z25 rfl rfl (enters_of Tryz.func116 (by kernel_rfl) rfl) (I_Chunk (rb := rb) (cap := t.length + kb) htl (by omega) hlim p1 p2) (by rintro _ _ _ ⟨_, rfl, _⟩; rfl) rfl (by simp [chL]) rfl ⟨rfl, Nat.zero_le _⟩ ?_ ?_ ?_
  · rintro q Xr Xb w3 jj _ _ a ⟨hi, rfl, rfl⟩ ⟨hsa, -⟩ Kr hKr
    have hak : SOk 25 a := by rw [hsa]; exact sumS_ok t jj
    obtain ⟨u, hu⟩ : ∃ u, u = t.drop (136 * jj) := ⟨_, rfl⟩
    have habk := abS_ok u hak
    refine HC_region ?_; refine HL_r rfl rfl rfl rfl (R_assign rfl) ?_; refine HL_nil ?_; refine HQ_then ?_; refine hKr _ _ ?_; clear hKr; refine HC_block ?_; refine HC_seq fun K6 hK6 => ?_; refine HC_seq fun K7 hK7 => ?_; refine HC_region ?_; refine HL_r rfl rfl rfl rfl (R_move rfl) ?_; refine HL_r rfl rfl rfl rfl (R_lenSl rfl rfl) ?_; refine HL_r rfl rfl rfl rfl (R_move rfl) ?_; refine HL_nil ?_; refine HQ_then ?_; refine hK7 _ _ _ _ ?_; clear hK7 K7; refine HC_block ?_; refine HC_loop (σ := Nat) (fun i => i ≤ 136) (fun i => [(5, .pointer (some ⟨r1, 0, none⟩)), (23, .slice (some ⟨rb, 136 * jj, none⟩) 136 136), (24, .int .i64 136), (25, .int .i64 (i : Int))]) (fun i => [(r1, kO (abS a u i))]) (fun _ => Xb) (fun i => 136 - i) 0 (Nat.zero_le _) (.cons rfl (.cons rfl (.cons rfl (.cons rfl .nil)))) (List.Sublist.refl _) (fun _ _ h => h) ?_; intro i hi; refine HC_seq fun K8 hK8 => ?_; refine HC_region ?_; refine HL_r rfl rfl rfl rfl (R_pure rfl rfl rfl) ?_; refine HL_nil ?_; refine HQ_then ?_; refine hK8 _ _ _ _ ?_; clear hK8 K8; refine HC_seq fun K9 hK9 => ?_; refine HC_cond rfl (fun h10 => ?_) (fun h10 => ?_)
    · try exact Bool.noConfusion h10
      try simp only [Z1, Z2, Z3, Z4, Z5, Z6, Z7, Z8, Z9, Z10, Z11, Z12, Z13] at h10
      refine HC_skip ?_; refine HQ_then ?_; refine hK9 _ _ _ _ ?_; clear hK9 K9; refine HC_seq fun K11 hK11 => ?_; refine HC_block ?_; refine HC_seq fun K12 hK12 => ?_; refine HC_region ?_; refine HL_r rfl rfl rfl rfl (R_move rfl) ?_; refine HL_r rfl rfl rfl rfl (R_indexS (j := i) (m := 1) (off' := 136 * jj + i) rfl rfl rfl rfl rfl (by omega) (by omega)) ?_; refine HL_r rfl rfl rfl rfl (R_loadAt rfl (known_R (k := 2) rfl) rfl (row_get (by omega))) ?_; rw [← hu]; refine HL_r rfl rfl rfl rfl (R_assign rfl) ?_; refine HL_r rfl rfl rfl rfl (R_assign rfl) ?_; refine HL_nil ?_; refine HQ_then ?_; refine hK12 _ _ _ _ ?_; clear hK12 K12; refine HC_draw 12 (by kernel_rfl) (by kernel_rfl) ?_; refine HD_r rfl rfl rfl (R_move rfl) ?_; refine HD_r rfl rfl rfl (R_pure rfl rfl rfl) ?_; refine HD_as (show _ = Value.int .i64 ((i / 8 : Nat) : Int) from congrArg (Value.int .i64) (by rw [quo_i64 (by omega) (by omega) (by omega)]; omega)) ?_; refine HD_r rfl rfl rfl (R_indexA (j := i / 8) (m := 1) (off' := i / 8) rfl rfl rfl rfl (by omega) (by omega) (by omega)) ?_; refine HD_r rfl rfl rfl (R_loadAt rfl (known_L (k := 0) rfl) rfl (mapU_get (by rw [(habk i).1]; omega))) ?_; refine HD_r rfl rfl rfl (R_move rfl) ?_; refine HD_r rfl rfl rfl (R_pure rfl rfl rfl) ?_; refine HD_as (show _ = uV (u.getD i 0).toNat from congrArg (Value.int .u64) (wrap_u64 (z := ((u.getD i 0).toNat : Int)) (by omega) (by have := u8_lt (u.getD i 0); omega))) ?_; refine HD_r rfl rfl rfl (R_move rfl) ?_; refine HD_r rfl rfl rfl (R_pure rfl rfl rfl) ?_; refine HD_as (show _ = Value.int .i64 ((i % 8 : Nat) : Int) from congrArg (Value.int .i64) (by rw [Int.tmod_eq_emod_of_nonneg (by omega)]; omega)) ?_; refine HD_r rfl rfl rfl (R_pure rfl rfl rfl) ?_; refine HD_as (show _ = Value.int .i64 ((i % 8 * 8 : Nat) : Int) from congrArg (Value.int .i64) (by rw [wrap_i64 (by omega) (by omega)]; omega)) ?_; refine HD_r rfl rfl rfl (R_shl (n := i % 8 * 8) rfl rfl rfl (show _ ≤ 64 from by omega) (shl_u64 (sh_lt (u8_lt _) (by omega)))) ?_; refine HD_r rfl rfl rfl (R_bits64 (op := .xor) (b := (((abS a u i).getD (i / 8) 0 ^^^ (u.getD i 0).toNat * 2 ^ (i % 8 * 8) : Nat) : Int)) rfl rfl rfl ((habk i).get _) (sh_lt (u8_lt _) (by omega)) rfl) ?_; refine HD_r rfl rfl rfl (R_indexA (j := i / 8) (m := 1) (off' := i / 8) rfl rfl rfl rfl (by omega) (by omega) (by omega)) ?_; refine HD_end ?_; refine HL_storeAt (k := 0) (off := i / 8) (xs := (abS a u i).map uV) (ys := (abS a u (i + 1)).map uV) rfl rfl rfl rfl rfl rfl (by rw [List.length_map, (habk i).1]; omega) (set_mapU rfl) rfl ?_; refine HL_nil ?_; refine HQ_blockN ?_; refine HQ_then ?_; refine hK11 _ _ _ _ ?_; clear hK11 K11; refine HC_region ?_; refine HL_r rfl rfl rfl rfl (R_pure rfl rfl rfl) ?_; refine HL_wrap_i64 (by omega) (by omega) ?_; refine HL_r rfl rfl rfl rfl (R_move rfl) ?_; refine HL_nil ?_; refine HQ_then ?_; exact HQ_again (i + 1) (by omega) (by omega) (.cons rfl (.cons rfl (.cons rfl (.cons rfl .nil)))) (List.Sublist.refl _) (fun _ _ h => h)
    · try exact Bool.noConfusion h10
      try simp only [Z1, Z2, Z3, Z4, Z5, Z6, Z7, Z8, Z9, Z10, Z11, Z12, Z13] at h10
      refine HC_exit ?_; refine HQ_thenE ?_; clear hK9 K9; refine HQ_thenE ?_; refine HQ_blockE ?_; refine HQ_then ?_; refine hK6 _ _ _ _ ?_; clear hK6 K6
      have hi136 : 136 = i := by omega
      subst hi136; refine HC_region ?_; refine HL_r rfl rfl rfl rfl (R_loadArr (xs := (abS a u 136).map uV) (n := 25) rfl (known_L (k := 0) rfl) rfl rfl (by rw [List.length_map, (habk 136).1])) ?_; refine HL_callP rfl rfl rfl (enters_of Tryz.func64 (by kernel_rfl) rfl) (P_Permute (habk 136)) ?_; refine HL_storeArr (k := 0) (n := 25) (ys := (permA (abS a u 136)).map uV) rfl rfl rfl rfl rfl (by rw [List.length_map, (permA_ok (habk 136)).1]) (by rw [List.size_toArray, List.length_map, (habk 136).1]) (mapU_one _) rfl ?_; refine HL_nil ?_; refine HQ_blockN ?_; refine HQ_round (sumS t (jj + 1)) ⟨rfl, by omega⟩ ?_; rw [show sumS t (jj + 1) = permA (abS a u 136) from by rw [hu, hsa]; rfl]; rfl
  · rintro D jj a hfi ⟨hsa, -⟩
    have hjN : jj = N := hfi
    have hak : SOk 25 a := by rw [hsa]; exact sumS_ok t jj
    have hkec2 : kec s = outL a 32 := by rw [hkec, hsa, hjN]
    refine HQ_blockN ?_; refine HQ_then ?_; refine hK4 _ _ _ _ ?_; clear hK4 K4; refine HC_seq fun K13 hK13 => ?_; refine HC_region ?_; refine HL_make (n := 32) (b := 1) rfl rfl rfl rfl rfl rfl rfl rfl rfl (by decide) (by decide) fun r2 => ?_; refine HL_r rfl rfl rfl rfl (R_assign rfl) ?_; refine HL_nil ?_; refine HQ_then ?_; refine hK13 _ _ _ _ ?_; clear hK13 K13; refine HC_seq fun K14 hK14 => ?_; refine HC_seq fun K15 hK15 => ?_; refine HC_region ?_; refine HL_r rfl rfl rfl rfl (R_move rfl) ?_; refine HL_r rfl rfl rfl rfl (R_lenSl rfl rfl) ?_; refine HL_r rfl rfl rfl rfl (R_move rfl) ?_; refine HL_nil ?_; refine HQ_then ?_; refine hK15 _ _ _ _ ?_; clear hK15 K15; refine HC_block ?_; refine HC_loop (σ := Nat) (fun i => i ≤ 32) (fun i => [(5, .pointer (some ⟨r1, 0, none⟩)), (9, .slice (some ⟨r2, 0, none⟩) 32 32), (47, .int .i64 32), (48, .int .i64 (i : Int))]) (fun i => [(r2, .cells ((outL a i ++ List.replicate (32 - i) 0).map bV).toArray 5 (0, 0)), (D, .deferred (some [])), (r1, kO a)]) (fun _ _ _ => True) (fun i => 32 - i) 0 (Nat.zero_le _) (.cons rfl (.cons rfl (.cons rfl (.cons rfl .nil)))) (.cons_cons _ (.cons_cons _ (.cons_cons _ (List.nil_sublist _)))) (fun _ _ h => h) ?_; intro i hi; refine HC_seq fun K16 hK16 => ?_; refine HC_region ?_; refine HL_r rfl rfl rfl rfl (R_pure rfl rfl rfl) ?_; refine HL_nil ?_; refine HQ_then ?_; refine hK16 _ _ _ _ ?_; clear hK16 K16; refine HC_seq fun K17 hK17 => ?_; refine HC_cond rfl (fun h18 => ?_) (fun h18 => ?_)
    · try exact Bool.noConfusion h18
      try simp only [Z1, Z2, Z3, Z4, Z5, Z6, Z7, Z8, Z9, Z10, Z11, Z12, Z13] at h18
      refine HC_skip ?_; refine HQ_then ?_; refine hK17 _ _ _ _ ?_; clear hK17 K17; refine HC_seq fun K19 hK19 => ?_; refine HC_block ?_; refine HC_seq fun K20 hK20 => ?_; refine HC_region ?_; refine HL_r rfl rfl rfl rfl (R_move rfl) ?_; refine HL_r rfl rfl rfl rfl (R_assign rfl) ?_; refine HL_nil ?_; refine HQ_then ?_; refine hK20 _ _ _ _ ?_; clear hK20 K20; refine HC_region ?_; refine HL_r rfl rfl rfl rfl (R_move rfl) ?_; refine HL_r rfl rfl rfl rfl (R_move rfl) ?_; refine HL_r rfl rfl rfl rfl (R_move rfl) ?_; refine HL_r rfl rfl rfl rfl (R_pure rfl rfl rfl) ?_; refine HL_as (show _ = Value.int .i64 ((i / 8 : Nat) : Int) from congrArg (Value.int .i64) (by rw [quo_i64 (by omega) (by omega) (by omega)]; omega)) ?_; refine HL_r rfl rfl rfl rfl (R_indexA (j := i / 8) (m := 1) (off' := i / 8) rfl rfl rfl rfl (by omega) (by omega) (by omega)) ?_; refine HL_r rfl rfl rfl rfl (R_loadAt rfl (known_L (k := 2) rfl) rfl (mapU_get (by rw [hak.1]; omega))) ?_; refine HL_r rfl rfl rfl rfl (R_move rfl) ?_; refine HL_r rfl rfl rfl rfl (R_pure rfl rfl rfl) ?_; refine HL_as (show _ = Value.int .i64 ((i % 8 : Nat) : Int) from congrArg (Value.int .i64) (by rw [Int.tmod_eq_emod_of_nonneg (by omega)]; omega)) ?_; refine HL_r rfl rfl rfl rfl (R_pure rfl rfl rfl) ?_; refine HL_as (show _ = Value.int .i64 ((i % 8 * 8 : Nat) : Int) from congrArg (Value.int .i64) (by rw [wrap_i64 (by omega) (by omega)]; omega)) ?_; refine HL_r rfl rfl rfl rfl (R_shr (n := i % 8 * 8) rfl rfl rfl (show _ ≤ 64 from by omega) (by omega) (shr_nat _ _)) ?_; refine HL_r rfl rfl rfl rfl (R_pure rfl rfl rfl) ?_; refine HL_as (show _ = bV (UInt8.ofNat (a.getD (i / 8) 0 / 2 ^ (i % 8 * 8) % 256)) from byte_mod _) ?_; refine HL_r rfl rfl rfl rfl (R_indexS (j := i) (m := 1) (off' := i) rfl rfl rfl rfl rfl (by omega) (by omega)) ?_; refine HL_storeAt (k := 0) (off := i) (xs := (outL a i ++ List.replicate (32 - i) 0).map bV) (ys := (outL a (i + 1) ++ List.replicate (32 - (i + 1)) 0).map bV) rfl rfl rfl rfl rfl rfl (by simp [outL_len]; omega) (out_step (by omega)) rfl ?_; refine HL_nil ?_; refine HQ_blockN ?_; refine HQ_then ?_; refine hK19 _ _ _ _ ?_; clear hK19 K19; refine HC_region ?_; refine HL_r rfl rfl rfl rfl (R_pure rfl rfl rfl) ?_; refine HL_wrap_i64 (by omega) (by omega) ?_; refine HL_r rfl rfl rfl rfl (R_move rfl) ?_; refine HL_nil ?_; refine HQ_then ?_; exact HQ_again (i + 1) (by omega) (by omega) (.cons rfl (.cons rfl (.cons rfl (.cons rfl .nil)))) (List.Sublist.refl _) (fun _ _ h => h)
    · try exact Bool.noConfusion h18
      try simp only [Z1, Z2, Z3, Z4, Z5, Z6, Z7, Z8, Z9, Z10, Z11, Z12, Z13] at h18
      refine HC_exit ?_; refine HQ_thenE ?_; clear hK17 K17; refine HQ_thenE ?_; refine HQ_blockE ?_; refine HQ_then ?_; refine hK14 _ _ _ _ ?_; clear hK14 K14; refine HC_seq fun K21 hK21 => ?_
      have hi32 : 32 = i := by omega
      subst hi32; refine HC_region ?_; refine HL_r rfl rfl rfl rfl (R_move rfl) ?_; refine HL_r rfl rfl rfl rfl (R_bytesStr (b := outL a 32) (row := some (r2, 32, [])) (e := 5) (show _ = some (rowV (outL a 32).length (some (r2, 32, []))) from by rw [outL_len]; rfl) ⟨by simp [outL_len], by simp [outL_len]⟩ (fun p hp => .inl (by rw [List.mem_singleton.1 hp]; simp)) rfl rfl rfl) ?_; refine HL_r rfl rfl rfl rfl (R_assign rfl) ?_; refine HL_nil ?_; refine HQ_then ?_; refine hK21 _ _ _ _ ?_; clear hK21 K21; refine HC_ret ?_; refine HQ_mark (k := 1) rfl rfl ?_; refine HQ_post rfl rfl (.cons (res_tmp rfl) .nil) (fun w1 hs1 => ?_); exact ⟨by rw [hkec2]; rfl, hs1.keep⟩
  · exact fun _ _ _ h => h.elim
end Go.Proofs.YtlcbfphioeppaaaGreatDoor
namespace Go.Proofs.YtlcbfphioeppaaaGreatDoor
set_option linter.all false
open Go.SL Go.RowKit Go.Shelf
section
variable {c : Cx} {l : List (Nat × Value)} {L : List (Nat × Obj)} {X : XP} {d : List Deferred}
variable {i : Nat} {v : Value} {t : TypeId} {ps : String} {af : Array Edge} {gd : Option (Nat × Bool)} {ty t2 : TypeId}
end
end Go.Proofs.YtlcbfphioeppaaaGreatDoor
namespace Go.Proofs.YtlcbfphioeppaaaGreatDoor
set_option linter.all false
open Go.SL Go.RowKit Go.Shelf
end Go.Proofs.YtlcbfphioeppaaaGreatDoor
namespace Go.Proofs.YtlcbfphioeppaaaGreatDoor
set_option linter.all false
open Go.SL Go.RowKit Go.Shelf
def tXY : Nat → Nat × Nat
  | 0 => (1, 0)
  | t + 1 => ((tXY t).2, (2 * (tXY t).1 + 3 * (tXY t).2) % 5)
def tX (t : Nat) : Nat := (tXY t).1
def tY (t : Nat) : Nat := (tXY t).2
def tS (a : List Nat) : Nat → List Nat
  | 0 => a
  | t + 1 => (tS a t).set (tX t + 5 * tY t) (rotN ((tS a t).getD (tX t + 5 * tY t) 0) ((t + 1) * (t + 2) / 2))
end Go.Proofs.YtlcbfphioeppaaaGreatDoor
namespace Go.Proofs.YtlcbfphioeppaaaGreatDoor
set_option linter.all false
open Go.SL Go.RowKit Go.Shelf
end Go.Proofs.YtlcbfphioeppaaaGreatDoor
namespace Go.Proofs.YtlcbfphioeppaaaGreatDoor
set_option linter.all false
open Go.SL Go.RowKit Go.Shelf
end Go.Proofs.YtlcbfphioeppaaaGreatDoor
namespace Go.Proofs.YtlcbfphioeppaaaGreatDoor
set_option linter.all false
open Go.SL Go.RowKit Go.Shelf
end Go.Proofs.YtlcbfphioeppaaaGreatDoor
/-! ### Rows that rise by byte strings; accounts and states in plain Lean -/
namespace Go.SL
set_option linter.all false
open Go Go.RowKit Go.Shelf
abbrev BS : Type := List UInt8
theorem bl_irr : ∀ a : BS, Op.bytesLess a a = false
  | [] => rfl
  | x :: a => by simp [Op.bytesLess, bl_irr a]
theorem bl_trans : ∀ {a b c : BS}, Op.bytesLess a b = true → Op.bytesLess b c = true → Op.bytesLess a c = true
  | _, [], _, h, _ => by simp [Op.bytesLess] at h
  | _, _ :: _, [], _, h => by simp [Op.bytesLess] at h
  | [], y :: b, z :: c, _, _ => rfl
  | x :: a, y :: b, z :: c, h, h2 => by
    simp only [Op.bytesLess, Bool.or_eq_true, decide_eq_true_eq, Bool.and_eq_true, beq_iff_eq] at h h2 ⊢
    rcases h with h | ⟨rfl, h⟩
    · rcases h2 with h2 | ⟨rfl, h2⟩
      · exact .inl (UInt8.lt_trans h h2)
      · exact .inl h
    · rcases h2 with h2 | ⟨rfl, h2⟩
      · exact .inl h2
      · exact .inr ⟨rfl, bl_trans h h2⟩
theorem bl_tri : ∀ a b : BS, a = b ∨ Op.bytesLess a b = true ∨ Op.bytesLess b a = true
  | [], [] => .inl rfl
  | [], _ :: _ => .inr (.inl rfl)
  | _ :: _, [] => .inr (.inr rfl)
  | x :: a, y :: b => by
    simp only [Op.bytesLess, Bool.or_eq_true, decide_eq_true_eq, Bool.and_eq_true, beq_iff_eq]
    by_cases h1 : x < y
    · exact .inr (.inl (.inl h1))
    by_cases h2 : y < x
    · exact .inr (.inr (.inl h2))
    have e : x = y := UInt8.le_antisymm (UInt8.not_lt.1 h2) (UInt8.not_lt.1 h1)
    subst e
    rcases bl_tri a b with rfl | h | h
    · exact .inl rfl
    · exact .inr (.inl (.inr ⟨rfl, h⟩))
    · exact .inr (.inr (.inr ⟨rfl, h⟩))
theorem bl_ne {a b : BS} (h : Op.bytesLess a b = true) : a ≠ b := by rintro rfl; rw [bl_irr] at h; cases h
theorem bl_not {a b : BS} (h : Op.bytesLess a b = false) (hn : a ≠ b) : Op.bytesLess b a = true := by
  rcases bl_tri a b with h1 | h1 | h1
  · exact absurd h1 hn
  · rw [h] at h1; cases h1
  · exact h1
section
variable {α : Type} (kf : α → BS)
def risesB : List α → Bool
  | [] => true
  | [_] => true
  | x :: y :: l => Op.bytesLess (kf x) (kf y) && risesB (y :: l)
abbrev Sorted (l : List α) : Prop := l.Pairwise fun x y => Op.bytesLess (kf x) (kf y) = true
theorem rises_iff : ∀ l : List α, risesB kf l = true ↔ Sorted kf l
  | [] => by simp [risesB]
  | [_] => by simp [risesB]
  | x :: y :: l => by
    rw [risesB, Bool.and_eq_true, rises_iff (y :: l)]
    refine Iff.trans ?_ List.pairwise_cons.symm
    constructor
    · rintro ⟨h1, h2⟩
      refine ⟨fun z hz => ?_, h2⟩
      rcases List.mem_cons.1 hz with rfl | hz
      · exact h1
      · exact bl_trans h1 ((List.pairwise_cons.1 h2).1 z hz)
    · rintro ⟨h1, h2⟩
      exact ⟨h1 y List.mem_cons_self, h2⟩
def lookL (k : BS) (l : List α) : Option α := l.find? fun x => kf x == k
def insL (x : α) : List α → List α
  | [] => [x]
  | y :: ys => if Op.bytesLess (kf y) (kf x) then y :: insL x ys else if kf y = kf x then x :: ys else x :: y :: ys
def delL (k : BS) (l : List α) : List α := l.filter fun y => !(kf y == k)
variable {kf}
theorem lookL_cons {k : BS} {y : α} {l : List α} : lookL kf k (y :: l) = if kf y = k then some y else lookL kf k l := by
  unfold lookL
  rw [List.find?_cons]
  by_cases h : kf y = k
  · simp [h]
  · rw [if_neg h, show (kf y == k) = false from by simpa using h]
theorem lookL_key {k : BS} {y : α} {l : List α} (h : lookL kf k l = some y) : kf y = k ∧ y ∈ l := ⟨by have := List.find?_some h; simpa using this, List.mem_of_find?_eq_some h⟩
theorem lookL_mem {y : α} : ∀ {l : List α}, Sorted kf l → y ∈ l → lookL kf (kf y) l = some y
  | z :: l, hs, hm => by
    rw [lookL_cons]
    obtain ⟨h1, h2⟩ := List.pairwise_cons.1 hs
    rcases List.mem_cons.1 hm with rfl | hm
    · rw [if_pos rfl]
    · rw [if_neg (bl_ne (h1 y hm)), lookL_mem h2 hm]
theorem ins_mem {x y : α} : ∀ {l : List α}, y ∈ insL kf x l → y = x ∨ y ∈ l
  | [], h => by simpa [insL] using h
  | z :: l, h => by
    unfold insL at h
    split at h
    · rcases List.mem_cons.1 h with rfl | h
      · exact .inr List.mem_cons_self
      · exact (ins_mem h).elim .inl fun h => .inr (List.mem_cons_of_mem _ h)
    · split at h
      · rcases List.mem_cons.1 h with rfl | h
        · exact .inl rfl
        · exact .inr (List.mem_cons_of_mem _ h)
      · exact List.mem_cons.1 h
theorem ins_sorted {x : α} : ∀ {l : List α}, Sorted kf l → Sorted kf (insL kf x l)
  | [], _ => by simp [insL]
  | z :: l, h => by
    obtain ⟨h1, h2⟩ := List.pairwise_cons.1 h
    unfold insL
    split
    · rename_i hz
      refine List.pairwise_cons.2 ⟨fun y hy => ?_, ins_sorted h2⟩
      rcases ins_mem hy with rfl | hy
      · exact hz
      · exact h1 y hy
    · rename_i hz
      split
      · rename_i he
        exact List.pairwise_cons.2 ⟨fun y hy => he ▸ h1 y hy, h2⟩
      · rename_i he
        have hx := bl_not (by simpa using hz) he
        refine List.pairwise_cons.2 ⟨fun y hy => ?_, h⟩
        rcases List.mem_cons.1 hy with rfl | hy
        · exact hx
        · exact bl_trans hx (h1 y hy)
theorem ins_look {x : α} {k : BS} : ∀ {l : List α}, Sorted kf l → lookL kf k (insL kf x l) = if kf x = k then some x else lookL kf k l
  | [], _ => by unfold insL; rw [lookL_cons]
  | z :: l, h => by
    obtain ⟨h1, h2⟩ := List.pairwise_cons.1 h
    unfold insL
    split
    · rename_i hz
      rw [lookL_cons, lookL_cons, ins_look h2]
      by_cases hk : kf z = k
      · subst hk
        rw [if_pos rfl, if_neg (fun e => bl_ne hz e.symm), if_pos rfl]
      · rw [if_neg hk, if_neg hk]
    · split
      · rename_i he
        rw [lookL_cons, lookL_cons, he]
        split <;> rfl
      · rw [lookL_cons]
theorem del_sorted {k : BS} {l : List α} (h : Sorted kf l) : Sorted kf (delL kf k l) := h.filter _
theorem del_look {k j : BS} : ∀ {l : List α}, lookL kf j (delL kf k l) = if k = j then none else lookL kf j l
  | [] => by simp [delL, lookL]
  | z :: l => by
    have ih := del_look (k := k) (j := j) (l := l)
    unfold delL at ih ⊢
    rw [List.filter_cons, lookL_cons]
    by_cases hz : kf z = k
    · subst hz
      rw [if_neg (by simp), ih]
      split
      · rfl
      · rfl
    · rw [if_pos (by simpa using hz), lookL_cons, ih]
      by_cases hj : kf z = j
      · subst hj
        rw [if_pos rfl, if_pos rfl, if_neg (fun e => hz e.symm)]
      · rw [if_neg hj, if_neg hj]
theorem del_mem {k : BS} {l : List α} {y : α} (h : y ∈ delL kf k l) : y ∈ l := (List.mem_filter.1 h).1
end
/-! ### Accounts, states -/
def noneB : BS := List.replicate 32 0
structure W4 : Type where
  a : Nat
  b : Nat
  c : Nat
  d : Nat
deriving DecidableEq
def W4.l (w : W4) : List Nat := [w.a, w.b, w.c, w.d]
def w40 : W4 := ⟨0, 0, 0, 0⟩
def W4.of (l : List Nat) : W4 := ⟨l.getD 0 0, l.getD 1 0, l.getD 2 0, l.getD 3 0⟩
theorem W4.of_l {l : List Nat} (h : l.length = 4) : (W4.of l).l = l := by
  match l, h with
  | [a, b, c, d], _ => rfl
theorem W4.l_inj {x y : W4} (h : x.l = y.l) : x = y := by
  cases x; cases y; simp [W4.l] at h; simp [h]
structure AcE : Type where
  addr : BS
  nonce : Nat
  bal : W4
  code : BS
  slots : List (BS × BS)
deriving DecidableEq
def ac0 : AcE := ⟨[], 0, w40, [], []⟩
def oddS (x : BS × BS) : Bool := decide (x.1.length ≠ 32) || decide (x.2.length ≠ 32)
def spareS (x : BS × BS) : Bool := decide (x.2 = noneB)
def lkE (a : AcE) : Int := if a.addr.length ≠ 20 ∨ a.slots.any oddS = true then 2 else if risesB Prod.fst a.slots = false then 11 else if a.code.length > 512 ∨ a.slots.length > 16 then 5 else if a.slots.any spareS = true then 8 else 0
def stepE (last : Option BS) (a : AcE) : Int := if lkE a ≠ 2 ∧ (∃ b, last = some b ∧ Op.bytesLess b a.addr = false) then 11 else lkE a
instance (last : Option BS) (a : AcE) : Decidable (∃ b, last = some b ∧ Op.bytesLess b a.addr = false) := match last with
  | none => .isFalse (by simp)
  | some b => if h : Op.bytesLess b a.addr = false then .isTrue ⟨b, rfl, h⟩ else .isFalse (by simpa using h)
def goS : Option BS → List AcE → Int
  | _, [] => 0
  | last, a :: l => if stepE last a ≠ 0 then stepE last a else goS (some a.addr) l
def chkS (s : List AcE) : Int := if s.length > 32 then 5 else goS none s
def findS (s : List AcE) (k : BS) : Option AcE := lookL AcE.addr k s
def slotE (a : AcE) (k : BS) : BS := match lookL Prod.fst k a.slots with
  | some x => x.2
  | none => noneB
def withE (l : List (BS × BS)) (k v : BS) : List (BS × BS) := if v = noneB then delL Prod.fst k l else insL Prod.fst (k, v) l
def setE (a : AcE) (k v : BS) : AcE × Int := if lkE a ≠ 0 then (a, lkE a) else if k.length ≠ 32 ∨ v.length ≠ 32 then (a, 2) else if (withE a.slots k v).length > 16 then (a, 5) else ({ a with slots := withE a.slots k v }, 0)
theorem look_ok {a : AcE} (h : lkE a = 0) : a.addr.length = 20 ∧ (∀ x ∈ a.slots, x.1.length = 32 ∧ x.2.length = 32 ∧ x.2 ≠ noneB) ∧ Sorted Prod.fst a.slots ∧ a.code.length ≤ 512 ∧ a.slots.length ≤ 16 := by
  unfold lkE at h
  split at h
  · cases h
  rename_i h1
  split at h
  · cases h
  rename_i h2
  split at h
  · cases h
  rename_i h3
  split at h
  · cases h
  rename_i h4
  simp only [not_or, Decidable.not_not] at h1 h3
  refine ⟨h1.1, fun x hx => ?_, (rises_iff _ _).1 (by simpa using h2), by omega, by omega⟩
  have a1 := h1.2
  simp only [Bool.not_eq_true, List.any_eq_false] at a1 h4
  have := a1 x hx
  have h5 := h4 x hx
  unfold oddS at this
  unfold spareS at h5
  simp at this h5
  exact ⟨this.1, this.2, h5⟩
theorem look_of {a : AcE} (h1 : a.addr.length = 20) (h2 : ∀ x ∈ a.slots, x.1.length = 32 ∧ x.2.length = 32 ∧ x.2 ≠ noneB) (h3 : Sorted Prod.fst a.slots) (h4 : a.code.length ≤ 512) (h5 : a.slots.length ≤ 16) : lkE a = 0 := by
  unfold lkE
  have e1 : ¬ a.slots.any oddS = true := by
    simp only [Bool.not_eq_true, List.any_eq_false]
    intro x hx
    obtain ⟨a1, a2, _⟩ := h2 x hx
    simp [oddS, a1, a2]
  have e2 : ¬ a.slots.any spareS = true := by
    simp only [Bool.not_eq_true, List.any_eq_false]
    intro x hx
    obtain ⟨_, _, a3⟩ := h2 x hx
    simp [spareS, a3]
  have e3 := (rises_iff Prod.fst a.slots).2 h3
  rw [if_neg (fun h => h.elim (fun h => h h1) e1), if_neg (by rw [e3]; simp), if_neg (by omega), if_neg e2]
theorem step_ok {last : Option BS} {a : AcE} : stepE last a = 0 ↔ lkE a = 0 ∧ ∀ b, last = some b → Op.bytesLess b a.addr = true := by
  unfold stepE
  split
  · rename_i h
    obtain ⟨h1, b, h2, h3⟩ := h
    constructor
    · intro h; cases h
    · rintro ⟨_, h⟩; rw [h b h2] at h3; cases h3
  · rename_i h
    constructor
    · intro h0
      refine ⟨h0, fun b hb => ?_⟩
      cases h4 : Op.bytesLess b a.addr
      · exact absurd ⟨by omega, b, hb, h4⟩ h
      · rfl
    · exact fun h => h.1
theorem go_ok : ∀ {last : Option BS} {s : List AcE}, goS last s = 0 ↔ (∀ a ∈ s, lkE a = 0) ∧ Sorted AcE.addr s ∧ (∀ b, last = some b → ∀ a ∈ s, Op.bytesLess b a.addr = true)
  | last, [] => by simp [goS]
  | last, a :: l => by
    rw [goS]
    split
    · rename_i h
      constructor
      · intro h0; exact absurd h0 h
      · rintro ⟨h1, h2, h3⟩
        exact absurd (step_ok.2 ⟨h1 a List.mem_cons_self, fun b hb => h3 b hb a List.mem_cons_self⟩) h
    · rename_i h
      have h := step_ok.1 (Decidable.not_not.1 h)
      rw [go_ok]
      constructor
      · rintro ⟨h1, h2, h3⟩
        refine ⟨fun x hx => ?_, List.pairwise_cons.2 ⟨fun x hx => h3 _ rfl x hx, h2⟩, fun b hb x hx => ?_⟩
        · rcases List.mem_cons.1 hx with rfl | hx
          · exact h.1
          · exact h1 x hx
        · rcases List.mem_cons.1 hx with rfl | hx
          · exact h.2 b hb
          · exact bl_trans (h.2 b hb) (h3 _ rfl x hx)
      · rintro ⟨h1, h2, h3⟩
        obtain ⟨h4, h5⟩ := List.pairwise_cons.1 h2
        exact ⟨fun x hx => h1 x (List.mem_cons_of_mem _ hx), h5, fun b hb x hx => by cases hb; exact h4 x hx⟩
theorem chk_ok {s : List AcE} : chkS s = 0 ↔ s.length ≤ 32 ∧ (∀ a ∈ s, lkE a = 0) ∧ Sorted AcE.addr s := by
  unfold chkS
  split
  · constructor
    · intro h; cases h
    · rintro ⟨h, _⟩; omega
  · rw [go_ok]
    constructor
    · rintro ⟨h1, h2, _⟩; exact ⟨by omega, h1, h2⟩
    · rintro ⟨_, h1, h2⟩; exact ⟨h1, h2, by simp⟩
end Go.SL
/-! ### Calls that turn blocks, read known ones and lay new ones; copies -/
namespace Go.SL
set_option linter.all false
open Go Go.RowKit Go.Shelf
open Go.Proofs (Enters enters_of)
/-- The blocks of T may be turned (or left), those of Rl are read, those of LL hold the result. -/
structure PureT {α : Type} (P : Program) (f : FuncId) (args : Array Value) (V : α → Value) (T : List (Nat × Obj)) (LL : α → List (Nat × Obj)) (Rl : List (Nat × Obj)) : Prop where
  run : ∀ w, Has T w → Has Rl w → (T.Pairwise fun p q => p.1 ≠ q.1) → (∀ p ∈ Rl, ∀ q ∈ T, p.1 ≠ q.1) → Calls P f args w fun e w' => ∃ x, e = .returned (V x) ∧ Keep (T.map (·.1)) w w' ∧ (∀ p ∈ LL x, (p.1 ∈ T.map (·.1) ∨ w.heap.size ≤ p.1) ∧ w'.heap[p.1]? = some p.2) ∧ (LL x).Pairwise fun p q => p.1 ≠ q.1
def cxT (P : Program) (w : World) (T Rl : List (Nat × Obj)) (n : Nat) : Cx := ⟨P, none, w, T.map (·.1), [], Rl, n⟩
theorem St.startT {P : Program} {w : World} {n : Nat} {T Rl : List (Nat × Obj)} (hT : Has T w) (hR : Has Rl w) (hd : T.Pairwise fun p q => p.1 ≠ q.1) (hne : ∀ p ∈ Rl, ∀ q ∈ T, p.1 ≠ q.1) : St (cxT P w T Rl n) T (fun _ _ => True) w :=
  ⟨Keep.refl _ _, fun p hp => ⟨.inl (List.mem_map.2 ⟨p, hp, rfl⟩), by simp [cxT], hT p hp⟩, hd, fun p hp => ⟨fun h => by obtain ⟨q, hq, e⟩ := List.mem_map.1 h; exact hne p hp q hq e.symm, by simp [cxT], hR p hp⟩, by simp [cxT], ⟨[], by simp, fun _ _ => trivial⟩⟩
theorem pureT_of_HC {α : Type} {P : Program} {f : FuncId} {fn : Func} {code : Code} {vs : List Value} {V : α → Value} {T Rl : List (Nat × Obj)} {LL : α → List (Nat × Obj)} (hf : P.funcs[f]? = some fn) (hb : fn.body = some code) (hlen : Nat.ble vs.length fn.ntmps = true)
    (h : ∀ w, HC (cxT P w T Rl fn.ntmps) [] (frame0 0 vs) T (fun _ _ => True) code (bodyPostM (FW none) 0 P fn (fun e w' => ∃ x, e = .returned (V x) ∧ St (cxT P w T Rl fn.ntmps) (LL x) (fun _ _ => True) w'))) : PureT P f vs.toArray V T LL Rl := ⟨fun w hT hR hd hne =>
  (calls_of_HC (cxT P w T Rl fn.ntmps) hf hb rfl rfl rfl hlen (St.startT hT hR hd hne) (h w)).mono fun _ _ ⟨x, he, hs⟩ => ⟨x, he, by have := hs.keep; simpa [cxT] using this, fun p hp => ⟨(hs.own p hp).1, (hs.own p hp).2.2⟩, hs.distinct⟩⟩
section
variable {c : Cx} {l : List (Nat × Value)} {L : List (Nat × Obj)} {X : XP} {Q : Exit → Act → World → Prop} {d : List Deferred}
variable {ops : Array Oper} {rest : List Oper} {i : Nat} {v : Value} {t : TypeId} {ps : String} {af : Array Edge} {gd : Option (Nat × Bool)} {ty t2 : TypeId}
theorem St.turnT {T L0 LL : List (Nat × Obj)} {w w' : World} (hs : St c (T ++ L0) X w) (hk : Keep (T.map (·.1)) w w') (hL : ∀ p ∈ LL, (p.1 ∈ T.map (·.1) ∨ w.heap.size ≤ p.1) ∧ w'.heap[p.1]? = some p.2) (hd : LL.Pairwise fun p q => p.1 ≠ q.1) : St c (LL ++ L0) X w' := by
  have hT : ∀ p ∈ T, p ∈ T ++ L0 := fun p hp => List.mem_append_left _ hp
  have hle := hs.keep.size
  obtain ⟨hd1, hd2, hd3⟩ := List.pairwise_append.1 hs.distinct
  have hin : ∀ k ∈ T.map (·.1), ∃ p ∈ T, p.1 = k := fun k hk => by obtain ⟨p, hp, e⟩ := List.mem_map.1 hk; exact ⟨p, hp, e⟩
  refine ⟨hs.keep.glue hk ?_, fun p hp => ?_, ?_, hs.ext, hs.xlt, ?_⟩
  · intro k hk
    obtain ⟨p, hp, rfl⟩ := hin k hk
    exact (hs.own p (hT p hp)).1.imp (fun h => List.mem_append_left _ h) id
  · rcases List.mem_append.1 hp with hp | hp
    · obtain ⟨h1, h2⟩ := hL p hp
      rcases h1 with h1 | h1
      · obtain ⟨q, hq, e⟩ := hin _ h1
        obtain ⟨g1, g2, _⟩ := hs.own q (hT q hq)
        rw [e] at g1 g2
        exact ⟨g1, g2, h2⟩
      · exact ⟨.inr (by omega), fun hx => (by have := hs.xlt _ hx; omega), h2⟩
    · obtain ⟨g1, g2, g3⟩ := hs.own p (List.mem_append_right _ hp)
      refine ⟨g1, g2, ?_⟩
      rw [hk.block _ (lt_of_some g3) (fun h => by obtain ⟨q, hq, e⟩ := hin _ h; exact hd3 q hq p hp e)]
      exact g3
  · refine List.pairwise_append.2 ⟨hd, hd2, fun p hp q hq => ?_⟩
    rcases (hL p hp).1 with h1 | h1
    · obtain ⟨u, hu, e⟩ := hin _ h1
      rw [← e]; exact hd3 u hu q hq
    · have := lt_of_some (hs.own q (List.mem_append_right _ hq)).2.2
      omega
  · obtain ⟨xs, e1, e2⟩ := hs.x
    refine ⟨xs, fun k hkx => ?_, fun w2 hw2 => e2 w2 fun k hkx => (hw2 k hkx).trans (hk.block k (e1 k hkx).2.1 (fun h => by obtain ⟨q, hq, e⟩ := hin _ h; exact (e1 k hkx).2.2 q (hT q hq) e))⟩
    obtain ⟨a1, a2, a3⟩ := e1 k hkx
    refine ⟨a1, Nat.lt_of_lt_of_le a2 hk.size, fun p hp => ?_⟩
    rcases List.mem_append.1 hp with hp | hp
    · rcases (hL p hp).1 with h1 | h1
      · obtain ⟨u, hu, e⟩ := hin _ h1
        rw [← e]; exact a3 u (hT u hu)
      · omega
    · exact a3 p (List.mem_append_right _ hp)
/-- A call that may turn the blocks of T (they lie in L), reads Rl and hands back LL. -/
theorem HL_callT {α : Type} {T L0 Rl : List (Nat × Obj)} {f : Operand} {args : Array Operand} {at_ : Array TypeId} {g : FuncId} {vs : List Value} {V : α → Value} {LL : α → List (Nat × Obj)}
    (hp : L.Perm (T ++ L0)) (hg : goes l ops ⟨some i, .call ⟨.value f, args, at_⟩, ty, ps, af, gd⟩ = some true) (hi : Nat.ble (i + 1) c.n = true) (hca : callArgs l f args = some (g, vs)) (eg : Enters c.P g)
    (hpt : PureT c.P g vs.toArray V T LL Rl) (hR : ∀ p ∈ Rl, known c L0 p.1 p.2) (h : ∀ x, HL c d ((i, V x) :: l) (LL x ++ L0) X ops rest Q) : HL c d l L X ops (⟨some i, .call ⟨.value f, args, at_⟩, ty, ps, af, gd⟩ :: rest) Q :=
  HL_callE (V := V) (L' := fun x => LL x ++ L0) (X' := fun _ => X) hg hi hca eg (fun w hs => by
    have hs := hs.perm hp
    obtain ⟨hd1, _, hd3⟩ := List.pairwise_append.1 hs.distinct
    refine (hpt.run w (fun p hp => (hs.own p (List.mem_append_left _ hp)).2.2) (fun p hp => ?_) hd1 (fun p hp q hq => ?_)).mono fun _ _ ⟨x, he, hk, h1, h2⟩ => ⟨x, he, hs.turnT hk h1 h2⟩
    · exact (hR p hp).elim (fun h => (hs.own _ (List.mem_append_right _ h)).2.2) hs.readR
    · rcases hR p hp with h | h
      · exact fun e => hd3 q hq _ h e.symm
      · rintro e
        obtain ⟨h1, _, h3⟩ := hs.ext _ h
        have h3 := lt_of_some h3
        rcases (hs.own q (List.mem_append_left _ hq)).1 with h4 | h4
        · exact h1 (e ▸ h4)
        · simp only at h3 e; omega) h
/-- Nothing is turned. -/
theorem HL_callRE {α : Type} {Rl : List (Nat × Obj)} {f : Operand} {args : Array Operand} {at_ : Array TypeId} {g : FuncId} {vs : List Value} {V : α → Value} {LL : α → List (Nat × Obj)}
    (hg : goes l ops ⟨some i, .call ⟨.value f, args, at_⟩, ty, ps, af, gd⟩ = some true) (hi : Nat.ble (i + 1) c.n = true) (hca : callArgs l f args = some (g, vs)) (eg : Enters c.P g)
    (hpt : PureT c.P g vs.toArray V [] LL Rl) (hR : ∀ p ∈ Rl, known c L p.1 p.2) (h : ∀ x, HL c d ((i, V x) :: l) (LL x ++ L) X ops rest Q) : HL c d l L X ops (⟨some i, .call ⟨.value f, args, at_⟩, ty, ps, af, gd⟩ :: rest) Q :=
  HL_callT (T := []) (L0 := L) (List.Perm.refl _) hg hi hca eg hpt hR h
/-- The same result, told otherwise. -/
theorem PureT.map {α β : Type} {P : Program} {f : FuncId} {args : Array Value} {V : α → Value} {V' : β → Value} {T Rl : List (Nat × Obj)} {LL : α → List (Nat × Obj)} {LL' : β → List (Nat × Obj)} (h : PureT P f args V T LL Rl) (g : α → β) (hv : ∀ x, V x = V' (g x)) (hl : ∀ x, (LL' (g x)).Sublist (LL x)) : PureT P f args V' T LL' Rl :=
  ⟨fun w hT hR hd hne => (h.run w hT hR hd hne).mono fun _ _ ⟨x, he, hk, h1, h2⟩ => ⟨g x, he.trans (by rw [hv]), hk, fun p hp => h1 p ((hl x).subset hp), h2.sublist (hl x)⟩⟩
end
end Go.SL
/-! ### The arguments of a law: rows, types, values -/
namespace Go.SL
set_option linter.all false
open Go Go.RowKit Go.Shelf Go.ChangeShapes Go.WideShapes
section
variable {H : Type} {enc : TypeId × Value → H} {P : Program} {w : World} {base : Nat} {sp : Nat → Bool} {held : Bool}
theorem cells_get {a : Addr} {m : Nat} {cs : List Value} (h : w.cells? base a m = some cs) : cs.length = m ∧ ∀ i, i < m → w.cell? (a.add i) = cs[i]? := by
  unfold World.cells? at h
  split at h
  · exact ⟨by simpa using mapM_some_length h, fun i hi => mapM_some_get h i i (by simp [hi])⟩
  · cases h
theorem cell_block {a : Addr} {v : Value} (h : w.cell? a = some v) : a.spot = none ∧ ∃ all e fr, w.heap[a.block]? = some (.cells all e fr) ∧ all[a.off]? = some v := by
  unfold World.cell? at h
  split at h
  · rename_i c e fr hc
    split at h
    · cases h
    · rename_i hs
      exact ⟨by simpa using hs, c, e, fr, hc, h⟩
  · cases h
theorem cells_take {b o m : Nat} {cs : List Value} {all : Array Value} {e : TypeId} {fr : Nat × Nat} (h : w.cells? base ⟨b, o, none⟩ m = some cs) (hb : w.heap[b]? = some (.cells all e fr)) : (all.toList.drop o).take m = cs := by
  obtain ⟨hl, hg⟩ := cells_get h
  apply List.ext_getElem?
  intro i
  rw [List.getElem?_take]
  split
  · rename_i hi
    rw [← hg i hi, add_none, List.getElem?_drop, Array.getElem?_toList]
    simp only [World.cell?, hb]
    rfl
  · rename_i hi
    rw [List.getElem?_eq_none (by omega)]
theorem cat_take {α : Type} {f : α → List Value} {m b : Nat} {all : Array Value} {e : TypeId} {fr : Nat × Nat} (hb : w.heap[b]? = some (.cells all e fr)) :
    ∀ (l : List α) (o : Nat), (∀ i x, l[i]? = some x → w.cells? base ⟨b, o + i * m, none⟩ m = some (f x)) → (all.toList.drop o).take (l.length * m) = l.flatMap f
  | [], o, _ => by simp
  | y :: l, o, h => by
    have h0 := cells_take (h 0 y rfl) hb
    have hr := cat_take hb l (o + m) (fun i x hx => by
      have := h (i + 1) x hx
      rwa [Nat.succ_mul, Nat.add_comm (i * m) m, ← Nat.add_assoc] at this)
    rw [Nat.zero_mul, Nat.add_zero] at h0
    rw [List.length_cons, Nat.succ_mul, Nat.add_comm, List.take_add, h0, List.drop_drop, hr, List.flatMap_cons]
theorem seg_of_cells {α : Type} {f : α → List Value} {m : Nat} (hm : 0 < m) (hf : ∀ x, (f x).length = m) {l : List α} {a : Addr} {cap : Nat} (hle : l.length ≤ cap) (h : ∀ i x, l[i]? = some x → w.cells? base (a.add (i * m)) m = some (f x)) :
    Seg (allB w) l.length (l.flatMap f) (some (a, cap)) := by
  refine ⟨hle, fun h0 => ?_⟩
  obtain ⟨y, hy⟩ : ∃ y, l[0]? = some y := ⟨_, List.getElem?_eq_getElem h0⟩
  have h1 := h 0 y hy
  rw [Nat.zero_mul] at h1
  have e0 : a.add 0 = a := by simp [Addr.add]
  rw [e0] at h1
  obtain ⟨hl, hg⟩ := cells_get h1
  have h2 := hg 0 hm
  rw [e0] at h2
  obtain ⟨v, hv⟩ : ∃ v, (f y)[0]? = some v := ⟨_, List.getElem?_eq_getElem (by omega)⟩
  rw [hv] at h2
  obtain ⟨hs, all, e, fr, hb, _⟩ := cell_block h2
  refine ⟨hs, all, e, fr, mem_allB hb, ?_⟩
  rw [cat_len hf]
  refine cat_take (base := base) hb l a.off fun i x hx => ?_
  have := h i x hx
  have e1 : a.add (i * m) = ⟨a.block, a.off + i * m, none⟩ := by
    obtain ⟨b, o, s⟩ := a
    have : s = none := hs
    subst this
    exact add_none _ _ _
  rwa [e1] at this
theorem choose_list {α : Type} {Q : Nat → α → Prop} : ∀ (n : Nat), (∀ i, i < n → ∃ x, Q i x) → ∃ l : List α, l.length = n ∧ ∀ i x, l[i]? = some x → Q i x
  | 0, _ => ⟨[], rfl, fun i x h => by simp at h⟩
  | n + 1, h => by
    obtain ⟨l, hl, hq⟩ := choose_list n (fun i hi => h i (by omega))
    obtain ⟨x, hx⟩ := h n (by omega)
    refine ⟨l ++ [x], by simp [hl], fun i y hy => ?_⟩
    rw [List.getElem?_append] at hy
    split at hy
    · exact hq i y hy
    · rename_i hi
      have hn : i = n := by
        have := (List.getElem?_eq_some_iff.1 hy).1
        simp at this; omega
      subst hn
      rw [hl, Nat.sub_self] at hy
      obtain rfl : x = y := by simpa using hy
      exact hx
/-- A slice is opened. -/
theorem open_row_of {α : Type} {f : α → List Value} {ok : α → Prop} {m t e fuel : Nat} {cs : List Value} {x : DataW H × List MemPlace} (hm : 0 < m) (hf : ∀ x, (f x).length = m) (ht : P.underlying t = some (.slice e)) (hc : P.cellsOf e = m)
    (hE : ∀ n, n < fuel → ∀ cs x, DataW.trod enc P w base sp held n e cs = some x → ∃ y, cs = f y ∧ ok y)
    (h : DataW.trod enc P w base sp held fuel t cs = some x) : ∃ (l : List α) (p : Pl), cs = [plV l.length p] ∧ Seg (allB w) l.length (l.flatMap f) p ∧ l.length ≤ 9223372036854775807 ∧ ∀ y ∈ l, ok y := by
  rcases DataW.trod_slice ht h with ⟨rfl, _⟩ | ⟨a, len, cap, elems, rest, n, hn, rfl, _, _, hlc, hcm, hlen, hel, _⟩
  · exact ⟨[], none, rfl, rfl, by simp, fun y hy => by simp at hy⟩
  · have hex : ∀ i, i < len → ∃ y, w.cells? base (a.add (i * m)) m = some (f y) ∧ ok y := by
      intro i hi
      have h1 := hel i hi
      rw [hc] at h1
      obtain ⟨z, hz⟩ : ∃ z, elems[i]? = some z := ⟨_, List.getElem?_eq_getElem (by omega)⟩
      rw [hz, Option.bind_eq_some_iff] at h1
      obtain ⟨cs1, h2, h3⟩ := h1
      obtain ⟨y, rfl, hy⟩ := hE n (by omega) _ _ h3
      exact ⟨y, h2, hy⟩
    obtain ⟨l, rfl, hq⟩ := choose_list len hex
    have hcap : cap ≤ 9223372036854775807 := by simpa [maxLen] using hcm
    refine ⟨l, some (a, cap), rfl, seg_of_cells hm hf hlc (fun i y hy => (hq i y hy).1), by omega, fun y hy => ?_⟩
    obtain ⟨i, hi, rfl⟩ := List.mem_iff_getElem.1 hy
    exact (hq i _ (List.getElem?_eq_getElem hi)).2
/-- A struct is opened, field by field. -/
theorem trod_field {t tf off m fuel i : Nat} {fs : Array Field} {cs : List Value} {x : DataW H × List MemPlace} (ht : P.underlying t = some (.struct fs)) (hi : (fs[i]?).map (fun f => (f.type, f.offset)) = some (tf, off)) (hm : P.cellsOf tf = m)
    (h : DataW.trod enc P w base sp held fuel t cs = some x) : ∃ n y, n < fuel ∧ DataW.trod enc P w base sp held n tf ((cs.drop off).take m) = some y := by
  obtain ⟨xs, n, rfl, _, _, hl, hg⟩ := DataW.trod_struct ht h
  obtain ⟨f, hf, he⟩ := Option.map_eq_some_iff.1 hi
  obtain ⟨rfl, rfl⟩ := Prod.mk.inj he
  have hi2 : i < xs.length := by rw [hl]; exact (Array.getElem?_eq_some_iff.1 hf).1
  subst hm
  exact ⟨n, xs[i], by omega, by rw [hg i f hf]; exact List.getElem?_eq_getElem hi2⟩
theorem trod_size {t m fuel : Nat} {fs : Array Field} {cs : List Value} {x : DataW H × List MemPlace} (ht : P.underlying t = some (.struct fs)) (hm : P.cellsOf t = m) (h : DataW.trod enc P w base sp held fuel t cs = some x) : cs.length = m := by
  obtain ⟨xs, n, rfl, _, hl, _, _⟩ := DataW.trod_struct ht h
  rw [hl, hm]
theorem trod_i64 {t fuel : Nat} {cs : List Value} {x : DataW H × List MemPlace} (ht : P.underlying t = some (.int .i64)) (h : DataW.trod enc P w base sp held fuel t cs = some x) : ∃ n, cs = [.int .i64 n] ∧ I64 n := by
  obtain ⟨n, rfl, _, hw⟩ := DataW.trod_int ht h
  exact ⟨n, rfl, bounds_i64 hw⟩
/-- An array of four words is opened. -/
theorem trod_w4 {t e fuel : Nat} {cs : List Value} {x : DataW H × List MemPlace} (ht : P.underlying t = some (.array 4 e)) (hc : P.cellsOf t = 4) (he : P.cellsOf e = 1) (hu : P.underlying e = some (.int .u64)) (h : DataW.trod enc P w base sp held fuel t cs = some x) :
    ∃ a b c d : Nat, cs = [uV a, uV b, uV c, uV d] ∧ U64 a ∧ U64 b ∧ U64 c ∧ U64 d := by
  cases fuel with
  | zero => simp [DataW.trod] at h
  | succ fuel =>
    obtain ⟨hl, xs, h1, _⟩ := (trod_arr ht hc he).1 h
    obtain ⟨zs, rfl, _, hz⟩ := mapM_open (V := uV) (D := fun n : Nat => .lit (.int .u64 (n : Int))) (ok := U64) (fun c x hx => by
      obtain ⟨n, h2, h3, h4⟩ := DataW.trod_int hu hx
      have h5 := bounds_u64 h4
      refine ⟨n.toNat, ?_, ?_, by unfold U64; omega⟩
      · rw [List.singleton_inj.1 h2]; unfold uV; congr 1; omega
      · rw [h3]; congr 3; omega) _ _ h1
    rw [List.length_map] at hl
    match zs, hl, hz with
    | [a, b, c, d], _, hz => exact ⟨a, b, c, d, rfl, hz a (by simp), hz b (by simp), hz c (by simp), hz d (by simp)⟩
theorem okWide_vals {t : Nat} {fs : Array Field} {r : Reach} {b0 : Nat} {v : Value} (ht : P.underlying t = some (.struct fs)) (h : Value.okWide P w r b0 t v) {cs : List Value} (hc : v.cells.toList = cs) : v = .agg cs.toArray := by
  obtain ⟨c1, rfl, _⟩ := okWide_struct ht h
  subst hc
  simp [Value.cells]
/-- A type. -/
theorem open_ty {tT tS tI fuel : Nat} {fs : Array Field} (ht : P.underlying tT = some (.struct fs)) (hT : P.cellsOf tT = 3) (h0 : (fs[0]?).map (fun f => (f.type, f.offset)) = some (tI, 0)) (h1 : (fs[1]?).map (fun f => (f.type, f.offset)) = some (tI, 1)) (h2 : (fs[2]?).map (fun f => (f.type, f.offset)) = some (tS, 2))
    (hI : P.underlying tI = some (.int .i64)) (hIc : P.cellsOf tI = 1) (hS : P.underlying tS = some (.slice tT)) (hSc : P.cellsOf tS = 1) :
    ∀ {cs : List Value} {x : DataW H × List MemPlace}, DataW.trod enc P w base sp held fuel tT cs = some x → ∃ T : Ty, cs = T.cells ∧ Ty.In (allB w) T := by
  induction fuel using Nat.strongRecOn with
  | _ fuel ih =>
    intro cs x h
    have hl := trod_size ht hT h
    match cs, hl with
    | [a, b, c], _ =>
      obtain ⟨n0, y0, _, e0⟩ := trod_field ht h0 hIc h
      obtain ⟨n1, y1, _, e1⟩ := trod_field ht h1 hIc h
      obtain ⟨n2, y2, l2, e2⟩ := trod_field ht h2 hSc h
      obtain ⟨k, ek, hk⟩ := trod_i64 hI e0
      obtain ⟨n, en, hn⟩ := trod_i64 hI e1
      obtain ⟨l, p, ep, hs, hlen, hok⟩ := open_row_of (f := Ty.cells) (ok := Ty.In (allB w)) (by decide) Ty.len hS hT (fun m hm cs x hx => ih m (by omega) hx) e2
      obtain rfl : a = .int .i64 k := by simpa using ek
      obtain rfl : b = .int .i64 n := by simpa using en
      obtain rfl : c = plV l.length p := by simpa using ep
      exact ⟨.mk k n p l, rfl, .mk hk hn hlen hs hok⟩
theorem bits_flat : ∀ lb : List Bool, lb.flatMap (fun x : Bool => [Value.bool x]) = bitsC lb
  | [] => rfl
  | b :: l => by rw [List.flatMap_cons, bits_flat l]; rfl
/-- A value. -/
theorem open_vl {tT tS tI tW tB tb tu fuel : Nat} {fs : Array Field} (ht : P.underlying tT = some (.struct fs)) (hT : P.cellsOf tT = 7) (h0 : (fs[0]?).map (fun f => (f.type, f.offset)) = some (tW, 0)) (h1 : (fs[1]?).map (fun f => (f.type, f.offset)) = some (tB, 4)) (h2 : (fs[2]?).map (fun f => (f.type, f.offset)) = some (tS, 5)) (h3 : (fs[3]?).map (fun f => (f.type, f.offset)) = some (tI, 6))
    (hI : P.underlying tI = some (.int .i64)) (hIc : P.cellsOf tI = 1) (hS : P.underlying tS = some (.slice tT)) (hSc : P.cellsOf tS = 1) (hB : P.underlying tB = some (.slice tb)) (hBc : P.cellsOf tB = 1) (hb : P.underlying tb = some .bool) (hbc : P.cellsOf tb = 1)
    (hW : P.underlying tW = some (.array 4 tu)) (hWc : P.cellsOf tW = 4) (hu : P.underlying tu = some (.int .u64)) (huc : P.cellsOf tu = 1) :
    ∀ {cs : List Value} {x : DataW H × List MemPlace}, DataW.trod enc P w base sp held fuel tT cs = some x → ∃ T : Vl, cs = T.cells ∧ Vl.In (allB w) T := by
  induction fuel using Nat.strongRecOn with
  | _ fuel ih =>
    intro cs x h
    have hl := trod_size ht hT h
    match cs, hl with
    | [a0, a1, a2, a3, b, c, d], _ =>
      obtain ⟨n0, y0, _, e0⟩ := trod_field ht h0 hWc h
      obtain ⟨n1, y1, _, e1⟩ := trod_field ht h1 hBc h
      obtain ⟨n2, y2, l2, e2⟩ := trod_field ht h2 hSc h
      obtain ⟨n3, y3, _, e3⟩ := trod_field ht h3 hIc h
      obtain ⟨w0, w1, w2, w3, ew, k0, k1, k2, k3⟩ := trod_w4 hW hWc huc hu e0
      obtain ⟨lb, pb, eb, hsb, hlb, _⟩ := open_row_of (f := fun x : Bool => [Value.bool x]) (ok := fun _ => True) (by decide) (fun _ => rfl) hB hbc (fun m hm cs x hx => by
        obtain ⟨z, rfl, _⟩ := DataW.trod_bool hb hx
        exact ⟨z, rfl, trivial⟩) e1
      obtain ⟨l, p, ep, hs, hlen, hok⟩ := open_row_of (f := Vl.cells) (ok := Vl.In (allB w)) (by decide) Vl.len hS hT (fun m hm cs x hx => ih m (by omega) hx) e2
      obtain ⟨n, en, hn⟩ := trod_i64 hI e3
      obtain ⟨rfl, rfl, rfl, rfl⟩ : a0 = uV w0 ∧ a1 = uV w1 ∧ a2 = uV w2 ∧ a3 = uV w3 := by simpa using ew
      obtain rfl : b = plV lb.length pb := by simpa using eb
      obtain rfl : c = plV l.length p := by simpa using ep
      obtain rfl : d = .int .i64 n := by simpa using en
      refine ⟨.mk w0 w1 w2 w3 lb pb l p n, rfl, .mk k0 k1 k2 k3 hlb ?_ hlen hs hn hok⟩
      have e : lb.flatMap (fun x : Bool => [Value.bool x]) = bitsC lb := bits_flat lb
      rwa [e] at hsb
theorem open_tyA {r : Reach} {b0 tT tS tI : Nat} {fs : Array Field} {v : Value} {d : DataW H} {ps : List MemPlace} (ht : P.underlying tT = some (.struct fs)) (hT : P.cellsOf tT = 3) (h0 : (fs[0]?).map (fun f => (f.type, f.offset)) = some (tI, 0)) (h1 : (fs[1]?).map (fun f => (f.type, f.offset)) = some (tI, 1)) (h2 : (fs[2]?).map (fun f => (f.type, f.offset)) = some (tS, 2))
    (hI : P.underlying tI = some (.int .i64)) (hIc : P.cellsOf tI = 1) (hS : P.underlying tS = some (.slice tT)) (hSc : P.cellsOf tS = 1) (hval : Value.okWide P w r b0 tT v) (hd : DataW.Trod enc P w base sp held tT v d ps) : ∃ T : Ty, v = T.val ∧ Ty.In (allB w) T := by
  obtain ⟨fuel, hf⟩ := hd
  obtain ⟨T, e, hin⟩ := open_ty ht hT h0 h1 h2 hI hIc hS hSc hf
  exact ⟨T, okWide_vals ht hval e, hin⟩
theorem open_vlA {r : Reach} {b0 tT tS tI tW tB tb tu : Nat} {fs : Array Field} {v : Value} {d : DataW H} {ps : List MemPlace} (ht : P.underlying tT = some (.struct fs)) (hT : P.cellsOf tT = 7) (h0 : (fs[0]?).map (fun f => (f.type, f.offset)) = some (tW, 0)) (h1 : (fs[1]?).map (fun f => (f.type, f.offset)) = some (tB, 4)) (h2 : (fs[2]?).map (fun f => (f.type, f.offset)) = some (tS, 5)) (h3 : (fs[3]?).map (fun f => (f.type, f.offset)) = some (tI, 6))
    (hI : P.underlying tI = some (.int .i64)) (hIc : P.cellsOf tI = 1) (hS : P.underlying tS = some (.slice tT)) (hSc : P.cellsOf tS = 1) (hB : P.underlying tB = some (.slice tb)) (hBc : P.cellsOf tB = 1) (hb : P.underlying tb = some .bool) (hbc : P.cellsOf tb = 1)
    (hW : P.underlying tW = some (.array 4 tu)) (hWc : P.cellsOf tW = 4) (hu : P.underlying tu = some (.int .u64)) (huc : P.cellsOf tu = 1) (hval : Value.okWide P w r b0 tT v) (hd : DataW.Trod enc P w base sp held tT v d ps) : ∃ T : Vl, v = T.val ∧ Vl.In (allB w) T := by
  obtain ⟨fuel, hf⟩ := hd
  obtain ⟨T, e, hin⟩ := open_vl ht hT h0 h1 h2 h3 hI hIc hS hSc hB hBc hb hbc hW hWc hu huc hf
  exact ⟨T, okWide_vals ht hval e, hin⟩
end
end Go.SL
/-! ### Records, accounts and states in the heap -/
namespace Go.SL
set_option linter.all false
open Go Go.RowKit Go.Shelf Go.ChangeShapes Go.WideShapes
open Go.Proofs (Enters enters_of)
abbrev strV (s : BS) : Value := .string (bs s)
structure W4.ok (w : W4) : Prop where
  a : U64 w.a
  b : U64 w.b
  c : U64 w.c
  d : U64 w.d
theorem W4.ok.wok {w : W4} (h : w.ok) : WOk w.l := ⟨rfl, fun x hx => by
  unfold W4.l at hx
  simp only [List.mem_cons, List.not_mem_nil, or_false] at hx
  rcases hx with rfl | rfl | rfl | rfl
  · exact h.a
  · exact h.b
  · exact h.c
  · exact h.d⟩
theorem u64_0 : U64 0 := by unfold U64; decide
/-! Records -/
structure Rec : Type where
  number : Nat
  time : Nat
  base : W4
  blob : W4
  overhead : W4
  scalar : Nat
  extra : Nat
  operator : Nat
deriving DecidableEq
def rec0 : Rec := ⟨0, 0, w40, w40, w40, 0, 0, 0⟩
def Rec.nats (r : Rec) : List Nat := [r.number, r.time, r.base.a, r.base.b, r.base.c, r.base.d, r.blob.a, r.blob.b, r.blob.c, r.blob.d, r.overhead.a, r.overhead.b, r.overhead.c, r.overhead.d, r.scalar, r.extra, r.operator]
def Rec.cells (r : Rec) : List Value := r.nats.map uV
def Rec.val (r : Rec) : Value := .agg r.cells.toArray
theorem Rec.len (r : Rec) : r.cells.length = 17 := rfl
theorem Rec.one (r : Rec) : r.cells.all oneB = true := rfl
structure Rec.ok (r : Rec) : Prop where
  number : U64 r.number
  time : U64 r.time
  base : r.base.ok
  blob : r.blob.ok
  overhead : r.overhead.ok
  scalar : U64 r.scalar
  extra : U64 r.extra
  operator : U64 r.operator
/-! Slots, accounts, states -/
def slC (x : BS × BS) : List Value := [strV x.1, strV x.2]
def slsC (l : List (BS × BS)) : List Value := l.flatMap slC
abbrev maxS : Nat := 9223372036854775807
structure AcL : Type where
  addr : BS
  nonce : Nat
  bal : W4
  code : BS
  slots : List (BS × BS)
  p : Pl
def AcL.cells (a : AcL) : List Value := [strV a.addr, uV a.nonce, uV a.bal.a, uV a.bal.b, uV a.bal.c, uV a.bal.d, strV a.code, plV a.slots.length a.p]
def AcL.val (a : AcL) : Value := .agg a.cells.toArray
def AcL.er (a : AcL) : AcE := ⟨a.addr, a.nonce, a.bal, a.code, a.slots⟩
theorem AcL.len (a : AcL) : a.cells.length = 8 := rfl
theorem AcL.one (a : AcL) : a.cells.all oneB = true := rfl
structure AcL.In (R : List (Nat × Obj)) (a : AcL) : Prop where
  addr : a.addr.length ≤ maxS
  nonce : U64 a.nonce
  bal : a.bal.ok
  code : a.code.length ≤ maxS
  len : a.slots.length ≤ maxS
  seg : Seg R a.slots.length (slsC a.slots) a.p
  slots : ∀ x ∈ a.slots, x.1.length ≤ maxS ∧ x.2.length ≤ maxS
theorem AcL.In.mono {R R' : List (Nat × Obj)} {a : AcL} (h : a.In R) (hs : ∀ q ∈ R, q ∈ R') : a.In R' := ⟨h.addr, h.nonce, h.bal, h.code, h.len, h.seg.mono hs, h.slots⟩
def acsC (l : List AcL) : List Value := l.flatMap AcL.cells
structure StL : Type where
  accts : List AcL
  p : Pl
def StL.cells (s : StL) : List Value := [plV s.accts.length s.p]
def StL.val (s : StL) : Value := .agg s.cells.toArray
def StL.er (s : StL) : List AcE := s.accts.map AcL.er
structure StL.In (R : List (Nat × Obj)) (s : StL) : Prop where
  len : s.accts.length ≤ maxS
  seg : Seg R s.accts.length (acsC s.accts) s.p
  accts : ∀ a ∈ s.accts, a.In R
theorem StL.In.mono {R R' : List (Nat × Obj)} {s : StL} (h : s.In R) (hs : ∀ q ∈ R, q ∈ R') : s.In R' := ⟨h.len, h.seg.mono hs, fun a ha => (h.accts a ha).mono hs⟩
section
variable {c : Cx} {l : List (Nat × Value)} {L : List (Nat × Obj)} {X : XP} {d : List Deferred} {i : Nat} {t : TypeId} {ps : String} {af : Array Edge} {gd : Option (Nat × Bool)} {ty : TypeId}
end
/-! ### The arguments of a law -/
section
variable {H : Type} {enc : TypeId × Value → H} {P : Program} {w : World} {base : Nat} {sp : Nat → Bool} {held : Bool}
end
end Go.SL
/-! ### Layouts in plain Lean -/
namespace Go.SL
set_option linter.all false
open Go Go.RowKit Go.Shelf
theorem be_unf {l : List Nat} (hl : WOk l) : unfW (beD l 32) = l := by
  have : unfW (beD l 32) = stW (dg l) 32 := stW_congr fun i hi => by
    have h := beD_get l (n := 32) (m := 31 - i) (by omega)
    have e : 32 - 1 - (31 - i) = i := by omega
    rw [e] at h
    rw [List.getD_eq_getElem?_getD, h, Option.getD_some, UInt8.toNat_ofNat', Nat.mod_eq_of_lt (dg_lt l i)]
  rw [this, st_dg hl]
def bW (w : W4) : BS := beD w.l 32
def uW (s : BS) : W4 := W4.of (unfR s).1
theorem unfR_wok (s : BS) : WOk (unfR s).1 := by
  unfold unfR; split
  · exact unfW_ok _
  · exact zW_ok
theorem uW_l (s : BS) : (uW s).l = (unfR s).1 := W4.of_l (unfR_wok s).1
theorem uW_b {w : W4} (h : w.ok) : uW (bW w) = w := by
  apply W4.l_inj
  rw [uW_l]
  unfold unfR bW
  rw [if_pos (beD_len _ _)]
  exact be_unf h.wok
def wN1 (n : Nat) : W4 := ⟨n, 0, 0, 0⟩
def keyE (n : Nat) : BS := bW (wN1 n)
/-! the table -/
def keyN : Nat → Nat
  | 0 => 0
  | 1 => 1
  | 2 => 5
  | 3 => 6
  | 4 => 3
  | 5 => 7
  | _ => 8
def hasE (f : Int) : Nat → Bool
  | 0 => true
  | 1 => true
  | 2 => decide (f ≤ 2)
  | 3 => decide (f ≤ 2)
  | 4 => decide (f ≥ 3)
  | 5 => decide (f ≥ 3)
  | _ => decide (f = 5)
def holdsE (r : Rec) : Nat → W4
  | 0 => ⟨r.number, r.time, 0, 0⟩
  | 1 => r.base
  | 2 => r.overhead
  | 3 => ⟨r.scalar, 0, 0, 0⟩
  | 4 => ⟨r.scalar, r.extra, 0, 0⟩
  | 5 => r.blob
  | _ => ⟨r.operator, 0, 0, 0⟩
def takeE (r : Rec) (w : W4) : Nat → Rec
  | 0 => { r with number := w.a, time := w.b }
  | 1 => { r with base := w }
  | 2 => { r with overhead := w }
  | 3 => { r with scalar := w.a }
  | 4 => { r with scalar := w.a, extra := w.b }
  | 5 => { r with blob := w }
  | _ => { r with operator := w.a }
theorem holds_ok {r : Rec} (h : r.ok) (i : Nat) : (holdsE r i).ok := by
  unfold holdsE
  split
  · exact ⟨h.number, h.time, u64_0, u64_0⟩
  · exact h.base
  · exact h.overhead
  · exact ⟨h.scalar, u64_0, u64_0, u64_0⟩
  · exact ⟨h.scalar, h.extra, u64_0, u64_0⟩
  · exact h.blob
  · exact ⟨h.operator, u64_0, u64_0, u64_0⟩
def foldE (f : Int) (g : Nat → W4) : List Nat → Rec → Rec
  | [], out => out
  | i :: l, out => foldE f g l (if hasE f i then takeE out (g i) i else out)
def tab : List Nat := [0, 1, 2, 3, 4, 5, 6]
def keptE (f : Int) (r : Rec) : Rec := foldE f (holdsE r) tab rec0
def readE (f : Int) (a : AcE) : Rec := foldE f (fun i => uW (slotE a (keyE (keyN i)))) tab rec0
def Forked (f : Int) : Prop := 0 ≤ f ∧ f ≤ 5
instance (f : Int) : Decidable (Forked f) := inferInstanceAs (Decidable (_ ∧ _))
theorem forked_cases {f : Int} (h : Forked f) : f = 0 ∨ f = 1 ∨ f = 2 ∨ f = 3 ∨ f = 4 ∨ f = 5 := by unfold Forked at h; omega
def fitsB (f : Int) (r : Rec) : Bool := !((decide (f ≥ 3) && decide (r.overhead ≠ w40)) || (decide (f < 3) && (decide (r.extra ≠ 0) || decide (r.blob ≠ w40))) || (decide (f < 5) && decide (r.operator ≠ 0)))
theorem kept_iff {f : Int} {r : Rec} (h : Forked f) : keptE f r = r ↔ fitsB f r = true := by
  obtain ⟨n, t, b, l, o, s, e, p⟩ := r
  rcases forked_cases h with rfl | rfl | rfl | rfl | rfl | rfl <;>
    (simp [keptE, foldE, tab, hasE, takeE, holdsE, fitsB, rec0]; try (constructor <;> (intro h; simp_all <;> omega)))
/-! codes, addresses -/
def addrE (which : Int) : BS := if which < 0 ∨ which > 1 then [] else 66 :: (List.replicate 18 0 ++ [UInt8.ofNat (1 + which).toNat])
def cOne : BS := [111, 110, 101]
def cTwo : BS := [116, 119, 111]
def cThree : BS := [116, 104, 114, 101, 101]
def cFive : BS := [102, 105, 118, 101]
def cFee : BS := [102, 101, 101]
def codeE (f which : Int) : BS × Bool := if which = 1 then (if f ≥ 2 then (cFee, true) else ([], false)) else if f = 0 then (cOne, true) else if f ≤ 2 then (cTwo, true) else if f ≤ 4 then (cThree, true) else (cFive, true)
def A0 : BS := addrE 0
def A1 : BS := addrE 1
/-! ### Setting -/
theorem with_sorted {l : List (BS × BS)} {k v : BS} (h : Sorted Prod.fst l) : Sorted Prod.fst (withE l k v) := by
  unfold withE; split
  · exact del_sorted h
  · exact ins_sorted h
theorem with_look {l : List (BS × BS)} {k v j : BS} (h : Sorted Prod.fst l) : lookL Prod.fst j (withE l k v) = if k = j then (if v = noneB then none else some (k, v)) else lookL Prod.fst j l := by
  unfold withE
  by_cases hv : v = noneB
  · rw [if_pos hv, if_pos hv, del_look]
  · rw [if_neg hv, if_neg hv, ins_look h]
theorem with_mem {l : List (BS × BS)} {k v : BS} {x : BS × BS} (h : x ∈ withE l k v) : (x = (k, v) ∧ v ≠ noneB) ∨ x ∈ l := by
  unfold withE at h
  split at h
  · exact .inr (del_mem h)
  · rename_i hv; exact (ins_mem h).imp (fun h => ⟨h, hv⟩) id
theorem set_of {a : AcE} {k v : BS} (h1 : lkE a = 0) (h2 : k.length = 32) (h3 : v.length = 32) (h4 : (withE a.slots k v).length ≤ 16) : setE a k v = ({ a with slots := withE a.slots k v }, 0) := by
  unfold setE
  rw [if_neg (by omega), if_neg (by omega), if_neg (by omega)]
theorem with_lk {a : AcE} {k v : BS} (h1 : lkE a = 0) (h2 : k.length = 32) (h3 : v.length = 32) (h4 : (withE a.slots k v).length ≤ 16) : lkE { a with slots := withE a.slots k v } = 0 := by
  obtain ⟨g1, g2, g3, g4, g5⟩ := look_ok h1
  refine look_of g1 (fun x hx => ?_) (with_sorted g3) g4 h4
  rcases with_mem hx with ⟨rfl, hv⟩ | hx
  · exact ⟨h2, h3, hv⟩
  · exact g2 x hx
theorem slot_with {a : AcE} {k v j : BS} (h : Sorted Prod.fst a.slots) : slotE { a with slots := withE a.slots k v } j = if k = j then v else slotE a j := by
  unfold slotE
  simp only
  rw [with_look h]
  by_cases hk : k = j
  · rw [if_pos hk, if_pos hk]
    by_cases hv : v = noneB
    · rw [if_pos hv]; exact hv.symm
    · rw [if_neg hv]
  · rw [if_neg hk, if_neg hk]
def setRows : AcE → List (BS × BS) → AcE × Int
  | a, [] => (a, 0)
  | a, x :: l => if (setE a x.1 x.2).2 ≠ 0 then setE a x.1 x.2 else setRows (setE a x.1 x.2).1 l
structure RowsOk (a b : AcE) (l : List (BS × BS)) : Prop where
  lk : lkE b = 0
  addr : b.addr = a.addr
  nonce : b.nonce = a.nonce
  bal : b.bal = a.bal
  code : b.code = a.code
  at_ : ∀ x ∈ l, slotE b x.1 = x.2
  off : ∀ k, (∀ x ∈ l, x.1 ≠ k) → slotE b k = slotE a k
theorem slot_mem {a : AcE} (h : lkE a = 0) {x : BS × BS} (hx : x ∈ a.slots) : slotE a x.1 = x.2 ∧ x.2 ≠ noneB := by
  obtain ⟨_, g2, g3, _⟩ := look_ok h
  unfold slotE
  rw [lookL_mem g3 hx]
  exact ⟨rfl, (g2 x hx).2.2⟩
theorem mem_slot {a : AcE} {k : BS} (h : slotE a k ≠ noneB) : (k, slotE a k) ∈ a.slots := by
  unfold slotE at h ⊢
  cases hl : lookL Prod.fst k a.slots with
  | none => rw [hl] at h; exact absurd rfl h
  | some x =>
    obtain ⟨h1, h2⟩ := lookL_key hl
    simp only
    rw [← h1]; exact h2
theorem sub_len {α : Type} {kf : α → BS} : ∀ {m l : List α}, Sorted kf m → Sorted kf l → (∀ y ∈ l, y ∈ m) → l.length ≤ m.length
  | [], [], _, _, _ => Nat.le_refl _
  | [], y :: l, _, _, h => absurd (h y List.mem_cons_self) (by simp)
  | z :: m, [], _, _, _ => Nat.zero_le _
  | z :: m, y :: l, hm, hl, h => by
    obtain ⟨m1, m2⟩ := List.pairwise_cons.1 hm
    obtain ⟨l1, l2⟩ := List.pairwise_cons.1 hl
    rcases List.mem_cons.1 (h y List.mem_cons_self) with e | hy
    · rw [e] at l1
      have := sub_len (m := m) (l := l) m2 l2 fun x hx => by
        rcases List.mem_cons.1 (h x (List.mem_cons_of_mem _ hx)) with rfl | hx2
        · have := l1 _ hx; rw [bl_irr] at this; cases this
        · exact hx2
      simp only [List.length_cons]; omega
    · have := sub_len (m := m) (l := y :: l) m2 hl fun x hx => by
        rcases List.mem_cons.1 (h x hx) with rfl | hx2
        · have a1 := m1 y hy
          rcases List.mem_cons.1 hx with rfl | hx3
          · rw [bl_irr] at a1; cases a1
          · have := bl_trans a1 (l1 _ hx3); rw [bl_irr] at this; cases this
        · exact hx2
      simp only [List.length_cons] at this ⊢; omega
/-- What stands, or will stand, may be set. -/
theorem fill {a : AcE} (ha : lkE a = 0) : ∀ (l : List (BS × BS)) (x : AcE), lkE x = 0 → (∀ k, slotE x k = slotE a k ∨ slotE x k = noneB) → (∀ p ∈ l, p.1.length = 32 ∧ p.2.length = 32 ∧ (p.2 = slotE a p.1 ∨ p.2 = noneB)) → (setRows x l).2 = 0
  | [], _, _, _, _ => rfl
  | p :: l, x, hx, hs, hp => by
    obtain ⟨p1, p2, p3⟩ := hp p List.mem_cons_self
    have hsx := (look_ok hx).2.2.1
    have hlen : (withE x.slots p.1 p.2).length ≤ 16 := by
      refine Nat.le_trans (sub_len (kf := Prod.fst) (look_ok ha).2.2.1 (with_sorted hsx) fun y hy => ?_) (look_ok ha).2.2.2.2
      have hne : y.2 ≠ noneB ∧ y.2 = slotE a y.1 := by
        rcases with_mem hy with ⟨rfl, hv⟩ | hy
        · exact ⟨hv, p3.resolve_right hv⟩
        · obtain ⟨e1, e2⟩ := slot_mem hx hy
          refine ⟨e2, ?_⟩
          rcases hs y.1 with h | h
          · rw [← e1, h]
          · rw [← e1] at e2; exact absurd h e2
      have h3 := mem_slot (a := a) (k := y.1) (by rw [← hne.2]; exact hne.1)
      rw [← hne.2] at h3
      exact h3
    unfold setRows
    rw [set_of hx p1 p2 hlen, if_neg (by simp)]
    refine fill ha l _ (with_lk hx p1 p2 hlen) (fun k => ?_) fun q hq => hp q (List.mem_cons_of_mem _ hq)
    rw [slot_with hsx]
    split
    · rename_i e; subst e; exact p3
    · exact hs k
theorem find_ok {s : List AcE} (hs : chkS s = 0) {k : BS} {a : AcE} (h : findS s k = some a) : a.addr = k ∧ lkE a = 0 := by
  obtain ⟨h1, h2⟩ := lookL_key h
  exact ⟨h1, (chk_ok.1 hs).2.1 a h2⟩
/-! ### Writing, reading, what is left -/
def rowW (f : Int) (r : Rec) (i : Nat) : BS × BS := (keyE (keyN i), if hasE f i then bW (holdsE r i) else noneB)
def Tabled (k : BS) : Prop := ∃ i ∈ tab, keyE (keyN i) = k
def oldE (t : List AcE) (which : Int) : AcE := { (findS t (addrE which)).getD ac0 with addr := addrE which }
theorem old_some {s : List AcE} (hs : chkS s = 0) {w : Int} {a : AcE} (h : findS s (addrE w) = some a) : oldE s w = a := by
  unfold oldE
  rw [h]
  obtain ⟨h1, _⟩ := find_ok hs h
  cases a
  simp only at h1
  simp [h1]
structure Wrote (f : Int) (s t : List AcE) (r : Rec) : Prop where
  forked : Forked f
  fits : fitsB f r = true
  old : chkS s = 0
  new : chkS t = 0
  acct : ∃ b0, findS t A0 = some b0 ∧ lkE b0 = 0 ∧ b0.addr = A0 ∧ b0.nonce = (oldE s 0).nonce ∧ b0.bal = (oldE s 0).bal ∧ b0.code = (codeE f 0).1 ∧ (∀ i ∈ tab, slotE b0 (keyE (keyN i)) = (rowW f r i).2) ∧ ∀ k, ¬ Tabled k → slotE b0 k = slotE (oldE s 0) k
  others : ∀ k, k ≠ A0 → k ≠ A1 → findS t k = findS s k
  fee : if (codeE f 1).2 = true then findS t A1 = some { oldE s 1 with code := (codeE f 1).1 } else findS t A1 = findS s A1
end Go.SL
/-! ### The laws of layouts and of migrations, in plain Lean -/
namespace Go.SL
set_option linter.all false
open Go Go.RowKit Go.Shelf
def acct0 (s : List AcE) (k : BS) : AcE := (findS s k).getD ac0
theorem fold_congr {f : Int} {g g' : Nat → W4} : ∀ {l : List Nat} {out : Rec}, (∀ i ∈ l, hasE f i = true → g i = g' i) → foldE f g l out = foldE f g' l out
  | [], _, _ => rfl
  | i :: l, out, h => by
    unfold foldE
    have e : (if hasE f i then takeE out (g i) i else out) = if hasE f i then takeE out (g' i) i else out := by
      by_cases hi : hasE f i = true
      · rw [if_pos hi, if_pos hi, h i List.mem_cons_self hi]
      · rw [if_neg hi, if_neg hi]
    rw [e]
    exact fold_congr fun j hj => h j (List.mem_cons_of_mem _ hj)
theorem read_back {f : Int} {a : AcE} {r : Rec} (hf : Forked f) (hr : r.ok) (hb : fitsB f r = true) (h : ∀ i ∈ tab, slotE a (keyE (keyN i)) = (rowW f r i).2) : readE f a = r := by
  have e : readE f a = keptE f r := fold_congr fun i hi hh => by
    rw [h i hi]
    unfold rowW
    simp only
    rw [if_pos hh]
    exact uW_b (holds_ok hr i)
  rw [e]
  exact (kept_iff hf).2 hb
structure Checked (f : Int) (s : List AcE) (a : AcE) : Prop where
  forked : Forked f
  st : chkS s = 0
  at0 : findS s A0 = some a
  code : a.code = (codeE f 0).1
  rows : ∀ i ∈ tab, slotE a (keyE (keyN i)) = (rowW f (readE f a) i).2
  fee : (codeE f 1).2 = true → ∃ b, findS s A1 = some b ∧ b.code = (codeE f 1).1
/-- WHAT IS WRITTEN IS READ. -/
theorem Wrote.checked {f : Int} {s t : List AcE} {r : Rec} (h : Wrote f s t r) (hr : r.ok) : ∃ a, Checked f t a ∧ readE f a = r := by
  obtain ⟨h1, h2, h3, h4, ⟨b0, c1, c2, c3, c4, c5, c6, c7, c8⟩, h6, h7⟩ := h
  have e := read_back h1 hr h2 c7
  refine ⟨b0, ⟨h1, h4, c1, c6, by rw [e]; exact c7, fun hf => ?_⟩, e⟩
  rw [if_pos hf] at h7
  exact ⟨_, h7, rfl⟩
theorem Checked.lk {f : Int} {s : List AcE} {a : AcE} (h : Checked f s a) : lkE a = 0 := (find_ok h.st h.at0).2
theorem Checked.addr {f : Int} {s : List AcE} {a : AcE} (h : Checked f s a) : a.addr = A0 := (find_ok h.st h.at0).1
theorem Checked.old {f : Int} {s : List AcE} {a : AcE} (h : Checked f s a) : oldE s 0 = a := old_some h.st h.at0
/-- What stays. -/
structure Kept (s t : List AcE) : Prop where
  others : ∀ k, k ≠ A0 → k ≠ A1 → findS t k = findS s k
  there : ∀ k, (findS s k).isSome = true → (findS t k).isSome = true
  nonce : ∀ k, (acct0 t k).nonce = (acct0 s k).nonce
  bal : ∀ k, (acct0 t k).bal = (acct0 s k).bal
  slot : ∀ k j, (k = A0 → ¬ Tabled j) → slotE (acct0 t k) j = slotE (acct0 s k) j
theorem Kept.refl (s : List AcE) : Kept s s := ⟨fun _ _ _ => rfl, fun _ h => h, fun _ => rfl, fun _ => rfl, fun _ _ _ => rfl⟩
theorem Kept.trans {s t u : List AcE} (h : Kept s t) (k : Kept t u) : Kept s u :=
  ⟨fun x a b => (k.others x a b).trans (h.others x a b), fun x hx => k.there x (h.there x hx), fun x => (k.nonce x).trans (h.nonce x), fun x => (k.bal x).trans (h.bal x), fun x j hj => (k.slot x j hj).trans (h.slot x j hj)⟩
def Way (f g : Int) : Prop := 0 ≤ f ∧ f ≤ g ∧ g ≤ 5
instance (f g : Int) : Decidable (Way f g) := inferInstanceAs (Decidable (_ ∧ _))
end Go.SL
/-! ### Rules for rows of structs: parts of known rows, clones; places in rows that rise -/
namespace Go.SL
set_option linter.all false
open Go Go.RowKit Go.Shelf
open Go.Proofs (Enters enters_of)
def plS (sz a : Nat) : Pl → Pl
  | none => none
  | some (⟨b, o, s⟩, cap) => some (⟨b, if cap = a then o else o + a * sz, s⟩, cap - a)
theorem Seg.slice {R : List (Nat × Obj)} {n sz a b : Nat} {cs : List Value} {p : Pl} (h : Seg R n cs p) (hl : cs.length = n * sz) (hab : a < b) (hb : b ≤ n) : Seg R (b - a) ((cs.drop (a * sz)).take ((b - a) * sz)) (plS sz a p) := by
  cases p with
  | none => have h : n = 0 := h; omega
  | some q =>
    obtain ⟨⟨r, o, s⟩, cap⟩ := q
    obtain ⟨h1, h2⟩ := h
    obtain ⟨h3, all, e, fr, h4, h5⟩ := h2 (by omega)
    have hne : ¬ cap = a := by omega
    simp only [plS, if_neg hne]
    have hlen : ((cs.drop (a * sz)).take ((b - a) * sz)).length = (b - a) * sz := by
      rw [List.length_take, List.length_drop, hl, ← Nat.sub_mul]
      exact Nat.min_eq_left (Nat.mul_le_mul_right _ (by omega))
    refine ⟨by omega, fun _ => ⟨h3, all, e, fr, h4, ?_⟩⟩
    rw [hlen]
    exact take_sub h5 rfl hlen
section
variable {c : Cx} {l : List (Nat × Value)} {L : List (Nat × Obj)} {X : XP} {Q : Exit → Act → World → Prop} {d : List Deferred}
variable {ops : Array Oper} {rest : List Oper} {i : Nat} {v : Value} {t : TypeId} {ps : String} {af : Array Edge} {gd : Option (Nat × Bool)} {ty t2 : TypeId}
/-- 'append(s)' of nothing. -/
theorem HL_append0 {x y : Operand} {e sz n cap : Nat} {a : Option Addr} {r2 : Option Addr} {c2 : Nat} (hg : goes l ops ⟨some i, .call ⟨.builtin .append, #[x, y], #[t, t]⟩, ty, ps, af, gd⟩ = some true) (hi : Nat.ble (i + 1) c.n = true)
    (hx : evl l x = some (.slice a n cap)) (hy : evl l y = some (.slice r2 0 c2)) (ht : sliceOf c.P t = some e) (hs : szOf c.P e = some sz) (hle : n ≤ cap)
    (h : HL c d ((i, .slice a n cap) :: l) L X ops rest Q) : HL c d l L X ops (⟨some i, .call ⟨.builtin .append, #[x, y], #[t, t]⟩, ty, ps, af, gd⟩ :: rest) Q := by
  obtain ⟨inf, hinf, hs'⟩ : ∃ inf, c.P.info? e = some inf ∧ inf.size = sz := by
    unfold szOf at hs
    cases hq : c.P.info? e with
    | none => simp [hq] at hs
    | some inf => simp only [hq, Option.some.injEq] at hs; exact ⟨inf, rfl, hs⟩
  refine HL_r hg rfl rfl hi (fun a' w hf _ => ?_) h
  have ex := hf.eval hx
  have ey := hf.eval hy
  have hl : ∀ (q : Addr), (loadCells q 0).run c.P w = .ok #[] w := fun q => by simpa using run_loadCells_list (P := c.P) w q [] (by simp)
  cases r2 <;> cases a <;> simp [execOp, resolve, Sem.run_bind, ex, ey, Result.andThen, invoke, builtin, Builtin.append_, run_und (und_slice ht), sizeOf, typeInfo, hinf, Builtin.lenOf, hle, Builtin.firstCells, hl, storeCells]
/-- 'S{}'. -/
theorem HL_buildSlice0 {e sz : Nat} (hg : goes l ops ⟨some i, .buildSlice t 0 #[], ty, ps, af, gd⟩ = some true) (hi : Nat.ble (i + 1) c.n = true) (ht : sliceOf c.P t = some e) (hs : szOf c.P e = some sz)
    (h : ∀ q, HL c d ((i, .slice (some ⟨q, 0, none⟩) 0 0) :: l) ((q, .cells #[] e (0, 0)) :: L) X ops rest Q) : HL c d l L X ops (⟨some i, .buildSlice t 0 #[], ty, ps, af, gd⟩ :: rest) Q := by
  refine HL_runE (V := fun q => .slice (some ⟨q, 0, none⟩) 0 0) (L' := fun q => (q, .cells #[] e (0, 0)) :: L) (X' := fun _ => X) hg rfl rfl hi (fun a w hfr hst => ⟨w.heap.size, w.alloc (.cells #[] e), ?_, hst.alloc _⟩) h
  simp [execOp, Instr.buildSlice, Sem.run_bind, run_und (und_slice ht), run_sz hs, Result.andThen, Instr.fill, newRow]
  rw [show Array.range 0 = (#[] : Array Nat) from by decide]
  simp
/-- 'append(S{}, s...)'. -/
theorem HL_clone {x y : Operand} {k r e sz b n : Nat} {z : Value} {q : Addr × Nat} {cs : List Value} {R L0 : List (Nat × Obj)}
    (hg : goes l ops ⟨some i, .call ⟨.builtin .append, #[x, y], #[t, t]⟩, ty, ps, af, gd⟩ = some true) (hi : Nat.ble (i + 1) c.n = true) (hx : evl l x = some (.slice (some ⟨r, 0, none⟩) 0 0)) (hk : L[k]? = some (r, .cells #[] e (0, 0))) (hL : L.eraseIdx k = L0)
    (hy : evl l y = some (plV n (some q))) (hs : Seg R n cs (some q)) (hR : ∀ q ∈ R, known c L q.1 q.2) (ht : sliceOf c.P t = some e) (hz : zeroOf c.P e = some z) (hsz : szOf c.P e = some sz) (hb : byOf c.P e = some b) (hzs : z.cells.size = sz) (h0 : 0 < sz)
    (hcs : cs.length = n * sz) (hone : cs.all oneB = true) (h63 : n ≤ 9223372036854775807) (h47 : n * b ≤ 140737488355328)
    (h : ∀ row, rowOk sz n cs row → HL c d ((i, rowV n row) :: l) (rowL e cs row ++ L0) X ops rest Q) : HL c d l L X ops (⟨some i, .call ⟨.builtin .append, #[x, y], #[t, t]⟩, ty, ps, af, gd⟩ :: rest) Q := by
  obtain ⟨⟨r2, o2, s2⟩, cap⟩ := q
  obtain ⟨hs1, hs2⟩ := hs
  by_cases hn : n = 0
  · subst hn
    have hc0 : cs = [] := List.length_eq_zero_iff.1 (by rw [hcs, Nat.zero_mul])
    subst hc0
    refine HL_append0 hg hi hx hy ht hsz (Nat.le_refl _) ?_
    refine HL_perm ?_ (h (some (r, 0, [])) ⟨by simp, by simp⟩)
    have h1 := (List.getElem?_eq_some_iff.1 hk)
    have := set_perm h1.1 (r, Obj.cells #[] e (0, 0))
    rw [hL, ← h1.2, List.set_getElem_self, h1.2] at this
    exact this
  · obtain ⟨h3, all, e', fr, h4, h5⟩ := hs2 (by omega)
    have h3 : s2 = none := h3
    subst h3
    rw [hcs] at h5
    refine HL_append hg hi hx hy (hR _ h4) ht hz hsz hb hzs h0 h5 hcs hone (by omega) (SlOwn.own (n := 0) (cap := 0) (xs := []) hk (by simp) (by simp) (by simp) hL) (by omega) (by rw [Nat.zero_add]; exact h47) fun r' cap' spare hsp => ?_
    have := h (some (r', cap', spare)) ⟨hcs, by rw [Nat.zero_add] at hsp; exact hsp⟩
    simpa [rowV, rowL] using this
end
section
variable {α : Type} {kf : α → BS}
end
def fV (f : FuncId) : Value := .func (.func f) #[] #[]
theorem Pure.toR {P : Program} {f : FuncId} {args : Array Value} {v : Value} {R : List (Nat × Obj)} (h : Pure P f args v) : PureR P f args v R := ⟨fun w _ => h.run w⟩
theorem PureR.mono {P : Program} {f : FuncId} {args : Array Value} {v : Value} {R R' : List (Nat × Obj)} (h : PureR P f args v R) (hs : ∀ q ∈ R, q ∈ R') : PureR P f args v R' := ⟨fun w hw => h.run w fun p hp => hw p (hs p hp)⟩
def rowP : Row → Pl
  | none => none
  | some (r, cap, _) => some (⟨r, 0, none⟩, cap)
theorem rowP_V (n : Nat) (row : Row) (h : row = none → n = 0) : plV n (rowP row) = rowV n row := by
  cases row with
  | none => rw [h rfl]; rfl
  | some q => rfl
theorem rowP_seg {sz n e : Nat} {cs : List Value} {row : Row} (h : rowOk sz n cs row) (h0 : 0 < sz) : Seg (rowL e cs row) n cs (rowP row) := by
  cases row with
  | none => exact h.1
  | some q =>
    obtain ⟨r, cap, sp⟩ := q
    obtain ⟨h1, h2⟩ := h
    exact ⟨Nat.le_of_mul_le_mul_right (by omega : n * sz ≤ cap * sz) h0, fun _ => ⟨rfl, _, e, (0, 0), List.mem_cons_self, by simp⟩⟩
/-! Results that lie in new blocks and in known ones. -/
structure AcRes (R : List (Nat × Obj)) (e : AcE × Int) : Type where
  a : AcL
  err : Int
  L : List (Nat × Obj)
  ok : a.In (L ++ R)
  eq : (a.er, err) = e
structure StRes (R : List (Nat × Obj)) (e : List AcE × Int) : Type where
  s : StL
  err : Int
  L : List (Nat × Obj)
  ok : s.In (L ++ R)
  eq : (s.er, err) = e
def AcRes.val {R : List (Nat × Obj)} {e : AcE × Int} (x : AcRes R e) : Value := .tuple #[x.a.val, .int .i64 x.err]
def StRes.val {R : List (Nat × Obj)} {e : List AcE × Int} (x : StRes R e) : Value := .tuple #[x.s.val, .int .i64 x.err]
end Go.SL
/-! ### Comparing structs; results in new blocks -/
namespace Go.SL
set_option linter.all false
open Go Go.RowKit Go.Shelf
open Go.Proofs (Enters enters_of)
/-! ### Structs are compared -/
inductive EqF (P : Program) (xs ys : List Value) : List Field → Bool → Prop
  | nil : EqF P xs ys [] true
  | scal {f : Field} {fs : List Field} {a b : Value} {r : Bool} (hn : (f.name == "_") = false) (he : aggB P f.type = some false) (ga : nth xs f.offset = some a) (gb : nth ys f.offset = some b) (ha : scalB P f.type a = true) (hb : scalB P f.type b = true) (h : EqF P xs ys fs r) : EqF P xs ys (f :: fs) (eqS a b && r)
  | arr {f : Field} {fs : List Field} {n e : Nat} {va vb : List Value} {r : Bool} (hn : (f.name == "_") = false) (ht : arrOf P f.type = some (n, e)) (hz : szOf P f.type = some n) (he : aggB P e = some false) (hs : szOf P e = some 1) (ga : (xs.drop f.offset).take n = va) (gb : (ys.drop f.offset).take n = vb) (hla : va.length = n) (hlb : vb.length = n)
      (h1 : va.all (scalB P e) = true) (h2 : vb.all (scalB P e) = true) (h : EqF P xs ys fs r) : EqF P xs ys (f :: fs) (eqCells va vb && r)
section
variable {c : Cx} {l : List (Nat × Value)} {L : List (Nat × Obj)} {X : XP} {d : List Deferred}
variable {i : Nat} {t : TypeId} {ps : String} {af : Array Edge} {gd : Option (Nat × Bool)} {ty t2 : TypeId}
end
end Go.SL
/-! ### Iterators that hand out what lies in blocks of their own; calls that lay new blocks in a region that draws -/
namespace Go.SL
set_option linter.all false
open Go Go.RowKit Go.Shelf
open Go.Proofs (Enters enters_of)
/-- As 'Iter'; with each element go blocks of the iterator's own, that may be read. -/
def IterB {ι : Type} (P : Program) (gf : FuncId) (caps : List Value) (Rl : List (Nat × Obj)) (p0 : ι) (nx : ι → List Value → List (Nat × Obj) → ι → Prop) (fin : ι → Prop) : Prop :=
  ∀ (q : Nat) (xids : List Nat) (w2 : World) (XI : ι → XP) (XF : XP),
    (∀ p ∈ Rl, p.1 ∉ xids ∧ w2.heap[p.1]? = some p.2) → (∀ k ∈ xids, k < w2.heap.size) → Foot xids (XI p0) w2 →
    (∀ i v B i', nx i v B i' → ∀ xs w, (∀ k ∈ xs, k < w.heap.size ∧ (k ∈ xids ∨ w2.heap.size ≤ k)) → Keep xids w2 w → Foot xs (XI i) w → Has B w → (∀ p ∈ B, p.1 ∉ xs ∧ p.1 ∉ xids) → YS P q v.toArray xs w (XI i') XF) →
    Calls P gf (.func (.yield q) #[] #[] :: caps).toArray w2 fun e w' => (∃ v, e = .returned v) ∧ Keep xids w2 w' ∧ ((∃ i xs, fin i ∧ XI i xs w') ∨ ∃ xs, XF xs w')
section
variable {c : Cx} {l : List (Nat × Value)} {L : List (Nat × Obj)} {X : XP} {Q : Exit → Act → World → Prop} {d : List Deferred}
variable {ops : Array Oper} {rest : List Oper} {i : Nat} {v : Value} {t : TypeId} {ps : String} {af : Array Edge} {gd : Option (Nat × Bool)} {ty : TypeId}
theorem HL_yieldB {B : List (Nat × Obj)} {f : Operand} {args : Array Operand} {at_ : Array TypeId} {q : Nat} {vs : List Value} {XT XF : XP}
    (hg : goes l ops ⟨some i, .call ⟨.value f, args, at_⟩, ty, ps, af, gd⟩ = some true) (hi : Nat.ble (i + 1) c.n = true)
    (hf : evl l f = some (.func (.yield q) #[] #[])) (ha : evs l args.toList = some vs)
    (hY : ∀ xs w, (∀ k ∈ xs, k < w.heap.size ∧ (k ∈ c.xids ∨ c.w1.heap.size ≤ k)) → Keep (c.ids ++ c.xids) c.w1 w → Foot xs X w → Has B w → (∀ p ∈ B, p.1 ∉ xs ∧ p.1 ∉ c.xids) → YS c.P q vs.toArray xs w XT XF) (hBL : ∀ p ∈ B, p ∈ L)
    (h1 : HL c d ((i, .bool true) :: l) L XT ops rest Q) (h0 : HL c d ((i, .bool false) :: l) L XF ops rest Q) : HL c d l L X ops (⟨some i, .call ⟨.value f, args, at_⟩, ty, ps, af, gd⟩ :: rest) Q := fun a w hfr hs => by
  refine wpListIn_do (goes_wanted hfr hg) rfl ?_
  obtain ⟨xs, hx1, hx2⟩ := hs.x
  obtain ⟨fn, tmps, assign, body, hy, hR⟩ := hY xs w (fun k hk => ⟨(hx1 k hk).2.1, (hx1 k hk).1⟩) hs.keep hx2 (fun p hp => (hs.own p (hBL p hp)).2.2) (fun p hp => ⟨fun hm => (hx1 _ hm).2.2 p (hBL p hp) rfl, (hs.own p (hBL p hp)).2.1⟩)
  have h2 := hfr.evals ha
  have h3 : args.map a.eval = vs.toArray := by apply Array.toList_inj.1; rw [Array.toList_map]; simpa using h2
  have h4 : a.eval f = .func (.yield q) #[] #[] := hfr.eval hf
  have hrun : (execOp a.eval ⟨some i, .call ⟨.value f, args, at_⟩, ty, ps, af, gd⟩).run c.P w = .ok (.round q fn tmps assign body) w := by
    simp only [execOp, Sem.run_bind]
    simp [resolve, h3, h4, Deferred.ofValue, Result.andThen, invoke, hy]
  rw [hrun, Oper.uponIn_round]
  refine ⟨fun hdep => (by cases hdep), ?_⟩
  refine RoundIn.mono (show RoundIn (FW c.ro) (0 - 1) c.P q fn tmps assign body w _ from hR) ?_
  rintro e w' ⟨b, xs', rfl, hxs, hk, hb⟩
  have hs' : ∀ X', Foot xs' X' w' → St c L X' w' := fun X' hx => by
    refine ⟨hs.keep.glue hk fun k hm => ?_, fun p hp => ?_, hs.distinct, hs.ext, hs.xlt, xs', fun k hm => ?_, hx⟩
    · rcases (hx1 k hm).1 with g | g
      · exact .inl (List.mem_append_right _ g)
      · exact .inr g
    · obtain ⟨g1, g2, g3⟩ := hs.own p hp
      exact ⟨g1, g2, (hk.block p.1 (lt_of_some g3) fun hm => (hx1 _ hm).2.2 p hp rfl).trans g3⟩
    · obtain ⟨g1, g2⟩ := hxs k hm
      refine ⟨g2.elim (fun g => (hx1 k g).1) fun g => .inr (Nat.le_trans hs.keep.size g), g1, fun p hp => ?_⟩
      rcases g2 with g | g
      · exact (hx1 k g).2.2 p hp
      · have := lt_of_some (hs.own p hp).2.2; omega
  cases b with
  | true => exact h1 _ w' (hfr.put (Nat.le_of_ble_eq_true hi)) (hs' XT (by simpa using hb))
  | false => exact h0 _ w' (hfr.put (Nat.le_of_ble_eq_true hi)) (hs' XF (by simpa using hb))
theorem HC_rangeB {ι σ τ : Type} {f : Operand} {pp : List Nat} {assign body : Code} {gf : FuncId} {caps : List Value} {Rl : List (Nat × Obj)} {p0 : ι} {nx : ι → List Value → List (Nat × Obj) → ι → Prop} {fi : ι → Prop}
    (I : ι → σ → Prop) (LI : σ → List (Nat × Obj)) (E : Code → τ → Prop) (LE : τ → List (Nat × Obj)) (Lk : List (Nat × Obj)) (s0 : σ)
    (hro : c.ro = none) (hf : evl l f = some (.func (.func gf) #[] caps.toArray)) (eg : Enters c.P gf) (hit : IterB c.P gf caps Rl p0 nx fi) (hlen : ∀ i v B i', nx i v B i' → v.length = pp.length) (hpp : pp.all (Nat.blt · c.n) = true)
    (hRl : ∀ p ∈ Rl, p ∈ Lk ∨ p ∈ c.R) (hL : L = LI s0 ++ Lk) (h0 : I p0 s0)
    (hround : ∀ (q : Nat) (Xr Xb : XP) (w3 : World) (i : ι) (v : List Value) (B : List (Nat × Obj)) (i' : ι) (s : σ), nx i v B i' → I i s → ∀ K, BodyK (cxR c q w3 (idsOf (LI s)) (B ++ Lk)) Xr Xb body (roundQ (cxR c q w3 (idsOf (LI s)) (B ++ Lk)) Xb (I i') LI E LE) K →
      HC (cxR c q w3 (idsOf (LI s)) (B ++ Lk)) [] (zipL pp v l) (LI s) Xr assign (Exit.then K fun _ _ _ => False))
    (hdone : ∀ D i s, fi i → I i s → HQ c (markOf D :: d) l ((D, .deferred (some [])) :: (LI s ++ Lk)) X (Q .normal))
    (hstop : ∀ D j s, E j s → HC c (markOf D :: d) l ((D, .deferred (some [])) :: (LE s ++ Lk)) X j Q) :
    HC c d l L X (.rangeFunc f pp.toArray assign body) Q := fun a w hfr hs => by
  subst hL
  refine wpIn_rangeFunc ?_
  intro fn _
  have e0 : (FW c.ro).round = none := by rw [hro]; rfl
  rw [e0]
  obtain ⟨r, hr⟩ : ∃ r : Loop, r = { state := .ready, pending := none, fn, tmps := a.tmps, params := pp.toArray, assign, body, defers := w.heap.size } := ⟨_, rfl⟩
  obtain ⟨w2, hw2⟩ : ∃ w2, (w.alloc (.deferred (some []))).alloc (.loop r) = w2 := ⟨_, rfl⟩
  have hq : (w.alloc (.deferred (some []))).heap.size = w.heap.size + 1 := World.size_alloc _ _
  have hs2 : St c ((w.heap.size + 1, .loop r) :: (w.heap.size, .deferred (some [])) :: (LI s0 ++ Lk)) X w2 := by
    have := (hs.alloc (.deferred (some []))).alloc (.loop r)
    rw [hq, hw2] at this
    exact this
  have hq2 : w2.heap[w.heap.size + 1]? = some (.loop r) := (hs2.own _ List.mem_cons_self).2.2
  have hrr : ({ r with state := .ready, pending := none } : Loop) = r := by rw [hr]
  obtain ⟨M, hM⟩ : ∃ M, idsOf (LI s0) = M := ⟨_, rfl⟩
  refine ⟨w.heap.size + 1, [markOf w.heap.size], w2, { target := .fn (.func gf) caps.toArray, args := #[.func (.yield (w.heap.size + 1)) #[] #[]] }, w2, gf, (.func (.yield (w.heap.size + 1)) #[] #[] :: caps).toArray, w2, ?_, ?_, fun _ _ => trivial, ?_, fun hdep => (by cases hdep), ?_⟩
  · rw [← hw2, hr]; exact run_enterLoop_outer _ _ _ _ _
  · have := hfr.eval hf
    simp only [resolve, this]
    simp [Deferred.ofValue]
    rfl
  · have := eg (#[.func (.yield (w.heap.size + 1)) #[] #[]] ++ caps.toArray) w2
    have e1 : (#[Value.func (.yield (w.heap.size + 1)) #[] #[]] ++ caps.toArray) = (Value.func (.yield (w.heap.size + 1)) #[] #[] :: caps).toArray := by apply Array.toList_inj.1; simp
    rw [e1] at this
    simpa [invoke] using this
  · -- the iterator's contract at our invariant
    have hown := hs2.distinct
    have hMown : ∀ k ∈ M, ∃ o, (k, o) ∈ LI s0 := fun k hk => by
      rw [← hM] at hk
      obtain ⟨p, hp, rfl⟩ := List.mem_map.1 hk
      exact ⟨p.2, hp⟩
    have hpw := List.pairwise_cons.1 hown
    have hpw2 := List.pairwise_cons.1 hpw.2
    have hpw3 := List.pairwise_append.1 hpw2.2
    have hsz2 : w2.heap.size = w.heap.size + 2 := by rw [← hw2, World.size_alloc, World.size_alloc]
    have hLk2 : ∀ p ∈ Lk, p.1 < w2.heap.size := fun p hp => lt_of_some (hs2.own p (List.mem_cons_of_mem _ (List.mem_cons_of_mem _ (List.mem_append_right _ hp)))).2.2
    have hMk : ∀ p ∈ Lk, p.1 ∉ M ∧ p.1 ≠ w.heap.size + 1 := fun p hp => ⟨fun hm => by
      obtain ⟨o, ho⟩ := hMown _ hm
      exact hpw3.2.2 _ ho _ hp rfl, fun e => hpw.1 p (List.mem_cons_of_mem _ (List.mem_append_right _ hp)) e.symm⟩
    have hMq : w.heap.size + 1 ∉ M := fun hm => by
      obtain ⟨o, ho⟩ := hMown _ hm
      exact hpw.1 _ (List.mem_cons_of_mem _ (List.mem_append_left _ ho)) rfl
    have hMD : w.heap.size ∉ M := fun hm => by
      obtain ⟨o, ho⟩ := hMown _ hm
      exact hpw2.1 _ (List.mem_append_left _ ho) rfl
    have hMlt : ∀ k ∈ M, k < w2.heap.size := fun k hk => by
      obtain ⟨o, ho⟩ := hMown _ hk
      exact lt_of_some (hs2.own _ (List.mem_cons_of_mem _ (List.mem_cons_of_mem _ (List.mem_append_left _ ho)))).2.2
    -- what a place of one's own is apart from
    have apart : ∀ {k : Nat}, (k ∈ M ∨ w2.heap.size ≤ k) → k ≠ w.heap.size + 1 ∧ k ≠ w.heap.size ∧ (∀ p ∈ Lk, p.1 ≠ k) := fun {k} hk => by
      rcases hk with hk | hk
      · exact ⟨fun e => hMq (e ▸ hk), fun e => hMD (e ▸ hk), fun p hp e => (hMk p hp).1 (e ▸ hk)⟩
      · exact ⟨by omega, by omega, fun p hp e => by have := hLk2 p hp; omega⟩
    have apartR : ∀ {k : Nat}, (k ∈ M ∨ w2.heap.size ≤ k) → ∀ p ∈ c.R, p.1 ≠ k := fun {k} hk p hp e => by
      obtain ⟨e1, _, e3⟩ := hs2.ext p hp
      have h1 := lt_of_some e3
      have h2 := hs.keep.size
      rcases hk with hk | hk
      · obtain ⟨o, ho⟩ := hMown _ hk
        rcases (hs2.own _ (List.mem_cons_of_mem _ (List.mem_cons_of_mem _ (List.mem_append_left _ ho)))).1 with g | g
        · exact e1 (e ▸ g)
        · simp only at g; omega
      · omega
    have hcalls := hit (w.heap.size + 1) ((w.heap.size + 1) :: M) w2 (fun i => loopX (w.heap.size + 1) w2.heap.size M r (I i) LI)
      (fun xs w' => ∃ j, loopX (w.heap.size + 1) w2.heap.size M { r with state := .done, pending := some j } (E j) LE xs w')
      (fun p hp => by
        rcases hRl p hp with hL | hR
        · refine ⟨fun hm => ?_, (hs2.own p (List.mem_cons_of_mem _ (List.mem_cons_of_mem _ (List.mem_append_right _ hL)))).2.2⟩
          obtain ⟨h1, h2⟩ := hMk p hL
          rcases List.mem_cons.1 hm with hm | hm
          · exact h2 hm
          · exact h1 hm
        · refine ⟨fun hm => ?_, hs2.readR hR⟩
          rcases List.mem_cons.1 hm with hm | hm
          · have h1 := lt_of_some (hs2.ext p hR).2.2
            have h2 := hs.keep.size
            omega
          · exact apartR (.inl hm) p hR rfl)
      (fun k hk => by
        rcases List.mem_cons.1 hk with rfl | hk
        · exact lt_of_some hq2
        · exact hMlt k hk)
      (by
        have := foot_loopX (q := w.heap.size + 1) (B := w2.heap.size) (M := M) (rec := r) (I := I p0) (LI := LI) s0 h0 hpw3.1 (fun p hp => .inl (by rw [← hM]; exact List.mem_map_of_mem (f := (·.1)) hp)) (fun p hp => (hs2.own _ (List.mem_cons_of_mem _ (List.mem_cons_of_mem _ (List.mem_append_left _ hp)))).2.2) hq2
        rw [hM] at this
        exact this)
      ?_
    · refine CallsIn.mono (show CallsIn (FW c.ro) (0 - 1) c.P gf _ w2 _ from callsIn_wide (n := 0) |>.2 hcalls) ?_
      rintro e w' ⟨⟨v, rfl⟩, hk, hfin⟩
      have fin : ∀ (st : LoopState) (pe : Option Code) (LL : List (Nat × Obj)), st ≠ .busy → LL.Pairwise (fun p q => p.1 ≠ q.1) → (∀ p ∈ LL, p.1 ∈ M ∨ w2.heap.size ≤ p.1) → Has LL w' → w'.heap[w.heap.size + 1]? = some (.loop { r with state := st, pending := pe }) →
          (Instr.endLoop (w.heap.size + 1)).run c.P w' = .ok pe (w'.putObj (w.heap.size + 1) (.loop { r with state := .exhausted, pending := pe })) ∧
          St c ((w.heap.size, .deferred (some [])) :: (LL ++ Lk)) X (w'.putObj (w.heap.size + 1) (.loop { r with state := .exhausted, pending := pe })) := by
        intro st pe LL hst hpwL hLM hLL hl
        refine ⟨run_endLoop hl hst, ?_⟩
        have hk2 : Keep ((w.heap.size + 1) :: M) w2 (w'.putObj (w.heap.size + 1) (.loop { r with state := .exhausted, pending := pe })) :=
          hk.trans ((Keep.putObj _ _).weak fun k hm => by simp at hm; subst hm; exact List.mem_cons_self)
        have hput : ∀ k, k ≠ w.heap.size + 1 → (w'.putObj (w.heap.size + 1) (.loop { r with state := .exhausted, pending := pe })).heap[k]? = w'.heap[k]? := fun k hne => World.putObj_heap_other hne
        refine hs2.jump hk2 (fun k hm => ?_) ?_ (fun p hp => ?_)
        · rcases List.mem_cons.1 hm with rfl | hm
          · exact ⟨_, List.mem_cons_self⟩
          · obtain ⟨o, ho⟩ := hMown k hm
            exact ⟨o, List.mem_cons_of_mem _ (List.mem_cons_of_mem _ (List.mem_append_left _ ho))⟩
        · refine List.pairwise_cons.2 ⟨fun p hp => ?_, List.pairwise_append.2 ⟨hpwL, hpw3.2.1, fun p hp p' hp' => ?_⟩⟩
          · rcases List.mem_append.1 hp with hp | hp
            · exact fun e => (apart (hLM p hp)).2.1 e.symm
            · exact hpw2.1 p (List.mem_append_right _ hp)
          · exact fun e => (apart (hLM p hp)).2.2 p' hp' e.symm
        · rcases List.mem_cons.1 hp with rfl | hp
          · refine ⟨.inl ⟨_, List.mem_cons_of_mem _ List.mem_cons_self⟩, ?_⟩
            rw [hput _ (by simp)]
            refine (hk.block w.heap.size (lt_of_some (hs2.own _ (List.mem_cons_of_mem _ List.mem_cons_self)).2.2) ?_).trans (hs2.own _ (List.mem_cons_of_mem _ List.mem_cons_self)).2.2
            simp only [List.mem_cons, not_or]; exact ⟨by omega, hMD⟩
          · rcases List.mem_append.1 hp with hp | hp
            · refine ⟨?_, ?_⟩
              · rcases hLM p hp with g | g
                · obtain ⟨o, ho⟩ := hMown _ g
                  exact .inl ⟨o, List.mem_cons_of_mem _ (List.mem_cons_of_mem _ (List.mem_append_left _ ho))⟩
                · exact .inr g
              · rw [hput _ (apart (hLM p hp)).1]
                exact hLL p hp
            · have hmem := List.mem_cons_of_mem (w.heap.size + 1, Obj.loop r) (List.mem_cons_of_mem (w.heap.size, Obj.deferred (some [])) (List.mem_append_right (LI s0) hp))
              refine ⟨.inl ⟨p.2, hmem⟩, ?_⟩
              obtain ⟨g1, g2⟩ := hMk p hp
              rw [hput _ g2]
              refine (hk.block p.1 (lt_of_some (hs2.own _ hmem).2.2) ?_).trans (hs2.own _ hmem).2.2
              simp only [List.mem_cons, not_or]; exact ⟨g2, g1⟩
      have hfr2 : Fr c.n (markOf w.heap.size :: d) l { tmps := a.tmps, defers := [markOf w.heap.size] ++ a.defers } := ⟨hfr.size, by simp [hfr.defers], hfr.slots⟩
      rcases hfin with ⟨i, xs, hi, ⟨s, h1, h2, h3, h4, _⟩, h5⟩ | ⟨xs, j, ⟨s, h1, h2, h3, h4, _⟩, h5⟩
      · obtain ⟨g1, g2⟩ := fin .ready none (LI s) (by simp) h2 h3 h4 (by rw [hrr]; exact h5)
        exact ⟨none, _, g1, hdone _ i s hi h1 _ _ hfr2 g2⟩
      · obtain ⟨g1, g2⟩ := fin .done (some j) (LE s) (by simp) h2 h3 h4 h5
        exact ⟨some j, _, g1, hstop _ j s h1 _ _ hfr2 g2⟩
    · -- a round
      rintro i v B i' hi xs w3 hxs hk3 hfoot hB hBx
      obtain ⟨⟨s, h1, hpwS, hMS, h2, rfl⟩, h3⟩ := hfoot w3 fun _ _ => rfl
      have hargs : v.toArray.size = r.params.size := by rw [hr]; simpa using hlen i v B i' hi
      have hy := run_yield (P := c.P) (args := v.toArray) h3 hargs
      refine ⟨_, _, _, _, hy, ?_⟩
      obtain ⟨c3, hc3⟩ : ∃ c3, cxR c (w.heap.size + 1) w3 (idsOf (LI s)) (B ++ Lk) = c3 := ⟨_, rfl⟩
      have hc3x : c3.xids = [w.heap.size + 1] := by rw [← hc3]; rfl
      have hc3i : c3.ids = idsOf (LI s) := by rw [← hc3]; rfl
      have hc3w : c3.w1 = w3 := by rw [← hc3]; rfl
      have hmemS : ∀ p ∈ LI s, p.1 ∈ idsOf (LI s) := fun p hp => List.mem_map_of_mem (f := (·.1)) hp
      have hidS : ∀ {k : Nat}, k ∈ idsOf (LI s) → k ∈ M ∨ w2.heap.size ≤ k := fun {k} hk => by
        obtain ⟨p, hp, rfl⟩ := List.mem_map.1 hk
        exact hMS p hp
      have hst3 : St c3 (LI s) (recX (w.heap.size + 1) r) w3 := by
        subst hc3
        refine ⟨Keep.refl _ _, fun p hp => ⟨.inl (hmemS p hp), ?_, h2 p hp⟩, hpwS, ?_, ?_, [w.heap.size + 1], fun k hk => ?_, fun w' hw' => (hw' _ (by simp)).trans h3⟩
        · simp only [cxR, List.mem_singleton]; exact (apart (hMS p hp)).1
        · intro p hp
          simp only [cxR] at hp ⊢
          rcases List.mem_append.1 hp with hp | hp
          · rcases List.mem_append.1 hp with hp | hp
            · obtain ⟨b1, _⟩ := hBx p hp
              exact ⟨fun hm => b1 (List.mem_cons_of_mem _ hm), by simp only [List.mem_singleton]; exact fun e => b1 (by rw [e]; exact List.mem_cons_self), hB p hp⟩
            obtain ⟨g1, g2⟩ := hMk p hp
            refine ⟨fun hm => (apart (hidS hm)).2.2 p hp rfl, by simpa using g2, ?_⟩
            have hmem := List.mem_cons_of_mem (w.heap.size + 1, Obj.loop r) (List.mem_cons_of_mem (w.heap.size, Obj.deferred (some [])) (List.mem_append_right (LI s0) hp))
            exact (hk3.block p.1 (lt_of_some (hs2.own _ hmem).2.2) (by simp only [List.mem_cons, not_or]; exact ⟨g2, g1⟩)).trans (hs2.own _ hmem).2.2
          · have e3 := hs2.readR hp
            have hlt := lt_of_some (hs2.ext p hp).2.2
            have hsz := hs.keep.size
            have hnq : p.1 ≠ w.heap.size + 1 := fun e => by omega
            refine ⟨fun hm => apartR (hidS hm) p hp rfl, by simpa using hnq, ?_⟩
            exact (hk3.block p.1 (lt_of_some e3) (by simp only [List.mem_cons, not_or]; exact ⟨hnq, fun hm => apartR (.inl hm) p hp rfl⟩)).trans e3
        · intro k hk; simp only [cxR, List.mem_singleton] at hk; subst hk; exact lt_of_some h3
        · simp only [List.mem_singleton] at hk
          subst hk
          exact ⟨.inl (by simp [cxR]), lt_of_some h3, fun p hp => (apart (hMS p hp)).1⟩
      have hbusy : ∀ {LL : List (Nat × Obj)} {w' : World}, St c3 LL (recX (w.heap.size + 1) r) w' →
          St c3 LL (recX (w.heap.size + 1) { r with state := .busy, pending := none }) (w'.putObj (w.heap.size + 1) (.loop { r with state := .busy, pending := none })) := by
        intro LL w' hst
        have hlt : w.heap.size + 1 < w'.heap.size := lt_of_some hst.recd
        refine ⟨hst.keep.trans ((Keep.putObj _ _).weak fun k hm => by simp at hm; subst hm; rw [hc3x]; simp), fun p hp => ?_, hst.distinct, hst.ext, hst.xlt, [w.heap.size + 1], fun k hk => ?_, fun w'' hw'' => (hw'' _ (by simp)).trans (World.putObj_heap_same hlt)⟩
        · obtain ⟨g1, g2, g3⟩ := hst.own p hp
          refine ⟨g1, g2, (World.putObj_heap_other ?_).trans g3⟩
          intro e; exact g2 (by rw [e, hc3x]; simp)
        · simp only [List.mem_singleton] at hk
          subst hk
          exact ⟨.inl (by rw [hc3x]; simp), Nat.lt_of_lt_of_le hlt (Keep.putObj _ _).size, fun p hp e => (hst.own p hp).2.1 (by rw [hc3x, e]; simp)⟩
      have hfr3 : Fr c3.n [] (zipL pp v l) { tmps := (r.params.zip v.toArray).foldl (fun (t : Array Value) (pv : Nat × Value) => t.setIfInBounds pv.1 pv.2) r.tmps, defers := [] } := by
        have h5 := fr_zip (n := c.n) pp v l a.tmps (fun p hp => by have := List.all_eq_true.1 hpp p hp; simpa using this) ⟨hfr.size, rfl, hfr.slots⟩
        rw [hr, ← hc3]
        simp only [List.zip_toArray, List.foldl_toArray']
        exact h5
      have key : ∀ RR : Ending → World → Prop,
          (∀ s' w', I i' s' → St c3 (LI s') (recX (w.heap.size + 1) { r with state := .busy, pending := none }) w' → RR (.returned (.bool true)) (w'.putObj (w.heap.size + 1) (.loop { r with state := .ready, pending := none }))) →
          (∀ j s' w', E j s' → St c3 (LE s') (recX (w.heap.size + 1) { r with state := .busy, pending := none }) w' → RR (.returned (.bool false)) (w'.putObj (w.heap.size + 1) (.loop { r with state := .done, pending := some j }))) →
          RoundIn (FW none) 0 c.P (w.heap.size + 1) r.fn ((r.params.zip v.toArray).foldl (fun (t : Array Value) (pv : Nat × Value) => t.setIfInBounds pv.1 pv.2) r.tmps) r.assign r.body w3 RR := by
        intro RR g1 g2
        refine roundIn_of_wpIn (F := FW none) trivial ?_
        have hround' := hround (w.heap.size + 1) (recX (w.heap.size + 1) r) (recX (w.heap.size + 1) { r with state := .busy, pending := none }) w3 i v B i' s hi h1
          (fun a₁ w₁ => ∃ w₂, (Instr.beginRound (w.heap.size + 1)).run c.P w₁ = .ok () w₂ ∧ body.wpIn ((FW none).inRound (w.heap.size + 1)) 0 c.P (roundPost c.P (w.heap.size + 1) RR) a₁ w₂)
        rw [hc3] at hround'
        have hround'' := hround' (fun l' L' hb a₁ w₁ hf₁ hs₁ => ?_) _ w3 hfr3 hst3
        · have e1 : r.assign = assign := by rw [hr]
          have e2 : r.body = body := by rw [hr]
          have e3 : c3.P = c.P := by rw [← hc3]; rfl
          have e4 : c3.ro = some (w.heap.size + 1) := by rw [← hc3]; rfl
          rw [e3, e4] at hround''
          rw [e1, e2]
          exact hround''
        · have hx1 : w₁.heap[w.heap.size + 1]? = some (.loop r) := hs₁.recd
          refine ⟨_, run_beginRound hx1 (by rw [hr]), ?_⟩
          have hb2 := hb a₁ _ hf₁ (hbusy hs₁)
          have hb3 : ({ r with state := .busy } : Loop) = { r with state := .busy, pending := none } := by rw [hr]
          rw [hb3]
          have e3 : c3.P = c.P := by rw [← hc3]; rfl
          have e4 : c3.ro = some (w.heap.size + 1) := by rw [← hc3]; rfl
          rw [e3, e4] at hb2
          refine wpIn_mono (show body.wpIn ((FW none).inRound (w.heap.size + 1)) 0 c.P _ a₁ _ from hb2) ?_
          have := roundQ_post (c3 := c3) (q := w.heap.size + 1) (r := { r with pending := none }) (R := RR) g1 g2
          rw [e3] at this
          exact this
      have turn : ∀ (st : LoopState) (pe : Option Code) (LL : List (Nat × Obj)) (w' : World), St c3 LL (recX (w.heap.size + 1) { r with state := .busy, pending := none }) w' →
          (∀ k ∈ (w.heap.size + 1) :: idsOf LL, k < (w'.putObj (w.heap.size + 1) (.loop { r with state := st, pending := pe })).heap.size ∧ (k ∈ (w.heap.size + 1) :: idsOf (LI s) ∨ w3.heap.size ≤ k)) ∧
          Keep ((w.heap.size + 1) :: idsOf (LI s)) w3 (w'.putObj (w.heap.size + 1) (.loop { r with state := st, pending := pe })) ∧ (∀ p ∈ LL, p.1 ∈ M ∨ w2.heap.size ≤ p.1) ∧ Has LL (w'.putObj (w.heap.size + 1) (.loop { r with state := st, pending := pe })) ∧
          (w'.putObj (w.heap.size + 1) (.loop { r with state := st, pending := pe })).heap[w.heap.size + 1]? = some (.loop { r with state := st, pending := pe }) := by
        intro st pe LL w' hst'
        have hlt : w.heap.size + 1 < w'.heap.size := lt_of_some hst'.recd
        have hk' := hst'.keep
        rw [hc3x, hc3i, hc3w] at hk'
        have hown' : ∀ p ∈ LL, (p.1 ∈ idsOf (LI s) ∨ w3.heap.size ≤ p.1) ∧ p.1 ≠ w.heap.size + 1 ∧ w'.heap[p.1]? = some p.2 := fun p hp => by
          have := hst'.own p hp
          rw [hc3x, hc3i, hc3w] at this
          simpa using this
        refine ⟨fun k hk => ?_, ?_, fun p hp => ?_, fun p hp => (World.putObj_heap_other (hown' p hp).2.1).trans (hown' p hp).2.2, World.putObj_heap_same hlt⟩
        · rcases List.mem_cons.1 hk with rfl | hk
          · exact ⟨Nat.lt_of_lt_of_le hlt (Keep.putObj _ _).size, .inl List.mem_cons_self⟩
          · obtain ⟨p, hp, rfl⟩ := List.mem_map.1 hk
            obtain ⟨e1, e2, e3⟩ := hown' p hp
            exact ⟨Nat.lt_of_lt_of_le (lt_of_some e3) (Keep.putObj _ _).size, e1.imp (List.mem_cons_of_mem _) id⟩
        · refine (hk'.weak fun k hm => ?_).trans ((Keep.putObj _ _).weak fun k hm => by simp at hm; subst hm; exact List.mem_cons_self)
          rcases List.mem_append.1 hm with hm | hm
          · exact List.mem_cons_of_mem _ hm
          · simp only [List.mem_singleton] at hm; subst hm; exact List.mem_cons_self
        · rcases (hown' p hp).1 with g | g
          · exact hidS g
          · exact .inr (Nat.le_trans hk3.size g)
      refine key _ ?_ ?_
      · intro s' w' hI' hst'
        obtain ⟨t1, t2, t3, t4, t5⟩ := turn .ready none (LI s') w' hst'
        refine ⟨true, _, rfl, t1, t2, ?_⟩
        rw [if_pos rfl]
        exact foot_loopX s' hI' hst'.distinct t3 t4 (by rw [hrr] at t5 ⊢; exact t5)
      · intro j s' w' hE' hst'
        obtain ⟨t1, t2, t3, t4, t5⟩ := turn .done (some j) (LE s') w' hst'
        refine ⟨false, _, rfl, t1, t2, ?_⟩
        rw [if_neg (by simp)]
        exact fun w'' hw'' => ⟨j, foot_loopX s' hE' hst'.distinct t3 t4 t5 w'' hw''⟩
end
theorem iterB_of_HC {ι : Type} {P : Program} {f : FuncId} {fn : Func} {code : Code} {caps : List Value} {Rl : List (Nat × Obj)} {p0 : ι} {nx : ι → List Value → List (Nat × Obj) → ι → Prop} {fin : ι → Prop} (hf : P.funcs[f]? = some fn) (hb : fn.body = some code) (hlen : Nat.ble (caps.length + 1) fn.ntmps = true)
    (h : ∀ (q : Nat) (xids : List Nat) (w2 : World) (XI : ι → XP) (XF : XP),
      (∀ i v B i', nx i v B i' → ∀ xs w, (∀ k ∈ xs, k < w.heap.size ∧ (k ∈ xids ∨ w2.heap.size ≤ k)) → Keep ([] ++ xids) w2 w → Foot xs (XI i) w → Has B w → (∀ p ∈ B, p.1 ∉ xs ∧ p.1 ∉ xids) → YS P q v.toArray xs w (XI i') XF) →
      HC ⟨P, none, w2, [], xids, Rl, fn.ntmps⟩ [] (frame0 0 (.func (.yield q) #[] #[] :: caps)) [] (XI p0) code
        (bodyPostM (FW none) 0 P fn (fun e w' => (∃ v, e = .returned v) ∧ Keep ([] ++ xids) w2 w' ∧ ((∃ i xs, fin i ∧ XI i xs w') ∨ ∃ xs, XF xs w')))) : IterB P f caps Rl p0 nx fin :=
  fun q xids w2 XI XF hR hlt h0 hY =>
    calls_of_HC ⟨P, none, w2, [], xids, Rl, fn.ntmps⟩ hf hb rfl rfl rfl hlen
      ⟨Keep.refl _ _, by simp, by simp, fun p hp => ⟨by simp, (hR p hp).1, (hR p hp).2⟩, hlt, xids, fun k hk => ⟨.inl hk, hlt k hk, by simp⟩, h0⟩ (h q xids w2 XI XF hY)
section
variable {c : Cx} {d : List Deferred} {l : List (Nat × Value)} {E : List (Nat × Obj)} {X : XP} {S : List (Nat × Obj)} {ops : Array Oper} {tb : Kbs} {rest : List Nat} {T : List (Nat × Obj) → Act → Prop} {k i : Nat}
theorem HB_callRE {α : Type} {x0 : α} {V : α → Value} {LL : α → List (Nat × Obj)} {Rl : List (Nat × Obj)} {f : Operand} {args : Array Operand} {at_ : Array TypeId} {g : FuncId} {vs : List Value} {ty : TypeId} {ps : String} {af : Array Edge} {gd : Option (Nat × Bool)}
    (hk : nth ops.toList k = some ⟨some i, .call ⟨.value f, args, at_⟩, ty, ps, af, gd⟩) (hg : goes l ops ⟨some i, .call ⟨.value f, args, at_⟩, ty, ps, af, gd⟩ = some true) (hi : Nat.ble (i + 1) c.n = true) (hA : tb k = .grow (geCall x0 V LL)) (hca : callArgs l f args = some (g, vs)) (eg : Enters c.P g)
    (hp : PureT c.P g vs.toArray V [] LL Rl) (hR : ∀ p ∈ Rl, p ∈ S ∨ p ∈ c.R) (h : ∀ x, HB c d ((i, V x) :: l) (LL x ++ E) X S ops tb rest T) : HB c d l E X S ops tb (k :: rest) T :=
  HB_grow (e := geCall x0 V LL) hk hg rfl hi hA (fun E' hE a w hf hs => act_call hf hca eg ((hp.run w (fun p hp => by cases hp) (fun p hp => (hR p hp).elim (fun h => (hs.own _ (hE p h)).2.2) hs.readR) List.Pairwise.nil (fun p _ q hq => by cases hq)).mono fun _ _ ⟨x, he, hk, h1, h2⟩ => ⟨V x, he, x, rfl, hk, (fun p hp => ⟨((h1 p hp).1).elim (fun h => by cases h) id, (h1 p hp).2⟩), h2⟩)) h
end
end Go.SL
/-! ### Results that grow from round to round -/
namespace Go.SL
set_option linter.all false
open Go Go.RowKit Go.Shelf
open Go.Proofs (Enters enters_of)
theorem HC_perm {c : Cx} {d : List Deferred} {l : List (Nat × Value)} {L L' : List (Nat × Obj)} {X : XP} {code : Code} {Q : Exit → Act → World → Prop} (hp : L.Perm L') (h : HC c d l L' X code Q) : HC c d l L X code Q := fun a w hf hs => h a w hf (hs.perm hp)
theorem perm_mid {α : Type} (A B C : List α) : (A ++ (B ++ C)).Perm (B ++ (A ++ C)) := by
  rw [← List.append_assoc, ← List.append_assoc]
  exact List.perm_append_comm.append_right C
/-- An account and the blocks that it may lie in. -/
structure AcSt (R : List (Nat × Obj)) : Type where
  a : AcL
  L : List (Nat × Obj)
  ok : a.In (L ++ R)
structure StSt (R : List (Nat × Obj)) : Type where
  s : StL
  L : List (Nat × Obj)
  ok : s.In (L ++ R)
def AcSt.next {R : List (Nat × Obj)} (s : AcSt R) {e : AcE × Int} (x : AcRes (s.L ++ R) e) : AcSt R := ⟨x.a, x.L ++ s.L, by rw [List.append_assoc]; exact x.ok⟩
def StSt.next {R : List (Nat × Obj)} (s : StSt R) {L' : List (Nat × Obj)} {e : List AcE × Int} (x : StRes (L' ++ (s.L ++ R)) e) : StSt R := ⟨x.s, x.L ++ (L' ++ s.L), by rw [List.append_assoc, List.append_assoc]; exact x.ok⟩
theorem map_drop {α : Type} (f : Nat → α) {i : Nat} (h : i < 7) : (tab.map f).drop i = f i :: (tab.map f).drop (i + 1) := by
  have : i = 0 ∨ i = 1 ∨ i = 2 ∨ i = 3 ∨ i = 4 ∨ i = 5 ∨ i = 6 := by omega
  rcases this with rfl | rfl | rfl | rfl | rfl | rfl | rfl <;> rfl
end Go.SL
/-! ### Roots of chunks, in plain Lean -/
namespace Go.SL
set_option linter.all false
def z32 : List UInt8 := List.replicate 32 0
/-- Two and two. -/
def pairUp : List (List UInt8) → List (List UInt8)
  | a :: b :: l => kec (a ++ b) :: pairUp l
  | _ => []
def padOdd (l : List (List UInt8)) (z : List UInt8) : List (List UInt8) := if l.length % 2 = 1 then l ++ [z] else l
def treeP : Nat → List (List UInt8) → List UInt8 → List UInt8
  | 0, l, z => l.headD z
  | k + 1, l, z => treeP k (pairUp (padOdd l z)) (kec (z ++ z))
def treeR : Nat → List (List UInt8) → List UInt8
  | 0, l => l.headD []
  | k + 1, l => treeR k (pairUp l)
theorem pairUp_len : ∀ l : List (List UInt8), (pairUp l).length = l.length / 2
  | [] => by simp [pairUp]
  | [_] => by simp [pairUp]
  | a :: b :: l => by rw [pairUp, List.length_cons, pairUp_len l, List.length_cons, List.length_cons]; omega
theorem pairUp_app : ∀ {l m : List (List UInt8)}, l.length % 2 = 0 → pairUp (l ++ m) = pairUp l ++ pairUp m
  | [], m, _ => rfl
  | [_], _, h => by simp at h
  | a :: b :: l, m, h => by
    have h2 : l.length % 2 = 0 := by simp only [List.length_cons] at h; omega
    rw [List.cons_append, List.cons_append, pairUp, pairUp, pairUp_app h2, List.cons_append]
theorem pairUp_rep (z : List UInt8) : ∀ m : Nat, pairUp (List.replicate (2 * m) z) = List.replicate m (kec (z ++ z))
  | 0 => rfl
  | m + 1 => by rw [show 2 * (m + 1) = 2 * m + 1 + 1 by omega, List.replicate_succ, List.replicate_succ, pairUp, pairUp_rep z m, List.replicate_succ]
theorem padOdd_len (l : List (List UInt8)) (z : List UInt8) : (padOdd l z).length = l.length + l.length % 2 := by
  unfold padOdd
  split
  · rename_i h; rw [List.length_append, h]; rfl
  · omega
theorem padOdd_pad {l : List (List UInt8)} {z : List UInt8} {n : Nat} (h : l.length ≤ 2 * n) : padOdd l z ++ List.replicate (2 * n - (padOdd l z).length) z = l ++ List.replicate (2 * n - l.length) z := by
  rw [padOdd_len]
  unfold padOdd
  split
  · rename_i h1
    rw [List.append_assoc, h1]
    congr 1
    rw [show 2 * n - l.length = (2 * n - (l.length + 1)) + 1 by omega, List.replicate_succ]; rfl
  · rename_i h1
    rw [show l.length % 2 = 0 by omega]; rfl
theorem treeP_R : ∀ (k : Nat) {l : List (List UInt8)} (z : List UInt8), l.length ≤ 2 ^ k → treeP k l z = treeR k (l ++ List.replicate (2 ^ k - l.length) z)
  | 0, [], z, _ => rfl
  | 0, [a], z, _ => rfl
  | 0, _ :: _ :: _, z, h => by simp at h
  | k + 1, l, z, h => by
    rw [Nat.pow_succ, Nat.mul_comm] at h
    have h2 := padOdd_len l z
    have hp : (padOdd l z).length % 2 = 0 := by rw [h2]; omega
    rw [treeP, treeR, Nat.pow_succ, Nat.mul_comm, ← padOdd_pad h, pairUp_app hp, show 2 * 2 ^ k - (padOdd l z).length = 2 * (2 ^ k - (padOdd l z).length / 2) by omega, pairUp_rep]
    rw [treeP_R k (kec (z ++ z)) (by rw [pairUp_len]; omega), pairUp_len]
theorem pairUp_mem (l : List (List UInt8)) : ∀ x ∈ pairUp l, x.length = 32 := by
  induction l using pairUp.induct with
  | case1 a b l ih =>
    intro x hx
    rw [pairUp] at hx
    rcases List.mem_cons.1 hx with hx | hx
    · rw [hx]; exact kec_len _
    · exact ih x hx
  | case2 l h =>
    intro x hx
    rw [pairUp.eq_2 l h] at hx
    cases hx
theorem treeR_len (k : Nat) : ∀ {l : List (List UInt8)}, l.length = 2 ^ k → (∀ x ∈ l, x.length = 32) → (treeR k l).length = 32 := by
  induction k with
  | zero =>
    intro l h1 h2
    match l, h1 with
    | [a], _ => exact h2 a List.mem_cons_self
  | succ k ih =>
    intro l h1 _
    rw [Nat.pow_succ, Nat.mul_comm] at h1
    rw [treeR]
    exact ih (by rw [pairUp_len, h1]; omega) (pairUp_mem l)
/-- How often two and two are summed. -/
def lg (m : Nat) : Nat := if m ≤ 1 then 0 else Nat.log2 (m - 1) + 1
theorem lg_up (m : Nat) : m ≤ 2 ^ lg m := by
  unfold lg
  split
  · simpa using ‹m ≤ 1›
  · have := @Nat.lt_log2_self (m - 1)
    omega
theorem lg_lo {m j : Nat} (h : j < lg m) : 2 ^ j < m := by
  unfold lg at h
  split at h
  · cases h
  · have h1 : 2 ^ j ≤ 2 ^ Nat.log2 (m - 1) := Nat.pow_le_pow_right (by decide) (by omega)
    have h2 := Nat.log2_self_le (n := m - 1) (by omega)
    omega
theorem lg_le {m d : Nat} (h : m ≤ 2 ^ d) : lg m ≤ d := by
  rcases Nat.lt_or_ge d (lg m) with h1 | h1
  · have := lg_lo h1; omega
  · exact h1
def padC (n : Nat) (l : List (List UInt8)) : List (List UInt8) := l ++ List.replicate (n - l.length) z32
def rootC (l : List (List UInt8)) (m : Nat) : List UInt8 := treeR (lg m) (padC (2 ^ lg m) l)
theorem rootC_P {l : List (List UInt8)} {m : Nat} (h : l.length ≤ m) : treeP (lg m) l z32 = rootC l m := treeP_R _ _ (Nat.le_trans h (lg_up m))
theorem padC_len {n : Nat} {l : List (List UInt8)} (h : l.length ≤ n) : (padC n l).length = n := by
  unfold padC; rw [List.length_append, List.length_replicate]; omega
theorem padC_mem {n : Nat} {l : List (List UInt8)} (h : ∀ x ∈ l, x.length = 32) : ∀ x ∈ padC n l, x.length = 32 := by
  intro x hx
  rcases List.mem_append.1 hx with hx | hx
  · exact h x hx
  · rw [(List.mem_replicate.1 hx).2]; rfl
theorem rootC_len {l : List (List UInt8)} {m : Nat} (h : l.length ≤ m) (h2 : ∀ x ∈ l, x.length = 32) : (rootC l m).length = 32 := treeR_len _ (padC_len (Nat.le_trans h (lg_up m))) (padC_mem h2)
end Go.SL
namespace Go.Proofs.YtlcbfphioeppaaaGreatDoor
set_option linter.all false
open Go.SL Go.RowKit Go.Shelf
/-! ### chunks: full, pairs, Clone -/
abbrev pt0 (r : Nat) : Value := .pointer (some ⟨r, 0, none⟩)
def chC (l : List BS) : List Value := l.map strV
theorem chC_len (l : List BS) : (chC l).length = l.length := by unfold chC; rw [List.length_map]
theorem chC_get {l : List BS} {i : Nat} {s : BS} (h : l[i]? = some s) : (chC l)[i]? = some (strV s) := by unfold chC; rw [List.getElem?_map, h]; rfl
theorem chC_one (l : List BS) : (chC l).all oneB = true := by
  rw [List.all_eq_true]; intro x hx
  obtain ⟨b, _, rfl⟩ := List.mem_map.1 hx
  rfl
theorem rowV_cells (n : Nat) (row : Row) : (rowV n row).cells = #[rowV n row] := by cases row <;> rfl
theorem rowV_one1 (n : Nat) (row : Row) : oneB (rowV n row) = true := by cases row <;> rfl
set_option maxRecDepth 10000 in
theorem P_full {s : BS} (h : s.length ≤ 32) : Pure Tryz.prog 57 [strV s].toArray (strV (padZ s)) := by
  unfold padZ
  refine pure_of_HC Tryz.func57 rfl rfl fun w => ?_; refine HC_seq fun K1 hK1 => ?_; refine HC_region ?_; refine HL_r rfl rfl rfl rfl (R_assign rfl) ?_; refine HL_nil ?_; refine HQ_then ?_; refine hK1 _ _ _ _ ?_; clear hK1 K1; refine HC_seq fun K2 hK2 => ?_; refine HC_region ?_; refine HL_r rfl rfl rfl rfl (R_move rfl) ?_; refine HL_r rfl rfl rfl rfl (R_move rfl) ?_; refine HL_r rfl rfl rfl rfl (R_lenBs rfl rfl) ?_
  refine HL_r rfl rfl rfl rfl (R_pure rfl rfl rfl) ?_; refine HL_as (show _ = Value.int .i64 ((32 - s.length : Nat) : Int) from by rw [wrap_i64 (by omega) (by omega)]; congr 1 <;> omega) ?_; refine HL_callP rfl rfl rfl (enters_of Tryz.func102 (by kernel_rfl) rfl) (P_Repeat0 (n := 32 - s.length) (by omega)) ?_; rw [repeat_rep]; refine HL_r rfl rfl rfl rfl (R_concat (a := s) (b := List.replicate (32 - s.length) 0) rfl rfl (by rw [List.length_replicate]; omega)) ?_; refine HL_r rfl rfl rfl rfl (R_assign rfl) ?_; refine HL_nil ?_; refine HQ_then ?_; refine hK2 _ _ _ _ ?_; clear hK2 K2; refine HC_ret ?_; refine HQ_post rfl rfl (.cons (res_tmp rfl) .nil) (fun w1 hs1 => ?_); exact ⟨rfl, hs1.keep⟩
set_option maxRecDepth 10000 in
theorem S_cloneC {R : List (Nat × Obj)} {l : List BS} {p : Pl} (hl : l.length ≤ 100000) (hs : Seg R l.length (chC l) p) :
    PureT (α := { row : Row // rowOk 1 l.length (chC l) row }) Tryz.prog 98 [plV l.length p].toArray (fun x => rowV l.length x.1) [] (fun x => rowL 9 (chC l) x.1) R := by
  cases p with
  | none =>
    have h0 : l = [] := List.length_eq_zero_iff.1 hs
    subst h0; refine pureT_of_HC Tryz.func98 rfl rfl fun w => ?_; refine HC_seq fun K1 hK1 => ?_; refine HC_region ?_; refine HL_r rfl rfl rfl rfl (R_assign rfl) ?_; refine HL_nil ?_; refine HQ_then ?_; refine hK1 _ _ _ _ ?_; clear hK1 K1; refine HC_seq fun K2 hK2 => ?_; refine HC_seq fun K3 hK3 => ?_; refine HC_region ?_; refine HL_r rfl rfl rfl rfl (R_move rfl) ?_; refine HL_r rfl rfl rfl rfl (R_pure rfl rfl rfl) ?_; refine HL_nil ?_; refine HQ_then ?_; refine hK3 _ _ _ _ ?_; clear hK3 K3; refine HC_cond rfl (fun h4 => ?_) (fun h4 => ?_)
    · try exact Bool.noConfusion h4
      try simp only [Z1, Z2, Z3, Z4, Z5, Z6, Z7, Z8, Z9, Z10, Z11, Z12, Z13] at h4
      refine HC_seq fun K5 hK5 => ?_; refine HC_region ?_; refine HL_r rfl rfl rfl rfl (R_assign rfl) ?_; refine HL_nil ?_; refine HQ_then ?_; refine hK5 _ _ _ _ ?_; clear hK5 K5; refine HC_ret ?_; refine HQ_thenR ?_; clear hK2 K2; refine HQ_post rfl rfl (.cons (res_tmp rfl) .nil) (fun w1 hs1 => ?_); exact ⟨⟨none, rfl, rfl⟩, rfl, hs1⟩
    · try exact Bool.noConfusion h4
  | some q =>
    refine pureT_of_HC Tryz.func98 rfl rfl fun w => ?_; refine HC_seq fun K1 hK1 => ?_; refine HC_region ?_; refine HL_r rfl rfl rfl rfl (R_assign rfl) ?_; refine HL_nil ?_; refine HQ_then ?_; refine hK1 _ _ _ _ ?_; clear hK1 K1; refine HC_seq fun K2 hK2 => ?_; refine HC_seq fun K3 hK3 => ?_; refine HC_region ?_; refine HL_r rfl rfl rfl rfl (R_move rfl) ?_; refine HL_r rfl rfl rfl rfl (R_pure rfl rfl rfl) ?_; refine HL_nil ?_; refine HQ_then ?_; refine hK3 _ _ _ _ ?_; clear hK3 K3; refine HC_cond rfl (fun h4 => ?_) (fun h4 => ?_)
    · try exact Bool.noConfusion h4
    · try exact Bool.noConfusion h4
      try simp only [Z1, Z2, Z3, Z4, Z5, Z6, Z7, Z8, Z9, Z10, Z11, Z12, Z13] at h4
      refine HC_skip ?_; refine HQ_then ?_; refine hK2 _ _ _ _ ?_; clear hK2 K2; refine HC_seq fun K6 hK6 => ?_; refine HC_region ?_; refine HL_buildSlice0 rfl rfl rfl rfl fun r1 => ?_; refine HL_r rfl rfl rfl rfl (R_move rfl) ?_; refine HL_clone (k := 0) (b := 16) (sz := 1) rfl rfl rfl rfl rfl rfl hs (fun q hq => Or.inr hq) rfl rfl rfl rfl rfl (by decide) (by rw [chC_len, Nat.mul_one]) (chC_one l) (by omega) (by omega) fun row hrow => ?_; refine HL_r rfl rfl rfl rfl (R_assign rfl) ?_; refine HL_nil ?_; refine HQ_then ?_; refine hK6 _ _ _ _ ?_; clear hK6 K6; refine HC_ret ?_; refine HQ_post rfl rfl (.cons (res_tmp rfl) .nil) (fun w1 hs1 => ?_); exact ⟨⟨row, hrow⟩, rfl, hs1.weakL (List.sublist_append_left _ _)⟩
set_option maxRecDepth 10000 in
theorem E_mpairs (n : Nat) (row : Row) : PureE (α := Nat) Tryz.prog 99 [rowV n row].toArray (fun r => .func (.func 175) #[] #[pt0 r]) (fun r => [(r, .cells #[rowV n row] 45 (0, 0))]) := by
  refine pureE_of_HC Tryz.func99 rfl rfl fun w => ?_; refine HC_seq fun K1 hK1 => ?_; refine HC_region ?_; refine HL_box (cs := #[rowV n row]) rfl rfl rfl (rowV_cells n row) fun r1 => ?_; refine HL_r rfl rfl rfl rfl (R_assign rfl) ?_; refine HL_nil ?_; refine HQ_then ?_; refine hK1 _ _ _ _ ?_; clear hK1 K1; refine HC_seq fun K2 hK2 => ?_; refine HC_region ?_; refine HL_r rfl rfl rfl rfl (R_makeFunc rfl rfl) ?_; refine HL_r rfl rfl rfl rfl (R_assign rfl) ?_; refine HL_nil ?_; refine HQ_then ?_; refine hK2 _ _ _ _ ?_; clear hK2 K2; refine HC_ret ?_; refine HQ_post rfl rfl (.cons (res_tmp rfl) .nil) (fun w1 hs1 => ?_); exact ⟨r1, rfl, hs1⟩
def pairN (l : List BS) : Nat → List Value → List (Nat × Obj) → Nat → Prop := fun i v B i' => 2 * i + 1 < l.length ∧ i' = i + 1 ∧ v = [strV (l.getD (2 * i) []), strV (l.getD (2 * i + 1) [])] ∧ B = []
theorem pairN_len {l : List BS} : ∀ i v B i', pairN l i v B i' → v.length = 2 := by rintro _ _ _ _ ⟨_, _, rfl, _⟩; rfl
theorem getD_get {l : List BS} {i : Nat} (h : i < l.length) : l[i]? = some (l.getD i []) := by rw [List.getD_eq_getElem?_getD, List.getElem?_eq_getElem h]; rfl
set_option maxRecDepth 10000 in
theorem I_mpairs {l : List BS} {row : Row} (hl : l.length ≤ 1000000) (hrow : rowOk 1 l.length (chC l) row) (r : Nat) :
    IterB Tryz.prog 175 [pt0 r] ((r, .cells #[rowV l.length row] 45 (0, 0)) :: rowL 9 (chC l) row) 0 (pairN l) (fun i => ¬ 2 * i + 1 < l.length) := by
  have hs : Seg ((r, .cells #[plV l.length (rowP row)] 45 (0, 0)) :: rowL 9 (chC l) row) l.length (chC l) (rowP row) := (rowP_seg hrow (by decide)).mono fun q hq => List.mem_cons_of_mem _ hq
  rw [← rowP_V _ _ hrow.zero]; refine iterB_of_HC Tryz.func175 rfl rfl fun q xids w2 XI XF hY => ?_; refine HC_seq fun K1 hK1 => ?_; refine HC_region ?_; refine HL_r rfl rfl rfl rfl (R_assign rfl) ?_; refine HL_nil ?_; refine HQ_then ?_; refine hK1 _ _ _ _ ?_; clear hK1 K1; refine HC_block ?_; refine HC_loop (σ := Nat) (fun i => 2 * i ≤ l.length + 1) (fun i => [(0, .func (.yield q) #[] #[]), (1, pt0 r), (3, .int .i64 ((2 * i : Nat) : Int))]) (fun _ => []) (fun i => XI i) (fun i => l.length + 1 - 2 * i) 0 (by omega) (.cons rfl (.cons rfl (.cons rfl .nil))) (List.Sublist.refl _) (fun _ _ h => h) ?_; intro i hi1; refine HC_seq fun K2 hK2 => ?_; refine HC_seq fun K3 hK3 => ?_; refine HC_region ?_; refine HL_r rfl rfl rfl rfl (R_move rfl) ?_
  refine HL_r rfl rfl rfl rfl (R_pure rfl rfl rfl) ?_; refine HL_as (show _ = Value.int .i64 ((2 * i + 1 : Nat) : Int) from by rw [wrap_i64 (by omega) (by omega)]; congr 1 <;> omega) ?_; refine HL_r rfl rfl rfl rfl (R_load rfl (known_R (k := 0) rfl) rfl rfl) ?_; refine HL_r rfl rfl rfl rfl (R_lenPl rfl hs rfl) ?_; refine HL_r rfl rfl rfl rfl (R_pure rfl rfl rfl) ?_; refine HL_nil ?_; refine HQ_then ?_; refine hK3 _ _ _ _ ?_; clear hK3 K3; refine HC_cond rfl (fun h4 => ?_) (fun h4 => ?_)
  · try exact Bool.noConfusion h4
    try simp only [Z1, Z2, Z3, Z4, Z5, Z6, Z7, Z8, Z9, Z10, Z11, Z12, Z13] at h4
    refine HC_skip ?_; refine HQ_then ?_; refine hK2 _ _ _ _ ?_; clear hK2 K2; refine HC_seq fun K5 hK5 => ?_; refine HC_block ?_; refine HC_seq fun K6 hK6 => ?_; refine HC_draw 10 (by kernel_rfl) (by kernel_rfl) ?_; refine HD_r rfl rfl rfl (R_move rfl) ?_; refine HD_r rfl rfl rfl (R_load rfl (known_R (k := 0) rfl) rfl rfl) ?_; refine HD_r rfl rfl rfl (R_move rfl) ?_
    refine HD_r rfl rfl rfl (R_indexPl (j := (2 * i)) rfl hs rfl rfl rfl (by first | rfl | omega) (by omega)) ?_; refine HD_r rfl rfl rfl (R_loadPl1 (fun q hq => Or.inr hq) rfl hs (by omega) rfl (chC_get (getD_get (i := 2 * i) (by omega)))) ?_; refine HD_r rfl rfl rfl (R_load rfl (known_R (k := 0) rfl) rfl rfl) ?_; refine HD_r rfl rfl rfl (R_move rfl) ?_
    refine HD_r rfl rfl rfl (R_pure rfl rfl rfl) ?_; refine HD_as (show _ = Value.int .i64 ((2 * i + 1 : Nat) : Int) from by rw [wrap_i64 (by omega) (by omega)]; congr 1 <;> omega) ?_
    refine HD_r rfl rfl rfl (R_indexPl (j := (2 * i + 1)) rfl hs rfl rfl rfl (by first | rfl | omega) (by omega)) ?_; refine HD_r rfl rfl rfl (R_loadPl1 (fun q hq => Or.inr hq) rfl hs (by omega) rfl (chC_get (getD_get (i := 2 * i + 1) (by omega)))) ?_; refine HD_end ?_; refine HL_yieldB (B := []) (XT := XI (i + 1)) (XF := XF) rfl rfl rfl rfl (hY i [strV (l.getD (2 * i) []), strV (l.getD (2 * i + 1) [])] [] (i + 1) ⟨by omega, rfl, rfl, rfl⟩) (fun q hq => nomatch hq) ?_ ?_
    all_goals refine HL_r rfl rfl rfl rfl (R_pure rfl rfl rfl) ?_
    all_goals refine HL_nil ?_
    all_goals (
     refine HQ_then ?_; refine hK6 _ _ _ _ ?_; clear hK6 K6; refine HC_cond rfl (fun h7 => ?_) (fun h7 => ?_)
     · try exact Bool.noConfusion h7
       all_goals try simp only [Z1, Z2, Z3, Z4, Z5, Z6, Z7, Z8, Z9, Z10, Z11, Z12, Z13] at h7
       all_goals (
        refine HC_ret ?_; refine HQ_blockR ?_; refine HQ_thenR ?_; clear hK5 K5; refine HQ_thenR ?_; refine HQ_blockR ?_; refine HQ_post rfl rfl .nil (fun w1 hs1 => ?_)
        obtain ⟨xs1, hx1⟩ := hs1.now
        exact ⟨⟨_, rfl⟩, hs1.keep, .inr ⟨_, hx1⟩⟩
        skip)
     · try exact Bool.noConfusion h7
       all_goals try simp only [Z1, Z2, Z3, Z4, Z5, Z6, Z7, Z8, Z9, Z10, Z11, Z12, Z13] at h7
       all_goals (
        refine HC_skip ?_; refine HQ_blockN ?_; refine HQ_then ?_; refine hK5 _ _ _ _ ?_; clear hK5 K5; refine HC_region ?_; refine HL_r rfl rfl rfl rfl (R_move rfl) ?_
        refine HL_r rfl rfl rfl rfl (R_pure rfl rfl rfl) ?_; refine HL_as (show _ = Value.int .i64 ((2 * (i + 1) : Nat) : Int) from by rw [wrap_i64 (by omega) (by omega)]; congr 1 <;> omega) ?_; refine HL_r rfl rfl rfl rfl (R_assign rfl) ?_; refine HL_nil ?_; refine HQ_then ?_; exact HQ_again (i + 1) (by omega) (by omega) (.cons rfl (.cons rfl (.cons rfl .nil))) (List.Sublist.refl _) (fun _ _ h => h)
        skip)
     skip)
  · try exact Bool.noConfusion h4
    try simp only [Z1, Z2, Z3, Z4, Z5, Z6, Z7, Z8, Z9, Z10, Z11, Z12, Z13] at h4
    refine HC_exit ?_; refine HQ_thenE ?_; clear hK2 K2; refine HQ_thenE ?_; refine HQ_blockE ?_; refine HQ_postN rfl rfl .nil (fun w1 hs1 => ?_)
    obtain ⟨xs1, hx1⟩ := hs1.now
    exact ⟨⟨_, rfl⟩, hs1.keep, .inl ⟨i, _, by omega, hx1⟩⟩
end Go.Proofs.YtlcbfphioeppaaaGreatDoor
/-! ### Loops in which loops over functions stand: each one leaves a mark -/
namespace Go.SL
set_option linter.all false
open Go Go.RowKit Go.Shelf
open Go.Proofs (Enters enters_of)
section
variable {c : Cx} {l : List (Nat × Value)} {L : List (Nat × Obj)} {X : XP} {Q : Exit → Act → World → Prop} {d : List Deferred}
theorem HC_subL {L' : List (Nat × Obj)} {code : Code} (hL : L'.Sublist L) (h : HC c d l L' X code Q) : HC c d l L X code Q := fun a w hf hs => h a w hf (hs.weakL hL)
theorem HQ_subL {L' : List (Nat × Obj)} {K : Act → World → Prop} (hL : L'.Sublist L) (h : HQ c d l L' X K) : HQ c d l L X K := fun a w hf hs => h a w hf (hs.weakL hL)
def AgainD {σ : Type} (c : Cx) (DD : σ → List Deferred) (I : σ → Prop) (lI : σ → List (Nat × Value)) (LI : σ → List (Nat × Obj)) (XI : σ → XP) (μ : σ → Nat) (s : σ) : Act → World → Prop := fun a w =>
  ∃ s', I s' ∧ μ s' < μ s ∧ Fr c.n (DD s') (lI s') a ∧ St c (LI s') (XI s') w
theorem HC_loopD {σ : Type} {body : Code} (DD : σ → List Deferred) (I : σ → Prop) (lI : σ → List (Nat × Value)) (LI : σ → List (Nat × Obj)) (XI : σ → XP) (μ : σ → Nat) (s0 : σ) (hd : DD s0 = d) (h0 : I s0) (hl : LookAll l (lI s0)) (hL : (LI s0).Sublist L) (hX : ∀ xs w, X xs w → XI s0 xs w)
    (hr : ∀ s, I s → HC c (DD s) (lI s) (LI s) (XI s) body (Exit.then (AgainD c DD I lI LI XI μ s) Q)) : HC c d l L X (.loop body) Q := fun a w hf hs => by
  have least : ∀ p : Nat → Prop, (∃ m, p m) → ∃ m, p m ∧ ∀ k, p k → m ≤ k := by
    intro p ⟨m, hm⟩
    induction m using Nat.strongRecOn with
    | _ m ih =>
      by_cases hx : ∃ k, k < m ∧ p k
      · obtain ⟨k, hk, hp⟩ := hx; exact ih k hk hp
      · exact ⟨m, hm, fun k hp => Nat.le_of_not_lt fun hlt => hx ⟨k, hlt, hp⟩⟩
  let p : Act → World → Nat → Prop := fun a w m => ∃ s, I s ∧ Fr c.n (DD s) (lI s) a ∧ St c (LI s) (XI s) w ∧ μ s = m
  have meas : ∃ f : Act → World → Nat, ∀ a w, (∃ m, p a w m) → p a w (f a w) ∧ ∀ k, p a w k → f a w ≤ k := by
    have h1 : ∀ a w, ∃ m, (∃ m, p a w m) → p a w m ∧ ∀ k, p a w k → m ≤ k := fun a w => by
      by_cases hx : ∃ m, p a w m
      · obtain ⟨m, hm⟩ := least _ hx; exact ⟨m, fun _ => hm⟩
      · exact ⟨0, fun hy => absurd hy hx⟩
    exact ⟨fun a w => Classical.choose (h1 a w), fun a w => Classical.choose_spec (h1 a w)⟩
  obtain ⟨f, hfm⟩ := meas
  refine wpIn_loop (fun a w => ∃ m, p a w m) f ⟨μ s0, s0, h0, hd ▸ hf.weak hl.get, (hs.weakL hL).weakX hX, rfl⟩ ?_
  intro a w hp
  obtain ⟨⟨s, h1, h2, h3, h4⟩, _⟩ := hfm a w hp
  refine wpIn_mono (hr s h1 a w h2 h3) ?_
  intro e a' w' hq
  cases e with
  | normal =>
    obtain ⟨s', g1, g2, g3, g4⟩ := hq
    have hp' : p a' w' (μ s') := ⟨s', g1, g3, g4, rfl⟩
    refine ⟨⟨_, hp'⟩, ?_⟩
    have := (hfm a' w' ⟨_, hp'⟩).2 _ hp'
    omega
  | _ => exact hq
theorem HQ_againD {σ : Type} {DD : σ → List Deferred} {I : σ → Prop} {lI : σ → List (Nat × Value)} {LI : σ → List (Nat × Obj)} {XI : σ → XP} {μ : σ → Nat} {s : σ} (s' : σ) (hd : DD s' = d) (h1 : I s') (h2 : μ s' < μ s) (h3 : LookAll l (lI s')) (h4 : (LI s').Sublist L) (h5 : ∀ xs w, X xs w → XI s' xs w) :
    HQ c d l L X (AgainD c DD I lI LI XI μ s) := fun _ _ hf hs => ⟨s', h1, h2, hd ▸ hf.weak h3.get, (hs.weakL h4).weakX h5⟩
def marksL (Ds : List Nat) : List (Nat × Obj) := Ds.map fun D => (D, .deferred (some []))
theorem HQ_marks {fn : Func} {R : Ending → World → Prop} {P : Program} : ∀ (Ds : List Nat) (h : HQ c d l L X (bodyPostM (FW none) 0 P fn R .ret)), HQ c (Ds.map markOf ++ d) l (marksL Ds ++ L) X (bodyPostM (FW none) 0 P fn R .ret)
  | [], h => h
  | D :: Ds, h => HQ_mark (k := 0) rfl rfl (HQ_subL (List.sublist_cons_self _ _) (HQ_marks Ds h))
end
end Go.SL
namespace Go.Proofs.YtlcbfphioeppaaaGreatDoor
set_option linter.all false
open Go.SL Go.RowKit Go.Shelf
/-! ### tree -/
theorem pow_lg {k m : Nat} : 2 ^ k < m ↔ k < lg m := by
  constructor
  · intro h
    rcases Nat.lt_or_ge k (lg m) with h1 | h1
    · exact h1
    · have h2 := lg_up m
      have h3 : 2 ^ lg m ≤ 2 ^ k := Nat.pow_le_pow_right (by decide) h1
      omega
  · exact lg_lo
theorem pair_take (l : List BS) : ∀ {i : Nat}, 2 * i + 1 < l.length → (SL.pairUp l).take (i + 1) = (SL.pairUp l).take i ++ [kec (l.getD (2 * i) [] ++ l.getD (2 * i + 1) [])] := by
  induction l using SL.pairUp.induct with
  | case1 a b l ih =>
    intro i hi
    cases i with
    | zero => rw [SL.pairUp]; rfl
    | succ i =>
      rw [SL.pairUp, List.take_succ_cons, List.take_succ_cons, ih (by simp only [List.length_cons] at hi; omega), show 2 * (i + 1) = 2 * i + 1 + 1 by omega, show 2 * i + 1 + 1 + 1 = 2 * i + 1 + 1 + 1 by rfl]
      rfl
  | case2 l h =>
    intro i hi
    match l, h with
    | [], _ => simp at hi
    | [a], _ => simp at hi
    | a :: b :: l, h => exact absurd rfl (h a b l)
theorem padOdd_even (l : List BS) (z : BS) : (padOdd l z).length % 2 = 0 := by rw [padOdd_len]; omega
theorem padOdd_mem {l : List BS} {z : BS} (h : ∀ x ∈ l, x.length = 32) (hz : z.length = 32) : ∀ x ∈ padOdd l z, x.length = 32 := by
  intro x hx
  unfold padOdd at hx
  split at hx
  · rcases List.mem_append.1 hx with hx | hx
    · exact h x hx
    · rw [List.mem_singleton.1 hx]; exact hz
  · exact h x hx
theorem getD_len {l : List BS} (h : ∀ x ∈ l, x.length = 32) {i : Nat} (hi : i < l.length) : (l.getD i []).length = 32 := h _ (List.mem_of_getElem? (getD_get hi))
theorem wrap_two {n : Nat} (h : n ≤ 65536) : IntKind.i64.wrap ((n : Int) * 2) = ((n * 2 : Nat) : Int) := by
  rw [wrap_i64 (by omega) (by omega)]; omega
/-- Where the loop of tree stands. -/
structure TreeI (l0 : List BS) (m : Nat) (k : Nat) (ls : List BS) (row : Row) (z : BS) : Prop where
  le : k ≤ lg m
  ok : rowOk 1 ls.length (chC ls) row
  eq : treeP (lg m - k) ls z = rootC l0 m
  len : ls.length ≤ 2 ^ (lg m - k)
  mem : ∀ x ∈ ls, x.length = 32
  zl : z.length = 32
set_option maxHeartbeats 1000000 in
set_option maxRecDepth 10000 in
theorem S_mtree {R : List (Nat × Obj)} {l : List BS} {p : Pl} {m : Nat} (hl : l.length ≤ m) (hm2 : m ≤ 65536) (hs : Seg R l.length (chC l) p) (h32 : ∀ s ∈ l, s.length = 32) :
    PureR Tryz.prog 54 [plV l.length p, .int .i64 (m : Int)].toArray (strV (rootC l m)) R := by
  have hlg : lg m ≤ 16 := lg_le (by simpa using hm2)
  have h0 := rootC_P hl
  refine pureR_of_HC Tryz.func54 rfl rfl fun w => ?_; refine HC_seq fun K1 hK1 => ?_; refine HC_region ?_; refine HL_r rfl rfl rfl rfl (R_assign rfl) ?_; refine HL_nil ?_; refine HQ_then ?_; refine hK1 _ _ _ _ ?_; clear hK1 K1; refine HC_seq fun K2 hK2 => ?_; refine HC_region ?_; refine HL_r rfl rfl rfl rfl (R_move rfl) ?_; refine HL_callRE rfl rfl rfl (enters_of Tryz.func98 (by kernel_rfl) rfl) (S_cloneC (by omega) hs) (fun q hq => Or.inr hq) fun x => ?_
  obtain ⟨row, hrow⟩ := x
  refine HL_perm (List.perm_append_comm (l₂ := [])) ?_; change HL _ _ ((11, rowV l.length row) :: _) (rowL 9 (chC l) row) _ _ _ _; refine HL_r rfl rfl rfl rfl (R_assign rfl) ?_; refine HL_nil ?_; refine HQ_then ?_; refine hK2 _ _ _ _ ?_; clear hK2 K2; refine HC_seq fun K3 hK3 => ?_; refine HC_region ?_; refine HL_callP rfl rfl rfl (enters_of Tryz.func57 (by kernel_rfl) rfl) (P_full (s := []) (by decide)) ?_; refine HL_as (show _ = strV z32 from rfl) ?_; refine HL_r rfl rfl rfl rfl (R_assign rfl) ?_; refine HL_nil ?_; refine HQ_then ?_; refine hK3 _ _ _ _ ?_; clear hK3 K3; refine HC_seq fun K4 hK4 => ?_; refine HC_seq fun K5 hK5 => ?_; refine HC_region ?_; refine HL_r rfl rfl rfl rfl (R_assign rfl) ?_; refine HL_nil ?_; refine HQ_then ?_; refine hK5 _ _ _ _ ?_; clear hK5 K5; refine HC_block ?_; refine HC_loopD (σ := Nat × List BS × Row × BS × List Nat) (fun q => q.2.2.2.2.map markOf ++ []) (fun q => TreeI l m q.1 q.2.1 q.2.2.1 q.2.2.2.1) (fun q => [(0, rowV q.2.1.length q.2.2.1), (1, .int .i64 (m : Int)), (5, strV q.2.2.2.1), (6, .int .i64 ((2 ^ q.1 : Nat) : Int))]) (fun q => marksL q.2.2.2.2 ++ rowL 9 (chC q.2.1) q.2.2.1) (fun _ _ _ => True) (fun q => lg m - q.1) (0, l, row, z32, []) rfl ⟨Nat.zero_le _, hrow, h0, Nat.le_trans hl (lg_up m), h32, rfl⟩ (.cons rfl (.cons rfl (.cons rfl (.cons rfl .nil)))) (List.Sublist.refl _) (fun _ _ h => h) ?_; rintro ⟨k, ls, row, z, Ds⟩ hi; simp only at hi; change HC _ (Ds.map markOf ++ []) [(0, rowV ls.length row), (1, _), (5, strV z), (6, .int .i64 ((2 ^ k : Nat) : Int))] (marksL Ds ++ rowL _ (chC ls) row) _ _ _; refine HC_seq fun K6 hK6 => ?_; refine HC_seq fun K7 hK7 => ?_; refine HC_region ?_; refine HL_r rfl rfl rfl rfl (R_move rfl) ?_; refine HL_r rfl rfl rfl rfl (R_move rfl) ?_; refine HL_r rfl rfl rfl rfl (R_pure rfl rfl rfl) ?_; refine HL_nil ?_; refine HQ_then ?_; refine hK7 _ _ _ _ ?_; clear hK7 K7; refine HC_cond rfl (fun h8 => ?_) (fun h8 => ?_)
  · try exact Bool.noConfusion h8
    try simp only [Z1, Z2, Z3, Z4, Z5, Z6, Z7, Z8, Z9, Z10, Z11, Z12, Z13] at h8
    refine HC_skip ?_; refine HQ_then ?_; refine hK6 _ _ _ _ ?_; clear hK6 K6; refine HC_seq fun K9 hK9 => ?_; refine HC_block ?_; refine HC_seq fun K10 hK10 => ?_; refine HC_seq fun K11 hK11 => ?_
    have hk : k < lg m := pow_lg.1 (by omega)
    obtain ⟨K, hK⟩ : ∃ K, lg m - k = K + 1 := ⟨lg m - k - 1, by omega⟩
    have heq := hi.eq
    have hlen := hi.len
    rw [hK, treeP] at heq; rw [hK, Nat.pow_succ] at hlen
    have hK16 : 2 ^ K ≤ 65536 := by have := Nat.pow_le_pow_right (n := 2) (i := K) (j := 16) (by decide) (by omega); simpa using this
    have hzl := hi.zl
    have hk16 : 2 ^ k ≤ 65536 := by have := Nat.pow_le_pow_right (n := 2) (i := k) (j := 16) (by decide) (by omega); simpa using this
    refine HC_region ?_; refine HL_r rfl rfl rfl rfl (R_move rfl) ?_; refine HL_r rfl rfl rfl rfl (R_lenRow rfl hi.ok.zero rfl) ?_; refine HL_r rfl rfl rfl rfl (R_pure rfl rfl rfl) ?_; refine HL_as (show _ = Value.int .i64 ((ls.length % 2 : Nat) : Int) from congrArg (Value.int .i64) (rem_nat _ 2)) ?_; refine HL_r rfl rfl rfl rfl (R_pure rfl rfl rfl) ?_; refine HL_nil ?_; refine HQ_then ?_; refine hK11 _ _ _ _ ?_; clear hK11 K11; refine HC_cond rfl (fun h12 => ?_) (fun h12 => ?_)
    · try exact Bool.noConfusion h12
      try simp only [Z1, Z2, Z3, Z4, Z5, Z6, Z7, Z8, Z9, Z10, Z11, Z12, Z13] at h12
      refine HC_region ?_; refine HL_r rfl rfl rfl rfl (R_move rfl) ?_; refine HL_r rfl rfl rfl rfl (R_move rfl) ?_; refine HL_buildSlice (vs := [_]) (zs := [_]) (r := [_]) rfl rfl rfl rfl rfl rfl rfl rfl rfl (by show (madeCells #[_] _).toList = _; rw [made_one]; exact rfl) rfl fun r1 => ?_; refine HL_appendRow (L0 := _ :: marksL Ds) (xs := chC ls) (row := row) (n := ls.length) (sz := 1) (b := 16) (news := [_]) (List.perm_append_comm (l₁ := _ :: marksL Ds)) rfl rfl rfl rfl (known_L (k := 0) rfl) rfl rfl rfl rfl rfl (by decide) rfl rfl rfl (by decide) hi.ok (by omega) (by omega) fun ra cap sp hra => ?_; refine HL_r rfl rfl rfl rfl (R_assign rfl) ?_; refine HL_nil ?_; refine HQ_then ?_; refine hK10 _ _ _ _ ?_; clear hK10 K10; refine HC_seq fun K13 hK13 => ?_
      (have e : padOdd ls z = ls ++ [z] := by unfold padOdd; rw [if_pos (by omega)]
       refine HC_perm (List.perm_append_comm (l₁ := [_])) ?_; refine HC_subL (L' := marksL Ds ++ rowL 9 (chC ls ++ [strV z]) (some (ra, cap, sp))) (.cons _ (List.Sublist.refl _)) ?_; change HC _ _ ((0, rowV (ls.length + 1) (some (ra, cap, sp))) :: _) _ _ _ _
       generalize hn2 : ls.length + 1 = n2 at hra ⊢
       generalize hc2 : chC ls ++ [strV z] = xs2 at hra ⊢
       generalize (some (ra, cap, sp) : Row) = row2 at hra ⊢
       obtain rfl : n2 = (padOdd ls z).length := by rw [e, ← hn2, List.length_append]; rfl
       obtain rfl : xs2 = chC (padOdd ls z) := by rw [e, ← hc2]; unfold chC; rw [List.map_append]; rfl)
      have hm2e := padOdd_mem hi.mem hi.zl
      have hev := padOdd_even ls z
      have hl2 := padOdd_len ls z
      obtain ⟨ls2, hls2⟩ : ∃ x, x = padOdd ls z := ⟨_, rfl⟩
      rw [← hls2] at hm2e hev hl2 hra heq ⊢
      have hl2b : ls2.length ≤ 2 ^ K * 2 := by omega
      refine HC_region ?_; refine HL_alloc (cs := #[_]) rfl rfl rfl rfl fun r1 => ?_; refine HL_nil ?_; refine HQ_then ?_; refine hK13 _ _ _ _ ?_; clear hK13 K13; refine HC_seq fun K14 hK14 => ?_; refine HC_seq fun K15 hK15 => ?_; refine HC_region ?_; refine HL_r rfl rfl rfl rfl (R_move rfl) ?_; refine HL_callPE rfl rfl rfl (enters_of Tryz.func99 (by kernel_rfl) rfl) (E_mpairs ls2.length row2) fun rb => ?_; refine HL_perm ((List.Perm.swap _ _ _).trans (List.Perm.cons _ List.perm_middle.symm)) ?_; change HL _ _ _ ((r1, .cells #[.slice none 0 0] 45 (0, 0)) :: (marksL Ds ++ ((rb, .cells #[rowV ls2.length row2] 45 (0, 0)) :: rowL 9 (chC ls2) row2))) _ _ _ _; refine HL_nil ?_; refine HQ_then ?_; refine hK15 _ _ _ _ ?_; clear hK15 K15; refine HC_block ?_; refine HC_rangeB (τ := Unit) (fun i (s : Nat × List Value × Row) => 2 * i ≤ ls2.length ∧ s.1 = i ∧ s.2.1 = chC ((SL.pairUp ls2).take i) ∧ rowOk 1 i s.2.1 s.2.2) (fun s => (r1, .cells #[rowV s.1 s.2.2] 45 (0, 0)) :: rowL 9 s.2.1 s.2.2) (fun _ _ => False) (fun _ => []) (marksL Ds ++ ((rb, .cells #[rowV ls2.length row2] 45 (0, 0)) :: rowL 9 (chC ls2) row2)) (0, [], none) rfl rfl (enters_of Tryz.func175 (by kernel_rfl) rfl) (I_mpairs (by omega) hra rb) pairN_len rfl (fun q hq => .inl (List.mem_append_right _ hq)) rfl ⟨Nat.zero_le _, rfl, rfl, rfl, rfl⟩ ?_ ?_ ?_
      · rintro q Xr Xb w3 i _ _ _ ⟨n, xs, row3⟩ ⟨hii, rfl, rfl, rfl⟩ ⟨h2i, hn, hxs, hr3⟩ Kr hKr
        simp only at hn hxs hr3; rw [← hn] at hr3; refine HC_seq fun K16 hK16 => ?_; refine HC_region ?_; refine HL_r rfl rfl rfl rfl (R_assign rfl) ?_; refine HL_nil ?_; refine HQ_then ?_; refine hK16 _ _ _ _ ?_; clear hK16 K16; refine HC_region ?_; refine HL_r rfl rfl rfl rfl (R_assign rfl) ?_; refine HL_nil ?_; refine HQ_then ?_; refine hKr _ _ ?_; clear hKr; refine HC_block ?_
        have hg1 := getD_len hm2e (i := 2 * i) (by omega)
        have hg2 := getD_len hm2e (i := 2 * i + 1) (by omega)
        have hkc := P_kec (s := ls2.getD (2 * i) [] ++ ls2.getD (2 * i + 1) []) (by rw [List.length_append]; omega)
        obtain ⟨sv, hsv⟩ : ∃ x, x = kec (ls2.getD (2 * i) [] ++ ls2.getD (2 * i + 1) []) := ⟨_, rfl⟩
        rw [← hsv] at hkc; refine HC_drawA [(r1, .cells #[rowV n row3] 45 (0, 0))] [(0, .pure), (1, .pure), (2, .pure), (3, .pure), (4, .pure), (5, .act (aeNew (slV 1) (.cells #[strV sv] 9 (0, 0))))] 6 (by kernel_rfl) (by kernel_rfl) (fun p hp => List.mem_singleton.1 hp ▸ List.mem_cons_self) ?_; refine HA_p rfl rfl rfl rfl (fun _ hS => (R_load rfl (.inl (hS _ (mem_nth (n := 0) rfl))) rfl rfl)) ?_; refine HA_p rfl rfl rfl rfl (fun _ hS => (R_move rfl)) ?_; refine HA_p rfl rfl rfl rfl (fun _ hS => (R_move rfl)) ?_; refine HA_p rfl rfl rfl rfl (fun _ hS => (R_concat (a := ls2.getD (2 * i) []) (b := ls2.getD (2 * i + 1) []) rfl rfl (by omega))) ?_; refine HA_callP rfl rfl rfl rfl (enters_of Tryz.func34 (by kernel_rfl) rfl) hkc ?_; refine HA_buildSlice (n := 1) (sz := 1) (vs := [_]) (zs := [_]) (r := [strV sv]) rfl rfl rfl rfl rfl rfl rfl rfl rfl rfl (by show (madeCells #[_] _).toList = _; rw [made_one]; exact rfl) rfl (fun p hp => List.mem_singleton.1 hp ▸ List.mem_cons_self) fun rv => ?_; refine HA_end ?_; refine HL_appendRow (L0 := [_, _]) (xs := xs) (row := row3) (n := n) (sz := 1) (b := 16) (news := [strV sv]) (List.perm_append_comm (l₁ := [_, _])) rfl rfl rfl rfl (known_L (k := 0) rfl) rfl rfl rfl rfl rfl (by decide) rfl rfl rfl (by decide) hr3 (by omega) (by omega) fun ra cap sp hra => ?_; refine HL_store (k := 2) (cs' := #[rowV (n + 1) (some (ra, cap, sp))]) rfl rfl rfl rfl rfl rfl rfl rfl rfl rfl ?_; refine HL_nil ?_; refine HQ_blockN ?_; refine HQ_sel [2, 0] (L' := [_, _]) (by decide) rfl ?_; exact HQ_round (n + 1, xs ++ [strV sv], some (ra, cap, sp)) ⟨by omega, by simp only; omega, by simp only; rw [pair_take ls2 hii, ← hsv, hxs]; unfold chC; rw [List.map_append]; rfl, by rw [← hn]; exact hra⟩ rfl
      · rintro D i ⟨n, xs, row3⟩ hfi ⟨h2i, hn, hxs, hr3⟩
        simp only at hn hxs hr3
        have hi2 : 2 * i = ls2.length := by omega
        have hpl := pairUp_len ls2
        rw [List.take_of_length_le (by omega)] at hxs
        obtain rfl : n = (SL.pairUp ls2).length := by omega
        subst hxs; rw [← hn] at hr3; refine HQ_blockN ?_; refine HQ_then ?_; refine hK14 _ _ _ _ ?_; clear hK14 K14
        have hkz := P_kec (s := z ++ z) (by rw [List.length_append]; omega)
        obtain ⟨z2, hz2⟩ : ∃ x, x = kec (z ++ z) := ⟨_, rfl⟩
        rw [← hz2] at hkz heq; refine HC_draw 7 (by kernel_rfl) (by kernel_rfl) ?_; refine HD_r rfl rfl rfl (R_load (v := rowV (SL.pairUp ls2).length row3) rfl (known_L (k := 1) rfl) rfl rfl) ?_; refine HD_r rfl rfl rfl (R_move rfl) ?_; refine HD_r rfl rfl rfl (R_move rfl) ?_; refine HD_r rfl rfl rfl (R_concat (a := z) (b := z) rfl rfl (by omega)) ?_; refine HD_callP rfl rfl rfl (enters_of Tryz.func34 (by kernel_rfl) rfl) hkz ?_; refine HD_r rfl rfl rfl (R_assign rfl) ?_; refine HD_r rfl rfl rfl (R_assign rfl) ?_; refine HD_end ?_; refine HL_nil ?_; refine HQ_blockN ?_; refine HQ_then ?_; refine hK9 _ _ _ _ ?_; clear hK9 K9; refine HC_region ?_; refine HL_r rfl rfl rfl rfl (R_move rfl) ?_; refine HL_r rfl rfl rfl rfl (R_pure rfl rfl rfl) ?_; refine HL_as (show _ = Value.int .i64 ((2 ^ (k + 1) : Nat) : Int) from congrArg (Value.int .i64) ((wrap_two hk16).trans (by rw [Nat.pow_succ]))) ?_; refine HL_r rfl rfl rfl rfl (R_assign rfl) ?_; refine HL_nil ?_; refine HQ_then ?_; refine HQ_perm (List.Perm.cons _ (perm_mid (_ :: rowL 9 (chC (SL.pairUp ls2)) row3) (marksL Ds) _)) ?_; exact HQ_againD (k + 1, SL.pairUp ls2, row3, z2, D :: Ds) rfl ⟨hk, hr3, by rw [show lg m - (k + 1) = K by omega]; exact heq, by rw [show lg m - (k + 1) = K by omega]; simp only; omega, pairUp_mem ls2, by rw [hz2]; exact kec_len _⟩ (by simp only; omega) (.cons rfl (.cons rfl (.cons rfl (.cons rfl .nil)))) (.cons_cons _ ((List.Sublist.refl _).append (.cons _ (List.sublist_append_left _ _)))) (fun _ _ h => h)
      · exact fun _ _ _ h => h.elim
    · try exact Bool.noConfusion h12
      try simp only [Z1, Z2, Z3, Z4, Z5, Z6, Z7, Z8, Z9, Z10, Z11, Z12, Z13] at h12
      refine HC_skip ?_; refine HQ_then ?_; refine hK10 _ _ _ _ ?_; clear hK10 K10; refine HC_seq fun K17 hK17 => ?_
      (have e : padOdd ls z = ls := by unfold padOdd; rw [if_neg (by omega)]
       have hra := hi.ok
       generalize row = row2 at hra ⊢
       generalize hn2 : ls.length = n2 at hra ⊢
       generalize hc2 : chC ls = xs2 at hra ⊢
       obtain rfl : n2 = (padOdd ls z).length := by rw [e, ← hn2]
       obtain rfl : xs2 = chC (padOdd ls z) := by rw [e, ← hc2])
      have hm2e := padOdd_mem hi.mem hi.zl
      have hev := padOdd_even ls z
      have hl2 := padOdd_len ls z
      obtain ⟨ls2, hls2⟩ : ∃ x, x = padOdd ls z := ⟨_, rfl⟩
      rw [← hls2] at hm2e hev hl2 hra heq ⊢
      have hl2b : ls2.length ≤ 2 ^ K * 2 := by omega
      refine HC_region ?_; refine HL_alloc (cs := #[_]) rfl rfl rfl rfl fun r1 => ?_; refine HL_nil ?_; refine HQ_then ?_; refine hK17 _ _ _ _ ?_; clear hK17 K17; refine HC_seq fun K18 hK18 => ?_; refine HC_seq fun K19 hK19 => ?_; refine HC_region ?_; refine HL_r rfl rfl rfl rfl (R_move rfl) ?_; refine HL_callPE rfl rfl rfl (enters_of Tryz.func99 (by kernel_rfl) rfl) (E_mpairs ls2.length row2) fun rb => ?_; refine HL_perm ((List.Perm.swap _ _ _).trans (List.Perm.cons _ List.perm_middle.symm)) ?_; change HL _ _ _ ((r1, .cells #[.slice none 0 0] 45 (0, 0)) :: (marksL Ds ++ ((rb, .cells #[rowV ls2.length row2] 45 (0, 0)) :: rowL 9 (chC ls2) row2))) _ _ _ _; refine HL_nil ?_; refine HQ_then ?_; refine hK19 _ _ _ _ ?_; clear hK19 K19; refine HC_block ?_; refine HC_rangeB (τ := Unit) (fun i (s : Nat × List Value × Row) => 2 * i ≤ ls2.length ∧ s.1 = i ∧ s.2.1 = chC ((SL.pairUp ls2).take i) ∧ rowOk 1 i s.2.1 s.2.2) (fun s => (r1, .cells #[rowV s.1 s.2.2] 45 (0, 0)) :: rowL 9 s.2.1 s.2.2) (fun _ _ => False) (fun _ => []) (marksL Ds ++ ((rb, .cells #[rowV ls2.length row2] 45 (0, 0)) :: rowL 9 (chC ls2) row2)) (0, [], none) rfl rfl (enters_of Tryz.func175 (by kernel_rfl) rfl) (I_mpairs (by omega) hra rb) pairN_len rfl (fun q hq => .inl (List.mem_append_right _ hq)) rfl ⟨Nat.zero_le _, rfl, rfl, rfl, rfl⟩ ?_ ?_ ?_
      · rintro q Xr Xb w3 i _ _ _ ⟨n, xs, row3⟩ ⟨hii, rfl, rfl, rfl⟩ ⟨h2i, hn, hxs, hr3⟩ Kr hKr
        simp only at hn hxs hr3; rw [← hn] at hr3; refine HC_seq fun K20 hK20 => ?_; refine HC_region ?_; refine HL_r rfl rfl rfl rfl (R_assign rfl) ?_; refine HL_nil ?_; refine HQ_then ?_; refine hK20 _ _ _ _ ?_; clear hK20 K20; refine HC_region ?_; refine HL_r rfl rfl rfl rfl (R_assign rfl) ?_; refine HL_nil ?_; refine HQ_then ?_; refine hKr _ _ ?_; clear hKr; refine HC_block ?_
        have hg1 := getD_len hm2e (i := 2 * i) (by omega)
        have hg2 := getD_len hm2e (i := 2 * i + 1) (by omega)
        have hkc := P_kec (s := ls2.getD (2 * i) [] ++ ls2.getD (2 * i + 1) []) (by rw [List.length_append]; omega)
        obtain ⟨sv, hsv⟩ : ∃ x, x = kec (ls2.getD (2 * i) [] ++ ls2.getD (2 * i + 1) []) := ⟨_, rfl⟩
        rw [← hsv] at hkc; refine HC_drawA [(r1, .cells #[rowV n row3] 45 (0, 0))] [(0, .pure), (1, .pure), (2, .pure), (3, .pure), (4, .pure), (5, .act (aeNew (slV 1) (.cells #[strV sv] 9 (0, 0))))] 6 (by kernel_rfl) (by kernel_rfl) (fun p hp => List.mem_singleton.1 hp ▸ List.mem_cons_self) ?_; refine HA_p rfl rfl rfl rfl (fun _ hS => (R_load rfl (.inl (hS _ (mem_nth (n := 0) rfl))) rfl rfl)) ?_; refine HA_p rfl rfl rfl rfl (fun _ hS => (R_move rfl)) ?_; refine HA_p rfl rfl rfl rfl (fun _ hS => (R_move rfl)) ?_; refine HA_p rfl rfl rfl rfl (fun _ hS => (R_concat (a := ls2.getD (2 * i) []) (b := ls2.getD (2 * i + 1) []) rfl rfl (by omega))) ?_; refine HA_callP rfl rfl rfl rfl (enters_of Tryz.func34 (by kernel_rfl) rfl) hkc ?_; refine HA_buildSlice (n := 1) (sz := 1) (vs := [_]) (zs := [_]) (r := [strV sv]) rfl rfl rfl rfl rfl rfl rfl rfl rfl rfl (by show (madeCells #[_] _).toList = _; rw [made_one]; exact rfl) rfl (fun p hp => List.mem_singleton.1 hp ▸ List.mem_cons_self) fun rv => ?_; refine HA_end ?_; refine HL_appendRow (L0 := [_, _]) (xs := xs) (row := row3) (n := n) (sz := 1) (b := 16) (news := [strV sv]) (List.perm_append_comm (l₁ := [_, _])) rfl rfl rfl rfl (known_L (k := 0) rfl) rfl rfl rfl rfl rfl (by decide) rfl rfl rfl (by decide) hr3 (by omega) (by omega) fun ra cap sp hra => ?_; refine HL_store (k := 2) (cs' := #[rowV (n + 1) (some (ra, cap, sp))]) rfl rfl rfl rfl rfl rfl rfl rfl rfl rfl ?_; refine HL_nil ?_; refine HQ_blockN ?_; refine HQ_sel [2, 0] (L' := [_, _]) (by decide) rfl ?_; exact HQ_round (n + 1, xs ++ [strV sv], some (ra, cap, sp)) ⟨by omega, by simp only; omega, by simp only; rw [pair_take ls2 hii, ← hsv, hxs]; unfold chC; rw [List.map_append]; rfl, by rw [← hn]; exact hra⟩ rfl
      · rintro D i ⟨n, xs, row3⟩ hfi ⟨h2i, hn, hxs, hr3⟩
        simp only at hn hxs hr3
        have hi2 : 2 * i = ls2.length := by omega
        have hpl := pairUp_len ls2
        rw [List.take_of_length_le (by omega)] at hxs
        obtain rfl : n = (SL.pairUp ls2).length := by omega
        subst hxs; rw [← hn] at hr3; refine HQ_blockN ?_; refine HQ_then ?_; refine hK18 _ _ _ _ ?_; clear hK18 K18
        have hkz := P_kec (s := z ++ z) (by rw [List.length_append]; omega)
        obtain ⟨z2, hz2⟩ : ∃ x, x = kec (z ++ z) := ⟨_, rfl⟩
        rw [← hz2] at hkz heq; refine HC_draw 7 (by kernel_rfl) (by kernel_rfl) ?_; refine HD_r rfl rfl rfl (R_load (v := rowV (SL.pairUp ls2).length row3) rfl (known_L (k := 1) rfl) rfl rfl) ?_; refine HD_r rfl rfl rfl (R_move rfl) ?_; refine HD_r rfl rfl rfl (R_move rfl) ?_; refine HD_r rfl rfl rfl (R_concat (a := z) (b := z) rfl rfl (by omega)) ?_; refine HD_callP rfl rfl rfl (enters_of Tryz.func34 (by kernel_rfl) rfl) hkz ?_; refine HD_r rfl rfl rfl (R_assign rfl) ?_; refine HD_r rfl rfl rfl (R_assign rfl) ?_; refine HD_end ?_; refine HL_nil ?_; refine HQ_blockN ?_; refine HQ_then ?_; refine hK9 _ _ _ _ ?_; clear hK9 K9; refine HC_region ?_; refine HL_r rfl rfl rfl rfl (R_move rfl) ?_; refine HL_r rfl rfl rfl rfl (R_pure rfl rfl rfl) ?_; refine HL_as (show _ = Value.int .i64 ((2 ^ (k + 1) : Nat) : Int) from congrArg (Value.int .i64) ((wrap_two hk16).trans (by rw [Nat.pow_succ]))) ?_; refine HL_r rfl rfl rfl rfl (R_assign rfl) ?_; refine HL_nil ?_; refine HQ_then ?_; refine HQ_perm (List.Perm.cons _ (perm_mid (_ :: rowL 9 (chC (SL.pairUp ls2)) row3) (marksL Ds) _)) ?_; exact HQ_againD (k + 1, SL.pairUp ls2, row3, z2, D :: Ds) rfl ⟨hk, hr3, by rw [show lg m - (k + 1) = K by omega]; exact heq, by rw [show lg m - (k + 1) = K by omega]; simp only; omega, pairUp_mem ls2, by rw [hz2]; exact kec_len _⟩ (by simp only; omega) (.cons rfl (.cons rfl (.cons rfl (.cons rfl .nil)))) (.cons_cons _ ((List.Sublist.refl _).append (.cons _ (List.sublist_append_left _ _)))) (fun _ _ h => h)
      · exact fun _ _ _ h => h.elim
  · try exact Bool.noConfusion h8
    try simp only [Z1, Z2, Z3, Z4, Z5, Z6, Z7, Z8, Z9, Z10, Z11, Z12, Z13] at h8
    refine HC_exit ?_; refine HQ_thenE ?_; clear hK6 K6; refine HQ_thenE ?_; refine HQ_blockE ?_; refine HQ_then ?_; refine hK4 _ _ _ _ ?_; clear hK4 K4; refine HC_seq fun K21 hK21 => ?_; refine HC_seq fun K22 hK22 => ?_
    have hkl : ¬ k < lg m := fun h => by have := pow_lg.2 h; omega
    obtain rfl : k = lg m := by have := hi.le; omega
    have heq := hi.eq
    have hlen := hi.len
    rw [Nat.sub_self] at heq hlen; refine HC_region ?_; refine HL_r rfl rfl rfl rfl (R_move rfl) ?_; refine HL_r rfl rfl rfl rfl (R_lenRow rfl hi.ok.zero rfl) ?_; refine HL_r rfl rfl rfl rfl (R_pure rfl rfl rfl) ?_; refine HL_nil ?_; refine HQ_then ?_; refine hK22 _ _ _ _ ?_; clear hK22 K22; refine HC_cond rfl (fun h23 => ?_) (fun h23 => ?_)
    · try exact Bool.noConfusion h23
      try simp only [Z1, Z2, Z3, Z4, Z5, Z6, Z7, Z8, Z9, Z10, Z11, Z12, Z13] at h23
      refine HC_seq fun K24 hK24 => ?_; refine HC_region ?_; refine HL_r rfl rfl rfl rfl (R_move rfl) ?_; refine HL_r rfl rfl rfl rfl (R_assign rfl) ?_; refine HL_nil ?_; refine HQ_then ?_; refine hK24 _ _ _ _ ?_; clear hK24 K24; refine HC_ret ?_; refine HQ_thenR ?_; clear hK21 K21; refine HQ_marks Ds ?_; refine HQ_post rfl rfl (.cons (res_tmp rfl) .nil) (fun w1 hs1 => ?_); refine ⟨?_, hs1.keep⟩
      (obtain rfl : ls = [] := List.eq_nil_of_length_eq_zero (by omega)
       rw [← heq]; rfl)
    · try exact Bool.noConfusion h23
      try simp only [Z1, Z2, Z3, Z4, Z5, Z6, Z7, Z8, Z9, Z10, Z11, Z12, Z13] at h23
      refine HC_skip ?_; refine HQ_then ?_; refine hK21 _ _ _ _ ?_; clear hK21 K21; refine HC_seq fun K25 hK25 => ?_
      obtain ⟨s0, hls1⟩ : ∃ s0, ls = [s0] := by
        match ls, hlen with
        | [a], _ => exact ⟨a, rfl⟩
        | [], _ => exact absurd rfl (by assumption)
        | _ :: _ :: _, h => simp at h
      refine HC_region ?_; refine HL_r rfl rfl rfl rfl (R_move rfl) ?_; refine HL_r rfl rfl rfl rfl (R_indexPl (p := rowP row) (j := 0) (show _ = some (plV ls.length (rowP row)) from by rw [rowP_V _ _ hi.ok.zero]; rfl) (rowP_seg (e := 9) hi.ok (by decide)) rfl rfl rfl rfl (by omega)) ?_; refine HL_r rfl rfl rfl rfl (R_loadPl1 (p := rowP row) (fun q hq => Or.inl (List.mem_append_right _ hq)) rfl (rowP_seg (e := 9) hi.ok (by decide)) (by omega) rfl (chC_get (show ls[0]? = some s0 from by rw [hls1]; rfl))) ?_; refine HL_r rfl rfl rfl rfl (R_assign rfl) ?_; refine HL_nil ?_; refine HQ_then ?_; refine hK25 _ _ _ _ ?_; clear hK25 K25; refine HC_ret ?_; refine HQ_marks Ds ?_; refine HQ_post rfl rfl (.cons (res_tmp rfl) .nil) (fun w1 hs1 => ?_); refine ⟨?_, hs1.keep⟩; rw [← heq, hls1]; rfl
end Go.Proofs.YtlcbfphioeppaaaGreatDoor
namespace Go.Proofs.YtlcbfphioeppaaaGreatDoor
set_option linter.all false
open Go.SL Go.RowKit Go.Shelf
/-! ### Tree, mix, Mix; Low -/
def idxG {α : Type} (b : α → Bool) : List α → Int → Int
  | [], _ => -1
  | x :: xs, i => if b x = true then i else idxG b xs (i + 1)
theorem idxG_any {α : Type} {b : α → Bool} : ∀ {l : List α} {i : Int}, 0 ≤ i → decide (idxG b l i ≥ 0) = l.any b
  | [], _, _ => rfl
  | x :: xs, i, h => by
    rw [idxG, List.any_cons]
    split
    · rename_i hb; rw [hb]; simp [h]
    · rename_i hb; rw [idxG_any (by omega)]; simp [hb]
abbrev fV1 (f : FuncId) : Value := .func (.func f) #[] #[]
set_option maxRecDepth 10000 in
theorem S_IndexC {R : List (Nat × Obj)} {l : List BS} {p : Pl} {g : FuncId} {b : BS → Bool} (eg : Enters Tryz.prog g) (hg : ∀ x ∈ l, PureR Tryz.prog g [strV x].toArray (.bool (b x)) R) (hl : l.length ≤ 9223372036854775807) (hs : Seg R l.length (chC l) p) :
    PureR Tryz.prog 97 [plV l.length p, fV1 g].toArray (.int .i64 (idxG b l 0)) R := by
  refine pureR_of_HC Tryz.func97 rfl rfl fun w => ?_; refine HC_seq fun K1 hK1 => ?_; refine HC_region ?_; refine HL_r rfl rfl rfl rfl (R_assign rfl) ?_; refine HL_nil ?_; refine HQ_then ?_; refine hK1 _ _ _ _ ?_; clear hK1 K1; refine HC_seq fun K2 hK2 => ?_; refine HC_seq fun K3 hK3 => ?_; refine HC_region ?_; refine HL_r rfl rfl rfl rfl (R_move rfl) ?_; refine HL_r rfl rfl rfl rfl (R_lenPl rfl hs rfl) ?_; refine HL_r rfl rfl rfl rfl (R_move rfl) ?_; refine HL_nil ?_; refine HQ_then ?_; refine hK3 _ _ _ _ ?_; clear hK3 K3; refine HC_block ?_; refine HC_loop (σ := Nat) (fun i => i ≤ l.length ∧ idxG b (l.drop i) (i : Int) = idxG b l 0) (fun i => [(0, plV l.length p), (1, fV1 g), (7, .int .i64 (l.length : Int)), (8, .int .i64 (i : Int))]) (fun _ => []) (fun _ _ _ => True) (fun i => l.length - i) 0 ⟨by omega, rfl⟩ (.cons rfl (.cons rfl (.cons rfl (.cons rfl .nil)))) (List.nil_sublist _) (fun _ _ h => h) ?_; rintro i ⟨hi1, hinv⟩; refine HC_seq fun K4 hK4 => ?_; refine HC_region ?_; refine HL_r rfl rfl rfl rfl (R_pure rfl rfl rfl) ?_; refine HL_nil ?_; refine HQ_then ?_; refine hK4 _ _ _ _ ?_; clear hK4 K4; refine HC_seq fun K5 hK5 => ?_; refine HC_cond rfl (fun h6 => ?_) (fun h6 => ?_)
  · try exact Bool.noConfusion h6
    try simp only [Z1, Z2, Z3, Z4, Z5, Z6, Z7, Z8, Z9, Z10, Z11, Z12, Z13] at h6
    refine HC_skip ?_; refine HQ_then ?_; refine hK5 _ _ _ _ ?_; clear hK5 K5; refine HC_seq fun K7 hK7 => ?_; refine HC_block ?_; refine HC_seq fun K8 hK8 => ?_; refine HC_region ?_; refine HL_r rfl rfl rfl rfl (R_move rfl) ?_; refine HL_r rfl rfl rfl rfl (R_assign rfl) ?_; refine HL_nil ?_; refine HQ_then ?_; refine hK8 _ _ _ _ ?_; clear hK8 K8; refine HC_seq fun K9 hK9 => ?_
    obtain ⟨y, hy, hmem⟩ := getI (show i < l.length by omega)
    rw [dropI hy, idxG] at hinv; refine HC_region ?_; refine HL_r rfl rfl rfl rfl (R_move rfl) ?_; refine HL_r rfl rfl rfl rfl (R_move rfl) ?_; refine HL_r rfl rfl rfl rfl (R_move rfl) ?_
    refine HL_r rfl rfl rfl rfl (R_indexPl (j := i) rfl hs rfl rfl rfl (by first | rfl | omega) (by omega)) ?_; refine HL_r rfl rfl rfl rfl (R_loadPl1 (fun q hq => Or.inr hq) rfl hs (by omega) rfl (chC_get hy)) ?_; refine HL_callR rfl rfl rfl eg (hg y hmem) (fun q hq => Or.inr hq) ?_; refine HL_nil ?_; refine HQ_then ?_; refine hK9 _ _ _ _ ?_; clear hK9 K9; refine HC_cond rfl (fun h10 => ?_) (fun h10 => ?_)
    · try exact Bool.noConfusion h10
      try simp only [Z1, Z2, Z3, Z4, Z5, Z6, Z7, Z8, Z9, Z10, Z11, Z12, Z13] at h10
      refine HC_seq fun K11 hK11 => ?_; refine HC_region ?_; refine HL_r rfl rfl rfl rfl (R_move rfl) ?_; refine HL_r rfl rfl rfl rfl (R_assign rfl) ?_; refine HL_nil ?_; refine HQ_then ?_; refine hK11 _ _ _ _ ?_; clear hK11 K11; refine HC_ret ?_; refine HQ_blockR ?_; refine HQ_thenR ?_; clear hK7 K7; refine HQ_thenR ?_; refine HQ_blockR ?_; refine HQ_thenR ?_; clear hK2 K2; refine HQ_post rfl rfl (.cons (res_tmp rfl) .nil) (fun w1 hs1 => ?_); refine ⟨?_, hs1.keep⟩; rw [← hinv, if_pos (by assumption)]; rfl
    · try exact Bool.noConfusion h10
      try simp only [Z1, Z2, Z3, Z4, Z5, Z6, Z7, Z8, Z9, Z10, Z11, Z12, Z13] at h10
      refine HC_skip ?_; refine HQ_blockN ?_; refine HQ_then ?_; refine hK7 _ _ _ _ ?_; clear hK7 K7; refine HC_region ?_; refine HL_r rfl rfl rfl rfl (R_pure rfl rfl rfl) ?_; refine HL_wrap_i64 (by omega) (by omega) ?_; refine HL_r rfl rfl rfl rfl (R_move rfl) ?_; refine HL_nil ?_; refine HQ_then ?_; exact HQ_again (i + 1) ⟨by omega, by rw [if_neg (by simp_all)] at hinv; exact hinv⟩ (by omega) (.cons rfl (.cons rfl (.cons rfl (.cons rfl .nil)))) (List.nil_sublist _) (fun _ _ h => h)
  · try exact Bool.noConfusion h6
    try simp only [Z1, Z2, Z3, Z4, Z5, Z6, Z7, Z8, Z9, Z10, Z11, Z12, Z13] at h6
    refine HC_exit ?_; refine HQ_thenE ?_; clear hK5 K5; refine HQ_thenE ?_; refine HQ_blockE ?_; refine HQ_then ?_; refine hK2 _ _ _ _ ?_; clear hK2 K2; refine HC_seq fun K12 hK12 => ?_; refine HC_region ?_; refine HL_r rfl rfl rfl rfl (R_assign rfl) ?_; refine HL_nil ?_; refine HQ_then ?_; refine hK12 _ _ _ _ ?_; clear hK12 K12; refine HC_ret ?_; refine HQ_post rfl rfl (.cons (res_tmp rfl) .nil) (fun w1 hs1 => ?_); refine ⟨?_, hs1.keep⟩; rw [← hinv, List.drop_of_length_le (by omega), idxG]; rfl
set_option maxRecDepth 10000 in
theorem S_ContainsC {R : List (Nat × Obj)} {l : List BS} {p : Pl} {g : FuncId} {b : BS → Bool} (eg : Enters Tryz.prog g) (hg : ∀ x ∈ l, PureR Tryz.prog g [strV x].toArray (.bool (b x)) R) (hl : l.length ≤ 9223372036854775807) (hs : Seg R l.length (chC l) p) :
    PureR Tryz.prog 53 [plV l.length p, fV1 g].toArray (.bool (l.any b)) R := by
  have h := S_IndexC (b := b) eg hg hl hs
  rw [← idxG_any (b := b) (l := l) (Int.le_refl 0)]; refine pureR_of_HC Tryz.func53 rfl rfl fun w => ?_; refine HC_seq fun K1 hK1 => ?_; refine HC_region ?_; refine HL_r rfl rfl rfl rfl (R_assign rfl) ?_; refine HL_nil ?_; refine HQ_then ?_; refine hK1 _ _ _ _ ?_; clear hK1 K1; refine HC_seq fun K2 hK2 => ?_; refine HC_region ?_; refine HL_r rfl rfl rfl rfl (R_move rfl) ?_; refine HL_r rfl rfl rfl rfl (R_move rfl) ?_; refine HL_callR rfl rfl rfl (enters_of Tryz.func97 (by kernel_rfl) rfl) h (fun q hq => Or.inr hq) ?_; refine HL_r rfl rfl rfl rfl (R_pure rfl rfl rfl) ?_; refine HL_r rfl rfl rfl rfl (R_assign rfl) ?_; refine HL_nil ?_; refine HQ_then ?_; refine hK2 _ _ _ _ ?_; clear hK2 K2; refine HC_ret ?_; refine HQ_post rfl rfl (.cons (res_tmp rfl) .nil) (fun w1 hs1 => ?_); exact ⟨rfl, hs1.keep⟩
def oddC (s : BS) : Bool := decide (s.length ≠ 32)
set_option maxRecDepth 10000 in
theorem P_odd32 (s : BS) : Pure Tryz.prog 52 [strV s].toArray (.bool (oddC s)) := by
  refine pure_of_HC Tryz.func52 rfl rfl fun w => ?_; refine HC_seq fun K1 hK1 => ?_; refine HC_region ?_; refine HL_r rfl rfl rfl rfl (R_assign rfl) ?_; refine HL_nil ?_; refine HQ_then ?_; refine hK1 _ _ _ _ ?_; clear hK1 K1; refine HC_seq fun K2 hK2 => ?_; refine HC_region ?_; refine HL_r rfl rfl rfl rfl (R_move rfl) ?_; refine HL_r rfl rfl rfl rfl (R_lenBs rfl rfl) ?_; refine HL_r rfl rfl rfl rfl (R_pure rfl rfl rfl) ?_; refine HL_r rfl rfl rfl rfl (R_assign rfl) ?_; refine HL_nil ?_; refine HQ_then ?_; refine hK2 _ _ _ _ ?_; clear hK2 K2; refine HC_ret ?_; refine HQ_post rfl rfl (.cons (res_tmp rfl) .nil) (fun w1 hs1 => ?_); refine ⟨?_, hs1.keep⟩
  unfold oddC
  by_cases h : s.length = 32
  · rw [h]; rfl
  · rw [decide_eq_true h, show ((s.length : Int) != 32) = true from by simp; omega]; rfl
def treeT (l : List BS) (m : Int) : BS × Int := if (m < 1 ∨ 512 < m) ∨ m < l.length ∨ l.any oddC = true then ([], 1) else (rootC l m.toNat, 0)
theorem any_odd {l : List BS} (h : ¬ l.any oddC = true) : ∀ s ∈ l, s.length = 32 := by
  intro s hs; rw [List.any_eq_true] at h; exact Decidable.byContradiction fun h2 => h ⟨s, hs, by unfold oddC; exact decide_eq_true h2⟩
set_option maxRecDepth 10000 in
theorem S_Tree {R : List (Nat × Obj)} {l : List BS} {p : Pl} (hl : l.length ≤ 9223372036854775807) (hs : Seg R l.length (chC l) p) (m : Int) :
    PureR Tryz.prog 27 [plV l.length p, .int .i64 m].toArray (.tuple #[strV (treeT l m).1, .int .i64 (treeT l m).2]) R := by
  have hcf := S_ContainsC (R := R) (p := p) (b := oddC) (enters_of Tryz.func52 (by kernel_rfl) rfl) (fun x _ => (P_odd32 x).toR) hl hs
  obtain ⟨bb, hbb⟩ : ∃ b, b = l.any oddC := ⟨_, rfl⟩
  have hT : treeT l m = if (m < 1 ∨ 512 < m) ∨ m < l.length ∨ bb = true then ([], 1) else (rootC l m.toNat, 0) := by rw [hbb]; rfl
  have h32 : bb = false → ∀ s ∈ l, s.length = 32 := fun h => any_odd (by rw [← hbb, h]; simp)
  rw [← hbb] at hcf; rw [hT]; refine pureR_of_HC Tryz.func27 rfl rfl fun w => ?_; refine HC_seq fun K1 hK1 => ?_; refine HC_region ?_; refine HL_r rfl rfl rfl rfl (R_assign rfl) ?_; refine HL_r rfl rfl rfl rfl (R_assign rfl) ?_; refine HL_nil ?_; refine HQ_then ?_; refine hK1 _ _ _ _ ?_; clear hK1 K1; refine HC_seq fun K2 hK2 => ?_; refine HC_region ?_; refine HL_r rfl rfl rfl rfl (R_assign rfl) ?_; refine HL_nil ?_; refine HQ_then ?_; refine hK2 _ _ _ _ ?_; clear hK2 K2; refine HC_seq fun K3 hK3 => ?_; refine HC_seq fun K4 hK4 => ?_; refine HC_region ?_; refine HL_r rfl rfl rfl rfl (R_move rfl) ?_; refine HL_r rfl rfl rfl rfl (R_pure rfl rfl rfl) ?_; refine HL_r rfl rfl rfl rfl (R_move rfl) ?_
  refine HL_case 9 rfl (fun hb5 => ?_) (fun hb5 => ?_) <;> (try simp only [Z1, Z2, Z3, Z4, Z5, Z6, Z7, Z8, Z9, Z10, Z11, Z12, Z13] at hb5) <;> first | (refine HL_r rfl rfl rfl rfl (R_move rfl) ?_) | (refine HL_skip rfl rfl rfl ?_)
  all_goals first
    | (refine HL_r rfl rfl rfl rfl (R_pure rfl rfl rfl) ?_)
    | (refine HL_skip rfl rfl rfl ?_)
  all_goals first
    | (refine HL_r rfl rfl rfl rfl (R_pickT rfl rfl) ?_)
    | (refine HL_r rfl rfl rfl rfl (R_pickF rfl rfl) ?_)
  all_goals refine HL_r rfl rfl rfl rfl (R_move rfl) ?_
  all_goals first
    | (refine HL_skip rfl rfl rfl ?_)
    | (refine HL_case 13 rfl (fun hb7 => ?_) (fun hb7 => ?_) <;> (try simp only [Z1, Z2, Z3, Z4, Z5, Z6, Z7, Z8, Z9, Z10, Z11, Z12, Z13] at hb7) <;> first | (refine HL_r rfl rfl rfl rfl (R_move rfl) ?_) | (refine HL_skip rfl rfl rfl ?_))
  all_goals first
    | (refine HL_r rfl rfl rfl rfl (R_lenPl rfl hs rfl) ?_)
    | (refine HL_skip rfl rfl rfl ?_)
  all_goals first
    | (refine HL_r rfl rfl rfl rfl (R_move rfl) ?_)
    | (refine HL_skip rfl rfl rfl ?_)
  all_goals first
    | (refine HL_r rfl rfl rfl rfl (R_pure rfl rfl rfl) ?_)
    | (refine HL_skip rfl rfl rfl ?_)
  all_goals first
    | (refine HL_r rfl rfl rfl rfl (R_pickT rfl rfl) ?_)
    | (refine HL_r rfl rfl rfl rfl (R_pickF rfl rfl) ?_)
  all_goals refine HL_r rfl rfl rfl rfl (R_move rfl) ?_
  all_goals first
    | (refine HL_skip rfl rfl rfl ?_)
    | (refine HL_case 19 rfl (fun hb11 => ?_) (fun hb11 => ?_) <;> (try simp only [Z1, Z2, Z3, Z4, Z5, Z6, Z7, Z8, Z9, Z10, Z11, Z12, Z13] at hb11) <;> first | (refine HL_r rfl rfl rfl rfl (R_move rfl) ?_) | (refine HL_skip rfl rfl rfl ?_))
  all_goals first
    | (refine HL_r rfl rfl rfl rfl (R_move rfl) ?_)
    | (refine HL_skip rfl rfl rfl ?_)
  all_goals first
    | (refine HL_callR rfl rfl rfl (enters_of Tryz.func53 (by kernel_rfl) rfl) hcf (fun q hq => Or.inr hq) ?_)
    | (refine HL_skip rfl rfl rfl ?_)
  all_goals first
    | (refine HL_r rfl rfl rfl rfl (R_pickT rfl rfl) ?_)
    | (refine HL_r rfl rfl rfl rfl (R_pickF rfl rfl) ?_)
  all_goals refine HL_nil ?_
  all_goals (
   refine HQ_then ?_; refine hK4 _ _ _ _ ?_; clear hK4 K4; refine HC_cond rfl (fun h14 => ?_) (fun h14 => ?_)
   · try exact Bool.noConfusion h14
     try simp only [Z1, Z2, Z3, Z4, Z5, Z6, Z7, Z8, Z9, Z10, Z11, Z12, Z13] at h14
     refine HC_seq fun K15 hK15 => ?_; refine HC_region ?_; refine HL_r rfl rfl rfl rfl (R_assign rfl) ?_; refine HL_r rfl rfl rfl rfl (R_assign rfl) ?_; refine HL_nil ?_; refine HQ_then ?_; refine hK15 _ _ _ _ ?_; clear hK15 K15; refine HC_ret ?_; refine HQ_thenR ?_; clear hK3 K3; refine HQ_post rfl rfl (.cons (res_tmp rfl) (.cons (res_tmp rfl) .nil)) (fun w1 hs1 => ?_); refine ⟨?_, hs1.keep⟩
     first
       | (rw [if_pos (.inl (by omega))]; rfl)
       | (rw [if_pos (.inr (.inl (by omega)))]; rfl)
       | (rw [if_pos (.inr (.inr (by assumption)))]; rfl)
   · try exact Bool.noConfusion h14
     all_goals try simp only [Z1, Z2, Z3, Z4, Z5, Z6, Z7, Z8, Z9, Z10, Z11, Z12, Z13] at h14
     all_goals (
      refine HC_skip ?_; refine HQ_then ?_; refine hK3 _ _ _ _ ?_; clear hK3 K3; refine HC_seq fun K16 hK16 => ?_; refine HC_region ?_; refine HL_r rfl rfl rfl rfl (R_move rfl) ?_; refine HL_r rfl rfl rfl rfl (R_move rfl) ?_
      have h3 := h32 (by simp_all)
      have hmm : m = (m.toNat : Int) := by omega
      have htr := S_mtree (R := R) (m := m.toNat) (p := p) (by omega) (by omega) hs h3
      rw [← hmm] at htr; refine HL_callR rfl rfl rfl (enters_of Tryz.func54 (by kernel_rfl) rfl) htr (fun q hq => Or.inr hq) ?_; refine HL_r rfl rfl rfl rfl (R_assign rfl) ?_; refine HL_r rfl rfl rfl rfl (R_assign rfl) ?_; refine HL_nil ?_; refine HQ_then ?_; refine hK16 _ _ _ _ ?_; clear hK16 K16; refine HC_ret ?_; refine HQ_post rfl rfl (.cons (res_tmp rfl) (.cons (res_tmp rfl) .nil)) (fun w1 hs1 => ?_); refine ⟨?_, hs1.keep⟩
      (have hbf : bb = false := by assumption
       rw [if_neg (by rw [hbf]; rintro (h | h | h)
                      · omega
                      · omega
                      · cases h)]; rfl)
      skip)
   skip)
def mixE (root : BS) (n : Nat) : BS := kec (root ++ padZ (leN n 8))
theorem le8 {n : Nat} (h : n < 18446744073709551616) : leR n 8 = (leN n 8, 0) := by
  unfold leR
  rw [if_neg]
  · rfl
  · have := (beN_len (n := n) (k := 8) h (by decide)).2 (by simpa using h)
    omega
set_option maxRecDepth 10000 in
theorem P_mix {root : BS} (hr : root.length ≤ 1000) {n : Nat} (hn : n ≤ 9223372036854775807) : Pure Tryz.prog 107 [strV root, .int .i64 (n : Int)].toArray (strV (mixE root n)) := by
  have hk := P_kec (s := root ++ padZ (leN n 8)) (by rw [List.length_append, padZ_len (by rw [leN_len]; decide)]; omega)
  change Pure _ _ _ (strV (mixE root n)) at hk
  have hp := padZ_len (s := leN n 8) (by rw [leN_len]; decide)
  generalize mixE root n = z at hk
  refine pure_of_HC Tryz.func107 rfl rfl fun w => ?_; refine HC_seq fun K1 hK1 => ?_; refine HC_region ?_; refine HL_r rfl rfl rfl rfl (R_assign rfl) ?_; refine HL_nil ?_; refine HQ_then ?_; refine hK1 _ _ _ _ ?_; clear hK1 K1; refine HC_seq fun K2 hK2 => ?_; refine HC_region ?_; refine HL_r rfl rfl rfl rfl (R_move rfl) ?_; refine HL_r rfl rfl rfl rfl (R_pure rfl rfl rfl) ?_; refine HL_as (show _ = uV n from congrArg (Value.int .u64) (wrap_u64 (z := (n : Int)) (by omega) (by omega))) ?_; refine HL_callP rfl rfl rfl (enters_of Tryz.func56 (by kernel_rfl) rfl) (P_num_Le (n := n) (by omega) 8) ?_; refine HL_as (show _ = Value.tuple #[strV (leN n 8), .int .i64 0] from by rw [le8 (by omega)]; rfl) ?_; refine HL_r rfl rfl rfl rfl (R_move rfl) ?_; refine HL_r rfl rfl rfl rfl (R_extract rfl rfl) ?_; refine HL_r rfl rfl rfl rfl (R_extract rfl rfl) ?_; refine HL_r rfl rfl rfl rfl (R_assign rfl) ?_; refine HL_r rfl rfl rfl rfl (R_assign rfl) ?_; refine HL_nil ?_; refine HQ_then ?_; refine hK2 _ _ _ _ ?_; clear hK2 K2; refine HC_seq fun K3 hK3 => ?_; refine HC_region ?_; refine HL_r rfl rfl rfl rfl (R_move rfl) ?_; refine HL_r rfl rfl rfl rfl (R_move rfl) ?_; refine HL_callP rfl rfl rfl (enters_of Tryz.func57 (by kernel_rfl) rfl) (P_full (s := leN n 8) (by rw [leN_len]; decide)) ?_; refine HL_r rfl rfl rfl rfl (R_concat (a := root) (b := padZ (leN n 8)) rfl rfl (by omega)) ?_; refine HL_callP rfl rfl rfl (enters_of Tryz.func34 (by kernel_rfl) rfl) hk ?_; refine HL_r rfl rfl rfl rfl (R_assign rfl) ?_; refine HL_nil ?_; refine HQ_then ?_; refine hK3 _ _ _ _ ?_; clear hK3 K3; refine HC_ret ?_; refine HQ_post rfl rfl (.cons (res_tmp rfl) .nil) (fun w1 hs1 => ?_); exact ⟨rfl, hs1.keep⟩
def mixR (root : BS) (n : Nat) : BS × Int := if root.length ≠ 32 then ([], 1) else (mixE root n, 0)
set_option maxRecDepth 10000 in
theorem P_Mix (root : BS) {n : Nat} (hn : U64 n) : Pure Tryz.prog 29 [strV root, uV n].toArray (.tuple #[strV (mixR root n).1, .int .i64 (mixR root n).2]) := by
  have hn2 : n < 18446744073709551616 := hn
  by_cases hr : root.length = 32
  · have hk := P_kec (s := root ++ padZ (leN n 8)) (by rw [List.length_append, padZ_len (by rw [leN_len]; decide)]; omega)
    change Pure _ _ _ (strV (mixE root n)) at hk
    have hp := padZ_len (s := leN n 8) (by rw [leN_len]; decide)
    have e : mixR root n = (mixE root n, 0) := by unfold mixR; rw [if_neg (by simpa using hr)]
    rw [e]
    generalize mixE root n = z at hk
    refine pure_of_HC Tryz.func29 rfl rfl fun w => ?_; refine HC_seq fun K1 hK1 => ?_; refine HC_region ?_; refine HL_r rfl rfl rfl rfl (R_assign rfl) ?_; refine HL_r rfl rfl rfl rfl (R_assign rfl) ?_; refine HL_nil ?_; refine HQ_then ?_; refine hK1 _ _ _ _ ?_; clear hK1 K1; refine HC_seq fun K2 hK2 => ?_; refine HC_seq fun K3 hK3 => ?_; refine HC_region ?_; refine HL_r rfl rfl rfl rfl (R_move rfl) ?_; refine HL_r rfl rfl rfl rfl (R_lenBs rfl rfl) ?_; refine HL_r rfl rfl rfl rfl (R_pure rfl rfl rfl) ?_; refine HL_nil ?_; refine HQ_then ?_; refine hK3 _ _ _ _ ?_; clear hK3 K3; refine HC_cond rfl (fun h4 => ?_) (fun h4 => ?_)
    · try exact Bool.noConfusion h4
      try simp only [Z1, Z2, Z3, Z4, Z5, Z6, Z7, Z8, Z9, Z10, Z11, Z12, Z13] at h4
      refine HC_seq fun K5 hK5 => ?_; refine HC_region ?_
      exfalso; omega
    · try exact Bool.noConfusion h4
      try simp only [Z1, Z2, Z3, Z4, Z5, Z6, Z7, Z8, Z9, Z10, Z11, Z12, Z13] at h4
      refine HC_skip ?_; refine HQ_then ?_; refine hK2 _ _ _ _ ?_; clear hK2 K2; refine HC_seq fun K6 hK6 => ?_; refine HC_region ?_; refine HL_r rfl rfl rfl rfl (R_move rfl) ?_; refine HL_callP rfl rfl rfl (enters_of Tryz.func56 (by kernel_rfl) rfl) (P_num_Le (n := n) (by omega) 8) ?_; refine HL_as (show _ = Value.tuple #[strV (leN n 8), .int .i64 0] from by rw [le8 (by omega)]; rfl) ?_; refine HL_r rfl rfl rfl rfl (R_move rfl) ?_; refine HL_r rfl rfl rfl rfl (R_extract rfl rfl) ?_; refine HL_r rfl rfl rfl rfl (R_extract rfl rfl) ?_; refine HL_r rfl rfl rfl rfl (R_assign rfl) ?_; refine HL_r rfl rfl rfl rfl (R_assign rfl) ?_; refine HL_nil ?_; refine HQ_then ?_; refine hK6 _ _ _ _ ?_; clear hK6 K6; refine HC_seq fun K7 hK7 => ?_; refine HC_region ?_; refine HL_r rfl rfl rfl rfl (R_move rfl) ?_; refine HL_r rfl rfl rfl rfl (R_move rfl) ?_; refine HL_callP rfl rfl rfl (enters_of Tryz.func57 (by kernel_rfl) rfl) (P_full (s := leN n 8) (by rw [leN_len]; decide)) ?_; refine HL_r rfl rfl rfl rfl (R_concat (a := root) (b := padZ (leN n 8)) rfl rfl (by omega)) ?_; refine HL_callP rfl rfl rfl (enters_of Tryz.func34 (by kernel_rfl) rfl) hk ?_; refine HL_r rfl rfl rfl rfl (R_assign rfl) ?_; refine HL_r rfl rfl rfl rfl (R_assign rfl) ?_; refine HL_nil ?_; refine HQ_then ?_; refine hK7 _ _ _ _ ?_; clear hK7 K7; refine HC_ret ?_; refine HQ_post rfl rfl (.cons (res_tmp rfl) (.cons (res_tmp rfl) .nil)) (fun w1 hs1 => ?_); exact ⟨rfl, hs1.keep⟩
  · have e : mixR root n = ([], 1) := by unfold mixR; rw [if_pos hr]
    rw [e]; refine pure_of_HC Tryz.func29 rfl rfl fun w => ?_; refine HC_seq fun K1 hK1 => ?_; refine HC_region ?_; refine HL_r rfl rfl rfl rfl (R_assign rfl) ?_; refine HL_r rfl rfl rfl rfl (R_assign rfl) ?_; refine HL_nil ?_; refine HQ_then ?_; refine hK1 _ _ _ _ ?_; clear hK1 K1; refine HC_seq fun K2 hK2 => ?_; refine HC_seq fun K3 hK3 => ?_; refine HC_region ?_; refine HL_r rfl rfl rfl rfl (R_move rfl) ?_; refine HL_r rfl rfl rfl rfl (R_lenBs rfl rfl) ?_; refine HL_r rfl rfl rfl rfl (R_pure rfl rfl rfl) ?_; refine HL_nil ?_; refine HQ_then ?_; refine hK3 _ _ _ _ ?_; clear hK3 K3; refine HC_cond rfl (fun h4 => ?_) (fun h4 => ?_)
    · try exact Bool.noConfusion h4
      try simp only [Z1, Z2, Z3, Z4, Z5, Z6, Z7, Z8, Z9, Z10, Z11, Z12, Z13] at h4
      refine HC_seq fun K5 hK5 => ?_; refine HC_region ?_; refine HL_r rfl rfl rfl rfl (R_assign rfl) ?_; refine HL_r rfl rfl rfl rfl (R_assign rfl) ?_; refine HL_nil ?_; refine HQ_then ?_; refine hK5 _ _ _ _ ?_; clear hK5 K5; refine HC_ret ?_; refine HQ_thenR ?_; clear hK2 K2; refine HQ_post rfl rfl (.cons (res_tmp rfl) (.cons (res_tmp rfl) .nil)) (fun w1 hs1 => ?_); exact ⟨rfl, hs1.keep⟩
    · try exact Bool.noConfusion h4
      try simp only [Z1, Z2, Z3, Z4, Z5, Z6, Z7, Z8, Z9, Z10, Z11, Z12, Z13] at h4
      refine HC_skip ?_; refine HQ_then ?_; refine hK2 _ _ _ _ ?_; clear hK2 K2; refine HC_seq fun K6 hK6 => ?_; refine HC_region ?_; refine HL_r rfl rfl rfl rfl (R_move rfl) ?_
      exfalso; omega
end Go.Proofs.YtlcbfphioeppaaaGreatDoor
namespace Go.Proofs.YtlcbfphioeppaaaGreatDoor
set_option linter.all false
open Go.SL Go.RowKit Go.Shelf
theorem chC_snoc (l : List BS) (s : BS) : chC (l ++ [s]) = chC l ++ [strV s] := by unfold chC; rw [List.map_append]; rfl
end Go.Proofs.YtlcbfphioeppaaaGreatDoor
namespace Go.Proofs.YtlcbfphioeppaaaGreatDoor
set_option linter.all false
open Go.SL Go.RowKit Go.Shelf
/-! ### Reverse, number, root of a number -/
theorem mapV_get {Y : BS} {i : Nat} (h : i < Y.length) : (Y.map bV)[i]? = some (bV (Y.getD i 0)) := by
  rw [List.getElem?_map, List.getD_eq_getElem?_getD, List.getElem?_eq_getElem h]; rfl
def revS (xs : BS) : Nat → BS
  | 0 => xs
  | i + 1 => ((revS xs i).set i ((revS xs i).getD (xs.length - 1 - i) 0)).set (xs.length - 1 - i) ((revS xs i).getD i 0)
theorem revS_len (xs : BS) : ∀ i, (revS xs i).length = xs.length
  | 0 => rfl
  | i + 1 => by rw [revS, List.length_set, List.length_set, revS_len xs i]
theorem getD_set {Y : BS} {i j : Nat} {b : UInt8} (hi : i < Y.length) : (Y.set i b).getD j 0 = if i = j then b else Y.getD j 0 := by
  rw [List.getD_eq_getElem?_getD, List.getElem?_set, List.getD_eq_getElem?_getD]
  split
  · first | rfl | (rw [if_pos hi]; rfl) | simp [hi]
  · rfl
theorem revS_get (xs : BS) : ∀ {i j : Nat}, 2 * i ≤ xs.length → j < xs.length → (revS xs i).getD j 0 = if j < i ∨ xs.length - 1 - j < i then xs.getD (xs.length - 1 - j) 0 else xs.getD j 0
  | 0, j, _, hj => by rw [revS, if_neg (by omega)]
  | i + 1, j, hi, hj => by
    have h1 := revS_len xs i
    have ga := revS_get xs (i := i) (j := xs.length - 1 - i) (by omega) (by omega)
    have gb := revS_get xs (i := i) (j := i) (by omega) (by omega)
    have gj := revS_get xs (i := i) (j := j) (by omega) hj
    rw [if_neg (by omega)] at ga gb; rw [revS, getD_set (by rw [List.length_set, h1]; omega), getD_set (by rw [h1]; omega), ga, gb, gj]
    by_cases e1 : xs.length - 1 - i = j
    · rw [if_pos e1, if_pos (by omega)]
      congr 1; omega
    · rw [if_neg e1]
      by_cases e2 : i = j
      · rw [if_pos e2, if_pos (by omega)]
        congr 1; omega
      · rw [if_neg e2]
        by_cases e3 : j < i ∨ xs.length - 1 - j < i
        · rw [if_pos e3, if_pos (by omega)]
        · rw [if_neg e3, if_neg (by omega)]
theorem revS_rev {xs : BS} {i : Nat} (h1 : 2 * i ≤ xs.length) (h2 : xs.length ≤ 2 * i + 1) : revS xs i = xs.reverse := by
  apply List.ext_getElem?
  intro j
  by_cases hj : j < xs.length
  · have e1 : (revS xs i)[j]? = some ((revS xs i).getD j 0) := by rw [List.getD_eq_getElem?_getD, List.getElem?_eq_getElem (by rw [revS_len]; exact hj)]; rfl
    rw [e1, revS_get xs h1 hj, List.getElem?_reverse hj]
    have e2 : xs[xs.length - 1 - j]? = some (xs.getD (xs.length - 1 - j) 0) := by rw [List.getD_eq_getElem?_getD, List.getElem?_eq_getElem (by omega)]; rfl
    rw [e2]
    by_cases e3 : j < i ∨ xs.length - 1 - j < i
    · rw [if_pos e3]
    · rw [if_neg e3, show xs.length - 1 - j = j by omega]
  · rw [List.getElem?_eq_none (by rw [revS_len]; omega), List.getElem?_eq_none (by rw [List.length_reverse]; omega)]
theorem set_mapV {Y : BS} {sp : List Value} {i : Nat} {b : UInt8} (h : i < Y.length) : (Y.map bV ++ sp).toArray.setIfInBounds i (bV b) = ((Y.set i b).map bV ++ sp).toArray := by
  rw [List.setIfInBounds_toArray, List.set_append_left _ _ (by rw [List.length_map]; exact h), List.map_set]
section
variable {c : Cx} {l : List (Nat × Value)} {L E : List (Nat × Obj)} {X : XP} {Q : Exit → Act → World → Prop} {d : List Deferred}
variable {ops : Array Oper} {rest : List Nat} {i k : Nat} {v : Value} {o : Oper} {tb : Kbs} {S : List (Nat × Obj)} {T : List (Nat × Obj) → Act → Prop}
theorem HB_storeF {t ty : TypeId} {ps : String} {af : Array Edge} {gd : Option (Nat × Bool)} {x y : Operand} {q r off : Nat} {cs cs' : Array Value} {e : TypeId} {fr : Nat × Nat} {E' : List (Nat × Obj)} (hko : nth ops.toList k = some ⟨none, .store t x y, ty, ps, af, gd⟩) (hg : goes l ops ⟨none, .store t x y, ty, ps, af, gd⟩ = some true) (hA : tb k = .turn)
    (hx : evl l x = some (.pointer (some ⟨r, off, none⟩))) (hk : E[q]? = some (r, .cells cs e fr)) (hy : evl l y = some v) (ht : szOf c.P t = some 1) (ho : oneB v = true) (hfr : frB fr off = false) (hc : (cs[off]?).isSome = true)
    (hcs : cs.setIfInBounds off v = cs') (hL : E.set q (r, .cells cs' e fr) = E') (hS : SubS S E')
    (h : HB c d l E' X S ops tb rest T) : HB c d l E X S ops tb (k :: rest) T :=
  HB_turn0 hko hg rfl hA (fun a w hf hs => ⟨w.setCell ⟨r, off, none⟩ v, by
    simp only [execOp]; rw [hf.eval hx, hf.eval hy]
    obtain ⟨old, hold⟩ := Option.isSome_iff_exists.1 hc
    have h1 := run_store c.P w ⟨r, off, none⟩ v .plain (by rw [oneB_eq]; exact ho)
    rw [cell_at (hs.get hk), hold, frozen_at (hs.get hk) hfr] at h1
    have hcell : v.cells = #[v] := by cases v <;> first | rfl | cases ho
    simp [Instr.storeAt, Instr.sureAddr, Sem.run_bind, Result.andThen, storeVar, run_sz ht, hcell, storeCells, Addr.add, h1], by
    subst hL; subst hcs
    exact hs.set hk (Keep.setCell r off v) (Go.SL.heap_setCell_same v (hs.get hk))⟩) hS h
end
section
variable {c : Cx} {l : List (Nat × Value)} {L : List (Nat × Obj)} {X : XP} {d : List Deferred} {i : Nat} {ps : String} {af : Array Edge} {gd : Option (Nat × Bool)} {ty : TypeId}
theorem R_bytesStrG {x : Operand} {b : List UInt8} {r n cap : Nat} {cs : Array Value} {e src dst : TypeId} {fr : Nat × Nat} (hx : evl l x = some (.slice (some ⟨r, 0, none⟩) n cap)) (hk : known c L r (.cells cs e fr)) (hn : n = b.length) (ht : cs.toList.take b.length = b.map bV)
    (hs : sliceOf c.P src = some e) (he : c.P.underlying e = some (.int .u8)) (hd : strB c.P dst = true) :
    RunsTo c d l L X ⟨some i, .convert src dst x, ty, ps, af, gd⟩ (.string (bs b)) := fun a' w hf hst => by
  subst hn; simp only [execOp]; rw [hf.eval hx]
  have hget := hst.known hk
  have hl := run_loadRow (P := c.P) (xs := b.map bV) hget (by rw [List.length_map]; exact ht)
  rw [List.length_map] at hl; simp only [Sem.run_bind]; rw [run_convert_bytes_string w src dst e _ _ _ (und_slice hs) he (und_str hd)]; rw [run_bytesToString w _ _ _ (b.map fun x => ((x.toNat : Nat) : Int)) (by rw [hl]; simp [bV, Function.comp_def])]
  have := fold_push b []
  rw [show (bs [] : ByteArray) = ByteArray.empty from rfl] at this; rw [this]
  rfl
end
set_option maxRecDepth 10000 in
theorem T_Reverse {xs : BS} {sp : List Value} {r cap : Nat} {fr : Nat × Nat} (hfr : ∀ q, q < xs.length → frB fr q = false) (hc : xs.length ≤ cap) (hx : xs.length ≤ 9223372036854775807) : PureT (α := Unit) Tryz.prog 181 [.slice (some ⟨r, 0, none⟩) xs.length cap].toArray (fun _ => .tuple #[])
    [(r, .cells (xs.map bV ++ sp).toArray 5 fr)] (fun _ => [(r, .cells (xs.reverse.map bV ++ sp).toArray 5 fr)]) [] := by
  refine pureT_of_HC Tryz.func181 rfl rfl fun w => ?_; refine HC_seq fun K1 hK1 => ?_; refine HC_region ?_; refine HL_r rfl rfl rfl rfl (R_move rfl) ?_; refine HL_r rfl rfl rfl rfl (R_lenSl rfl rfl) ?_; refine HL_r rfl rfl rfl rfl (R_pure rfl rfl rfl) ?_; refine HL_as (show _ = Value.int .i64 ((xs.length : Int) - 1) from congrArg (Value.int .i64) (wrap_i64 (by omega) (by omega))) ?_; refine HL_r rfl rfl rfl rfl (R_assign rfl) ?_; refine HL_r rfl rfl rfl rfl (R_assign rfl) ?_; refine HL_nil ?_; refine HQ_then ?_; refine hK1 _ _ _ _ ?_; clear hK1 K1; refine HC_block ?_; refine HC_loop (σ := Nat) (fun i => 2 * i ≤ xs.length + 1 ∧ 2 * i ≤ xs.length) (fun i => [(0, .slice (some ⟨r, 0, none⟩) xs.length cap), (2, .int .i64 (i : Int)), (3, .int .i64 ((xs.length : Int) - 1 - (i : Int)))]) (fun i => [(r, .cells ((revS xs i).map bV ++ sp).toArray 5 fr)]) (fun _ _ _ => True) (fun i => xs.length - i) 0 ⟨by omega, by omega⟩ (.cons rfl (.cons rfl (.cons (by rw [show ((0 : Nat) : Int) = 0 from rfl, Int.sub_zero]; rfl) .nil))) (List.Sublist.refl _) (fun _ _ h => h) ?_; rintro i ⟨hi1, hi2⟩; refine HC_seq fun K2 hK2 => ?_; refine HC_seq fun K3 hK3 => ?_; refine HC_region ?_; refine HL_r rfl rfl rfl rfl (R_move rfl) ?_; refine HL_r rfl rfl rfl rfl (R_move rfl) ?_; refine HL_r rfl rfl rfl rfl (R_pure rfl rfl rfl) ?_; refine HL_nil ?_; refine HQ_then ?_; refine hK3 _ _ _ _ ?_; clear hK3 K3; refine HC_cond rfl (fun h4 => ?_) (fun h4 => ?_)
  · try exact Bool.noConfusion h4
    try simp only [Z1, Z2, Z3, Z4, Z5, Z6, Z7, Z8, Z9, Z10, Z11, Z12, Z13] at h4
    refine HC_skip ?_; refine HQ_then ?_; refine hK2 _ _ _ _ ?_; clear hK2 K2; refine HC_seq fun K5 hK5 => ?_; refine HC_block ?_
    have hii : i + 1 ≤ xs.length - i := by omega
    obtain ⟨Y, hY⟩ : ∃ Y, Y = revS xs i := ⟨_, rfl⟩
    have hYl : Y.length = xs.length := by rw [hY]; exact revS_len xs i
    rw [← hY]
    refine HC_drawB [] [(0, .pure), (1, .pure), (2, .pure), (3, .pure), (4, .pure), (5, .pure), (6, .pure), (8, .pure), (9, .pure), (10, .pure), (12, .pure), (13, .turn), (14, .pure), (15, .turn)] 16 [0, 1, 2, 3, 4, 5, 6, 7, 8, 9, 10, 11, 12, 13, 14, 15] (by kernel_rfl) (by kernel_rfl) (by first | exact (fun _ h => nomatch h) | simp [SubS] | (intro p hp; simp [hp])) ?_; refine HB_p (k := 0) rfl rfl rfl rfl rfl (fun _ hS => (R_move rfl)) ?_; refine HB_p (k := 1) rfl rfl rfl rfl rfl (fun _ hS => (R_move rfl)) ?_; refine HB_p (k := 2) rfl rfl rfl rfl rfl (fun _ hS => (R_move rfl)) ?_; refine HB_p (k := 3) rfl rfl rfl rfl rfl (fun _ hS => (R_move rfl)) ?_; refine HB_p (k := 4) rfl rfl rfl rfl rfl (fun _ hS => (R_move rfl)) ?_; refine HB_p (k := 5) rfl rfl rfl rfl rfl (fun _ hS => (R_move rfl)) ?_; refine HB_p (k := 6) rfl rfl rfl rfl rfl (fun _ _ => R_indexS (j := (xs.length - 1 - i)) (m := 1) (off' := (xs.length - 1 - i)) rfl rfl rfl rfl (by omega) (by omega) (by omega)) ?_; refine HB_r (k := 7) rfl rfl rfl rfl rfl (R_load rfl (known_L (k := 0) rfl) rfl (nth_row (xs := Y.map bV) (v := bV (Y.getD (xs.length - 1 - i) 0)) (mapV_get (by omega)))) ?_; refine HB_p (k := 8) rfl rfl rfl rfl rfl (fun _ hS => (R_move rfl)) ?_; refine HB_p (k := 9) rfl rfl rfl rfl rfl (fun _ hS => (R_move rfl)) ?_; refine HB_p (k := 10) rfl rfl rfl rfl rfl (fun _ _ => R_indexS (j := i) (m := 1) (off' := i) rfl rfl rfl rfl (by omega) (by omega) (by omega)) ?_; refine HB_r (k := 11) rfl rfl rfl rfl rfl (R_load rfl (known_L (k := 0) rfl) rfl (nth_row (xs := Y.map bV) (v := bV (Y.getD (i) 0)) (mapV_get (by omega)))) ?_; refine HB_p (k := 12) rfl rfl rfl rfl rfl (fun _ _ => R_indexS (j := i) (m := 1) (off' := i) rfl rfl rfl rfl (by omega) (by omega) (by omega)) ?_; refine HB_storeF (k := 13) (q := 0) (cs' := ((Y.set i (Y.getD (xs.length - 1 - i) 0)).map bV ++ sp).toArray) rfl rfl rfl rfl rfl rfl rfl rfl (hfr _ (by omega)) (by simp; omega) (set_mapV (by omega)) rfl (fun _ h => nomatch h) ?_; refine HB_p (k := 14) rfl rfl rfl rfl rfl (fun _ _ => R_indexS (j := (xs.length - 1 - i)) (m := 1) (off' := (xs.length - 1 - i)) rfl rfl rfl rfl (by omega) (by omega) (by omega)) ?_; refine HB_storeF (k := 15) (q := 0) (cs' := ((revS xs (i + 1)).map bV ++ sp).toArray) rfl rfl rfl rfl rfl rfl rfl rfl (hfr _ (by omega)) (by simp; omega) (by rw [set_mapV (by rw [List.length_set]; omega), revS, ← hY]) rfl (fun _ h => nomatch h) ?_; refine HB_end ?_; refine HL_nil ?_; refine HQ_blockN ?_; refine HQ_then ?_; refine hK5 _ _ _ _ ?_; clear hK5 K5; refine HC_region ?_; refine HL_r rfl rfl rfl rfl (R_move rfl) ?_; refine HL_r rfl rfl rfl rfl (R_pure rfl rfl rfl) ?_; refine HL_wrap_i64 (by omega) (by omega) ?_; refine HL_r rfl rfl rfl rfl (R_move rfl) ?_
    refine HL_r rfl rfl rfl rfl (R_pure rfl rfl rfl) ?_; refine HL_as (show _ = Value.int .i64 ((xs.length : Int) - 1 - ((i + 1 : Nat) : Int)) from by rw [wrap_i64 (by omega) (by omega)]; congr 1 <;> omega) ?_; refine HL_r rfl rfl rfl rfl (R_assign rfl) ?_; refine HL_r rfl rfl rfl rfl (R_assign rfl) ?_; refine HL_nil ?_; refine HQ_then ?_; exact HQ_again (i + 1) ⟨by omega, by omega⟩ (by omega) (.cons rfl (.cons rfl (.cons rfl .nil))) (List.Sublist.refl _) (fun _ _ h => h)
  · try exact Bool.noConfusion h4
    try simp only [Z1, Z2, Z3, Z4, Z5, Z6, Z7, Z8, Z9, Z10, Z11, Z12, Z13] at h4
    refine HC_exit ?_; refine HQ_thenE ?_; clear hK2 K2; refine HQ_thenE ?_; refine HQ_blockE ?_; refine HQ_postN rfl rfl .nil (fun w1 hs1 => ?_); exact ⟨(), rfl, by rw [← revS_rev (xs := xs) (i := i) (by omega) (by omega)]; exact hs1⟩
theorem leW32 (w : List Nat) : leW w 32 = (beD w 32).reverse := by unfold leW; rw [List.take_of_length_le (by rw [List.length_reverse, beD_len]; exact Nat.le_refl _)]
set_option maxRecDepth 10000 in
theorem P_number (t : Ty) {R : List (Nat × Obj)} {v : Vl} (hv : v.In R) : Pure Tryz.prog 103 [t.val, v.val].toArray (strV (leW v.num 32)) := by
  obtain ⟨k, n, p, ins⟩ := t
  cases hv with
  | @mk a b c d bits pb items pi pick ha hb hc hd hlb hsb hl hs hp hi =>
  have hw : WOk [a, b, c, d] := ⟨rfl, fun x hx => by simp at hx; rcases hx with rfl | rfl | rfl | rfl <;> assumption⟩
  show Pure _ _ _ (strV (leW [a, b, c, d] 32))
  rw [leW32]
  have hfx := P_word_Fixed hw
  have hlen := beD_len [a, b, c, d] 32
  generalize beD [a, b, c, d] 32 = B at hfx hlen
  refine pure_of_HC Tryz.func103 rfl rfl fun w => ?_; refine HC_seq fun K1 hK1 => ?_; refine HC_region ?_; refine HL_box (cs := #[_, _, _]) rfl rfl rfl rfl fun r1 => ?_; refine HL_box (cs := #[_, _, _, _, _, _, _]) rfl rfl rfl rfl fun r2 => ?_; refine HL_r rfl rfl rfl rfl (R_assign rfl) ?_; refine HL_nil ?_; refine HQ_then ?_; refine hK1 _ _ _ _ ?_; clear hK1 K1; refine HC_seq fun K2 hK2 => ?_; refine HC_region ?_
  refine HL_r rfl rfl rfl rfl (R_fieldAddr rfl rfl (by first | (simp only [Nat.zero_add, Nat.reduceAdd, Nat.reduceMul, Nat.zero_mul, Nat.mul_one, Nat.add_zero]; exact rfl) | exact rfl)) ?_; refine HL_r rfl rfl rfl rfl (R_loadA (vs := [_, _, _, _]) rfl (known_L (k := 0) rfl) rfl rfl rfl rfl) ?_; refine HL_callP rfl rfl rfl (enters_of Tryz.func68 (by kernel_rfl) rfl) hfx ?_; refine HL_strBytes rfl rfl rfl rfl rfl rfl fun rb kb => ?_; refine HL_r rfl rfl rfl rfl (R_assign rfl) ?_; refine HL_nil ?_; refine HQ_then ?_; refine hK2 _ _ _ _ ?_; clear hK2 K2; refine HC_seq fun K3 hK3 => ?_; refine HC_region ?_; refine HL_r rfl rfl rfl rfl (R_move rfl) ?_; refine HL_callT (T := [(rb, .cells (B.map bV ++ List.replicate kb (Value.int .u8 0)).toArray 5 (B.length + kb, B.length + kb + 1))]) (L0 := [(r2, _), (r1, _)]) (Rl := []) (List.Perm.refl _) rfl rfl rfl (enters_of Tryz.func181 (by kernel_rfl) rfl) (T_Reverse (fun q hq => by simp [frB, Nat.blt, Nat.ble]; omega) (by omega) (by omega)) (fun q hq => nomatch hq) fun u => ?_; change HL _ _ _ ((rb, _) :: (r2, _) :: (r1, _) :: []) _ _ _ _; refine HL_nil ?_; refine HQ_then ?_; refine hK3 _ _ _ _ ?_; clear hK3 K3; refine HC_seq fun K4 hK4 => ?_; refine HC_region ?_; refine HL_r rfl rfl rfl rfl (R_move rfl) ?_; refine HL_r rfl rfl rfl rfl (R_bytesStrG (b := B.reverse) rfl (known_L (k := 0) rfl) (by rw [List.length_reverse]) (by simp only [List.toList_toArray]; rw [List.take_left' (by rw [List.length_map])]) rfl rfl rfl) ?_; refine HL_r rfl rfl rfl rfl (R_assign rfl) ?_; refine HL_nil ?_; refine HQ_then ?_; refine hK4 _ _ _ _ ?_; clear hK4 K4; refine HC_ret ?_; refine HQ_post rfl rfl (.cons (res_tmp rfl) .nil) (fun w1 hs1 => ?_); exact ⟨rfl, hs1.keep⟩
def rootM : Array MapEntry := #[⟨.int .i64 1, .func (.func 103) #[] #[], 0⟩, ⟨.int .i64 2, .func (.func 103) #[] #[], 1⟩, ⟨.int .i64 3, .func (.func 104) #[] #[], 2⟩, ⟨.int .i64 4, .func (.func 106) #[] #[], 3⟩,
  ⟨.int .i64 5, .func (.func 108) #[] #[], 4⟩, ⟨.int .i64 6, .func (.func 110) #[] #[], 5⟩, ⟨.int .i64 7, .func (.func 111) #[] #[], 6⟩, ⟨.int .i64 8, .func (.func 113) #[] #[], 7⟩]
theorem rootM_dom : ∀ e ∈ rootM.toList, isI e.key := by
  intro e he
  unfold rootM at he
  simp at he
  rcases he with rfl | rfl | rfl | rfl | rfl | rfl | rfl | rfl <;> exact ⟨_, rfl⟩
set_option maxRecDepth 10000 in
theorem P_root1 {R : List (Nat × Obj)} {n : Int} {p : Pl} {ins : List Ty} {v : Vl} (hv : v.In R) : Pure Tryz.prog 60 [Ty.val (.mk 1 n p ins), v.val].toArray (strV (leW v.num 32)) := by
  have hnum := P_number (.mk 1 n p ins) hv
  obtain ⟨a, b, c, d, bits, pb, items, pi, pick⟩ := v
  generalize leW (Vl.num (.mk a b c d bits pb items pi pick)) 32 = z at hnum
  refine pure_of_HC Tryz.func60 rfl rfl fun w => ?_; refine HC_seq fun K1 hK1 => ?_; refine HC_region ?_; refine HL_box (cs := #[_, _, _]) rfl rfl rfl rfl fun r1 => ?_; refine HL_box (cs := #[_, _, _, _, _, _, _]) rfl rfl rfl rfl fun r2 => ?_; refine HL_r rfl rfl rfl rfl (R_assign rfl) ?_; refine HL_nil ?_; refine HQ_then ?_; refine hK1 _ _ _ _ ?_; clear hK1 K1; refine HC_seq fun K2 hK2 => ?_; refine HC_region ?_; refine HL_makeMap rfl rfl fun rm => ?_; refine HL_insert (q := 0) (key := .int .i64 1) (val := .func (.func 103) #[] #[]) (keyI (t := 3) (by kernel_rfl)) rfl rfl rfl rfl rfl rfl ⟨_, rfl⟩ (by intro e he; simp at he) rfl rfl ?_
  refine HL_insert (q := 0) (key := .int .i64 2) (val := .func (.func 103) #[] #[]) (keyI (t := 3) (by kernel_rfl)) rfl rfl rfl rfl rfl rfl ⟨_, rfl⟩ (by intro e he; simp at he; rcases he with rfl <;> exact ⟨_, rfl⟩) rfl rfl ?_
  refine HL_insert (q := 0) (key := .int .i64 3) (val := .func (.func 104) #[] #[]) (keyI (t := 3) (by kernel_rfl)) rfl rfl rfl rfl rfl rfl ⟨_, rfl⟩ (by intro e he; simp at he; rcases he with rfl | rfl <;> exact ⟨_, rfl⟩) rfl rfl ?_
  refine HL_insert (q := 0) (key := .int .i64 4) (val := .func (.func 106) #[] #[]) (keyI (t := 3) (by kernel_rfl)) rfl rfl rfl rfl rfl rfl ⟨_, rfl⟩ (by intro e he; simp at he; rcases he with rfl | rfl | rfl <;> exact ⟨_, rfl⟩) rfl rfl ?_
  refine HL_insert (q := 0) (key := .int .i64 5) (val := .func (.func 108) #[] #[]) (keyI (t := 3) (by kernel_rfl)) rfl rfl rfl rfl rfl rfl ⟨_, rfl⟩ (by intro e he; simp at he; rcases he with rfl | rfl | rfl | rfl <;> exact ⟨_, rfl⟩) rfl rfl ?_
  refine HL_insert (q := 0) (key := .int .i64 6) (val := .func (.func 110) #[] #[]) (keyI (t := 3) (by kernel_rfl)) rfl rfl rfl rfl rfl rfl ⟨_, rfl⟩ (by intro e he; simp at he; rcases he with rfl | rfl | rfl | rfl | rfl <;> exact ⟨_, rfl⟩) rfl rfl ?_
  refine HL_insert (q := 0) (key := .int .i64 7) (val := .func (.func 111) #[] #[]) (keyI (t := 3) (by kernel_rfl)) rfl rfl rfl rfl rfl rfl ⟨_, rfl⟩ (by intro e he; simp at he; rcases he with rfl | rfl | rfl | rfl | rfl | rfl <;> exact ⟨_, rfl⟩) rfl rfl ?_
  refine HL_insert (q := 0) (key := .int .i64 8) (val := .func (.func 113) #[] #[]) (keyI (t := 3) (by kernel_rfl)) rfl rfl rfl rfl rfl rfl ⟨_, rfl⟩ (by intro e he; simp at he; rcases he with rfl | rfl | rfl | rfl | rfl | rfl | rfl <;> exact ⟨_, rfl⟩) rfl rfl ?_; change HL _ _ _ ((rm, .map rootM 8) :: _) _ _ _ _; refine HL_r rfl rfl rfl rfl (R_move rfl) ?_; refine HL_r rfl rfl rfl rfl (R_assign rfl) ?_; refine HL_nil ?_; refine HQ_then ?_; refine hK2 _ _ _ _ ?_; clear hK2 K2; refine HC_seq fun K3 hK3 => ?_; refine HC_region ?_; refine HL_r rfl rfl rfl rfl (R_move rfl) ?_
  refine HL_r rfl rfl rfl rfl (R_fieldAddr rfl rfl (by first | (simp only [Nat.zero_add, Nat.reduceAdd, Nat.reduceMul, Nat.zero_mul, Nat.mul_one, Nat.add_zero]; exact rfl) | exact rfl)) ?_; refine HL_r rfl rfl rfl rfl (R_load rfl (known_L (k := 2) rfl) rfl rfl) ?_; refine HL_r rfl rfl rfl rfl (R_lookup (v := .func (.func 103) #[] #[]) (keyI (t := 3) (by kernel_rfl)) rfl rfl (known_L (k := 0) rfl) rfl rfl ⟨_, rfl⟩ rootM_dom (by rfl)) ?_; refine HL_r rfl rfl rfl rfl (R_loadA (vs := [_, _, _]) rfl (known_L (k := 2) rfl) rfl rfl rfl rfl) ?_; refine HL_r rfl rfl rfl rfl (R_loadA (vs := [_, _, _, _, _, _, _]) rfl (known_L (k := 1) rfl) rfl rfl rfl rfl) ?_; refine HL_callP rfl rfl rfl (enters_of Tryz.func103 (by kernel_rfl) rfl) hnum ?_; refine HL_r rfl rfl rfl rfl (R_assign rfl) ?_; refine HL_nil ?_; refine HQ_then ?_; refine hK3 _ _ _ _ ?_; clear hK3 K3; refine HC_ret ?_; refine HQ_post rfl rfl (.cons (res_tmp rfl) .nil) (fun w1 hs1 => ?_); exact ⟨rfl, hs1.keep⟩
end Go.Proofs.YtlcbfphioeppaaaGreatDoor
