import Derived.Test.YthfinkklgbiaeaaDoorNa
namespace Go.Proofs.YthfinkklgbiaeaaDoor
set_option linter.all false
open Go.SL Go.RowKit Go.Shelf
theorem div_succ (n d i : Nat) : n / d ^ (i + 1) = n / d ^ i / d := by rw [Nat.pow_succ, Nat.div_div_eq_div_mul]
theorem leN_snocV (n i : Nat) : (leN n (i + 1)).map bV = (leN n i).map bV ++ [bV (UInt8.ofNat (n / 256 ^ i % 256))] := by rw [leN_snoc]; simp
set_option maxRecDepth 10000 in
theorem P_ref_Le {n : Nat} (hn : n < 18446744073709551616) (k : Int) : Pure Tryd.prog 24 [uV n, .int .i64 k].toArray (resS (leR n k)) := by
  refine pure_of_HC Tryd.func24 rfl rfl fun w => ?_
  refine HC_seq fun K1 hK1 => ?_
  refine HC_region ?_
  all_goals refine HL_r rfl rfl rfl rfl (R_assign rfl) ?_
  all_goals refine HL_r rfl rfl rfl rfl (R_assign rfl) ?_
  all_goals refine HL_nil ?_
  all_goals (
    refine HQ_then ?_
    refine hK1 _ _ _ _ ?_; clear hK1 K1
    refine HC_seq fun K2 hK2 => ?_
    refine HC_seq fun K3 hK3 => ?_
    refine HC_region ?_
    all_goals refine HL_r rfl rfl rfl rfl (R_move rfl) ?_
    all_goals refine HL_r rfl rfl rfl rfl (R_pure rfl rfl rfl) ?_
    all_goals refine HL_r rfl rfl rfl rfl (R_move rfl) ?_
    all_goals first
      | (refine HL_r rfl rfl rfl rfl (R_move rfl) ?_)
      | (refine HL_skip rfl rfl rfl ?_)
      | (refine HL_case 10 rfl (fun hb4 => ?_) (fun hb4 => ?_) <;> (try simp only [decide_eq_true_eq, decide_eq_false_iff_not, beq_iff_eq, beq_eq_false_iff_ne, bne_iff_ne, bne_eq_false_iff_eq, Bool.not_eq_true', Bool.not_eq_false', ne_eq, Int.not_lt, Int.not_le, ge_iff_le, gt_iff_lt] at hb4) <;> first | (refine HL_r rfl rfl rfl rfl (R_move rfl) ?_) | (refine HL_skip rfl rfl rfl ?_))
    all_goals first
      | (refine HL_r rfl rfl rfl rfl (R_pure rfl rfl rfl) ?_)
      | (refine HL_skip rfl rfl rfl ?_)
      | (refine HL_case 10 rfl (fun hb5 => ?_) (fun hb5 => ?_) <;> (try simp only [decide_eq_true_eq, decide_eq_false_iff_not, beq_iff_eq, beq_eq_false_iff_ne, bne_iff_ne, bne_eq_false_iff_eq, Bool.not_eq_true', Bool.not_eq_false', ne_eq, Int.not_lt, Int.not_le, ge_iff_le, gt_iff_lt] at hb5) <;> first | (refine HL_r rfl rfl rfl rfl (R_pure rfl rfl rfl) ?_) | (refine HL_skip rfl rfl rfl ?_))
    all_goals first
      | (refine HL_r rfl rfl rfl rfl (R_pickT rfl rfl) ?_)
      | (refine HL_r rfl rfl rfl rfl (R_pickF rfl rfl) ?_)
    all_goals refine HL_r rfl rfl rfl rfl (R_move rfl) ?_
    all_goals first
      | (refine HL_r rfl rfl rfl rfl (R_move rfl) ?_)
      | (refine HL_skip rfl rfl rfl ?_)
      | (refine HL_case 14 rfl (fun hb6 => ?_) (fun hb6 => ?_) <;> (try simp only [decide_eq_true_eq, decide_eq_false_iff_not, beq_iff_eq, beq_eq_false_iff_ne, bne_iff_ne, bne_eq_false_iff_eq, Bool.not_eq_true', Bool.not_eq_false', ne_eq, Int.not_lt, Int.not_le, ge_iff_le, gt_iff_lt] at hb6) <;> first | (refine HL_r rfl rfl rfl rfl (R_move rfl) ?_) | (refine HL_skip rfl rfl rfl ?_))
    all_goals first
      | (refine HL_callP rfl rfl rfl (enters_of Tryd.func22 (by kernel_rfl) rfl) (P_ref_Be hn) ?_)
      | (refine HL_skip rfl rfl rfl ?_)
      | (refine HL_case 14 rfl (fun hb7 => ?_) (fun hb7 => ?_) <;> (try simp only [decide_eq_true_eq, decide_eq_false_iff_not, beq_iff_eq, beq_eq_false_iff_ne, bne_iff_ne, bne_eq_false_iff_eq, Bool.not_eq_true', Bool.not_eq_false', ne_eq, Int.not_lt, Int.not_le, ge_iff_le, gt_iff_lt] at hb7) <;> first | (refine HL_callP rfl rfl rfl (enters_of Tryd.func22 (by kernel_rfl) rfl) (P_ref_Be hn) ?_) | (refine HL_skip rfl rfl rfl ?_))
    all_goals first
      | (refine HL_r rfl rfl rfl rfl (R_lenBs rfl rfl) ?_)
      | (refine HL_r rfl rfl rfl rfl (R_lenSl rfl rfl) ?_)
      | (refine HL_r rfl rfl rfl rfl (R_lenStr rfl rfl rfl) ?_)
      | (refine HL_r rfl rfl rfl rfl (R_pure rfl rfl rfl) ?_)
      | (refine HL_skip rfl rfl rfl ?_)
      | (refine HL_case 14 rfl (fun hb8 => ?_) (fun hb8 => ?_) <;> (try simp only [decide_eq_true_eq, decide_eq_false_iff_not, beq_iff_eq, beq_eq_false_iff_ne, bne_iff_ne, bne_eq_false_iff_eq, Bool.not_eq_true', Bool.not_eq_false', ne_eq, Int.not_lt, Int.not_le, ge_iff_le, gt_iff_lt] at hb8) <;> first | (refine HL_r rfl rfl rfl rfl (R_lenBs rfl rfl) ?_) | (refine HL_r rfl rfl rfl rfl (R_lenSl rfl rfl) ?_) | (refine HL_r rfl rfl rfl rfl (R_lenStr rfl rfl rfl) ?_) | (refine HL_r rfl rfl rfl rfl (R_pure rfl rfl rfl) ?_) | (refine HL_skip rfl rfl rfl ?_))
    all_goals first
      | (refine HL_r rfl rfl rfl rfl (R_move rfl) ?_)
      | (refine HL_skip rfl rfl rfl ?_)
      | (refine HL_case 14 rfl (fun hb9 => ?_) (fun hb9 => ?_) <;> (try simp only [decide_eq_true_eq, decide_eq_false_iff_not, beq_iff_eq, beq_eq_false_iff_ne, bne_iff_ne, bne_eq_false_iff_eq, Bool.not_eq_true', Bool.not_eq_false', ne_eq, Int.not_lt, Int.not_le, ge_iff_le, gt_iff_lt] at hb9) <;> first | (refine HL_r rfl rfl rfl rfl (R_move rfl) ?_) | (refine HL_skip rfl rfl rfl ?_))
    all_goals first
      | (refine HL_r rfl rfl rfl rfl (R_pure rfl rfl rfl) ?_)
      | (refine HL_skip rfl rfl rfl ?_)
      | (refine HL_case 14 rfl (fun hb10 => ?_) (fun hb10 => ?_) <;> (try simp only [decide_eq_true_eq, decide_eq_false_iff_not, beq_iff_eq, beq_eq_false_iff_ne, bne_iff_ne, bne_eq_false_iff_eq, Bool.not_eq_true', Bool.not_eq_false', ne_eq, Int.not_lt, Int.not_le, ge_iff_le, gt_iff_lt] at hb10) <;> first | (refine HL_r rfl rfl rfl rfl (R_pure rfl rfl rfl) ?_) | (refine HL_skip rfl rfl rfl ?_))
    all_goals first
      | (refine HL_r rfl rfl rfl rfl (R_pickT rfl rfl) ?_)
      | (refine HL_r rfl rfl rfl rfl (R_pickF rfl rfl) ?_)
    all_goals refine HL_nil ?_
    all_goals (
      refine HQ_then ?_
      refine hK3 _ _ _ _ ?_; clear hK3 K3
      refine HC_cond rfl (fun h11 => ?_) (fun h11 => ?_)
      · try exact Bool.noConfusion h11
        all_goals try simp only [decide_eq_true_eq, decide_eq_false_iff_not, beq_iff_eq, beq_eq_false_iff_ne, bne_iff_ne, bne_eq_false_iff_eq, Bool.not_eq_true', Bool.not_eq_false', ne_eq, Int.not_lt, Int.not_le, ge_iff_le, gt_iff_lt] at h11
        all_goals (
          refine HC_seq fun K12 hK12 => ?_
          refine HC_region ?_
          all_goals refine HL_r rfl rfl rfl rfl (R_assign rfl) ?_
          all_goals refine HL_r rfl rfl rfl rfl (R_assign rfl) ?_
          all_goals refine HL_nil ?_
          all_goals (
            refine HQ_then ?_
            refine hK12 _ _ _ _ ?_; clear hK12 K12
            refine HC_ret ?_
            refine HQ_thenR ?_; clear hK2 K2
            refine HQ_post rfl rfl (.cons (res_tmp rfl) (.cons (res_tmp rfl) .nil)) (fun w1 hs1 => ?_)
            refine ⟨?_, hs1.keep⟩
            first
              | (rw [hlr]; rfl)
              | (rw [show leR n k = ([], 1) from by unfold leR; rw [if_pos (by omega)]]; rfl)
            skip)
          skip)
      · try exact Bool.noConfusion h11
        all_goals try simp only [decide_eq_true_eq, decide_eq_false_iff_not, beq_iff_eq, beq_eq_false_iff_ne, bne_iff_ne, bne_eq_false_iff_eq, Bool.not_eq_true', Bool.not_eq_false', ne_eq, Int.not_lt, Int.not_le, ge_iff_le, gt_iff_lt] at h11
        all_goals (
          refine HC_skip ?_
          refine HQ_then ?_
          refine hK2 _ _ _ _ ?_; clear hK2 K2
          refine HC_seq fun K13 hK13 => ?_
          refine HC_region ?_
          all_goals refine HL_r rfl rfl rfl rfl (R_assign rfl) ?_
          all_goals refine HL_nil ?_
          all_goals (
            refine HQ_then ?_
            refine hK13 _ _ _ _ ?_; clear hK13 K13
            refine HC_seq fun K14 hK14 => ?_
            refine HC_seq fun K15 hK15 => ?_
            have hk1 : 1 ≤ k ∧ k ≤ 8 ∧ ((beN n).length : Int) ≤ k := by omega
            have hlr : leR n k = (leN n k.toNat, 0) := by unfold leR; rw [if_neg (by omega)]
            obtain ⟨k, rfl⟩ : ∃ j : Nat, k = j := ⟨k.toNat, by omega⟩
            rw [Int.toNat_natCast] at hlr
            refine HC_region ?_
            all_goals refine HL_r rfl rfl rfl rfl (R_assign rfl) ?_
            all_goals refine HL_nil ?_
            all_goals (
              refine HQ_then ?_
              refine hK15 _ _ _ _ ?_; clear hK15 K15
              refine HC_block ?_
              refine HC_loop (σ := Nat × List Value × Row) (fun q => q.1 ≤ k ∧ q.2.1 = (leN n q.1).map bV ∧ rowOk 1 q.1 q.2.1 q.2.2) (fun q => [(0, uV (n / 256 ^ q.1)), (1, .int .i64 (k : Int)), (6, rowV q.1 q.2.2), (7, .int .i64 (q.1 : Int))]) (fun q => rowL 5 q.2.1 q.2.2) (fun _ _ _ => True) (fun q => k - q.1) (0, [], none) ⟨by simp, rfl, ⟨rfl, rfl⟩⟩ (.cons (by simp only [Nat.pow_zero, Nat.div_one]; rfl) (.cons rfl (.cons rfl (.cons rfl .nil)))) (List.nil_sublist _) (fun _ _ h => h) ?_
              rintro ⟨i, xs, row⟩ ⟨hi, hxs, hrow⟩
              simp only at hi hxs hrow ⊢
              refine HC_seq fun K16 hK16 => ?_
              refine HC_seq fun K17 hK17 => ?_
              refine HC_region ?_
              all_goals refine HL_r rfl rfl rfl rfl (R_move rfl) ?_
              all_goals refine HL_r rfl rfl rfl rfl (R_move rfl) ?_
              all_goals refine HL_r rfl rfl rfl rfl (R_pure rfl rfl rfl) ?_
              all_goals refine HL_nil ?_
              all_goals (
                refine HQ_then ?_
                refine hK17 _ _ _ _ ?_; clear hK17 K17
                refine HC_cond rfl (fun h18 => ?_) (fun h18 => ?_)
                · try exact Bool.noConfusion h18
                  all_goals try simp only [decide_eq_true_eq, decide_eq_false_iff_not, beq_iff_eq, beq_eq_false_iff_ne, bne_iff_ne, bne_eq_false_iff_eq, Bool.not_eq_true', Bool.not_eq_false', ne_eq, Int.not_lt, Int.not_le, ge_iff_le, gt_iff_lt] at h18
                  all_goals (
                    refine HC_skip ?_
                    refine HQ_then ?_
                    refine hK16 _ _ _ _ ?_; clear hK16 K16
                    refine HC_seq fun K19 hK19 => ?_
                    refine HC_block ?_
                    refine HC_seq fun K20 hK20 => ?_
                    refine HC_region ?_
                    all_goals refine HL_r rfl rfl rfl rfl (R_move rfl) ?_
                    all_goals refine HL_r rfl rfl rfl rfl (R_move rfl) ?_
                    all_goals refine HL_r rfl rfl rfl rfl (R_pure rfl rfl rfl) ?_; refine HL_as (show _ = uV (n / 256 ^ i % 256) from congrArg (Value.int .u64) (rem_nat _ 256)) ?_
                    all_goals refine HL_r rfl rfl rfl rfl (R_pure rfl rfl rfl) ?_; refine HL_as (show _ = bV (UInt8.ofNat (n / 256 ^ i % 256)) from byte_of (Nat.mod_lt _ (by decide))) ?_
                    all_goals refine HL_buildSlice (vs := [_]) (zs := [_]) (r := [_]) rfl rfl rfl rfl rfl rfl rfl rfl rfl (by show (madeCells #[_] _).toList = _; rw [made_one]; exact rfl) rfl fun r1 => ?_
                    all_goals refine HL_appendRow (L0 := [_]) (xs := xs) (row := row) (n := i) (sz := 1) (b := 1) (news := [_]) (List.perm_append_comm (l₁ := [_])) rfl rfl rfl rfl (known_L (k := 0) rfl) rfl rfl rfl rfl rfl (by decide) rfl rfl rfl (by decide) hrow (by omega) (by omega) fun ra cap sp hra => ?_
                    all_goals refine HL_r rfl rfl rfl rfl (R_assign rfl) ?_
                    all_goals refine HL_nil ?_
                    all_goals (
                      refine HQ_then ?_
                      refine hK20 _ _ _ _ ?_; clear hK20 K20
                      refine HC_region ?_
                      all_goals refine HL_r rfl rfl rfl rfl (R_move rfl) ?_
                      all_goals refine HL_r rfl rfl rfl rfl (R_pure rfl rfl rfl) ?_; refine HL_as (show _ = uV (n / 256 ^ (i + 1)) from congrArg (Value.int .u64) (by rw [div_succ]; exact quoU (by have := Nat.div_le_self n (256 ^ i); omega))) ?_
                      all_goals refine HL_r rfl rfl rfl rfl (R_assign rfl) ?_
                      all_goals refine HL_nil ?_
                      all_goals (
                        refine HQ_blockN ?_
                        refine HQ_then ?_
                        refine hK19 _ _ _ _ ?_; clear hK19 K19
                        refine HC_region ?_
                        all_goals refine HL_r rfl rfl rfl rfl (R_move rfl) ?_
                        all_goals first
                          | (refine HL_r rfl rfl rfl rfl (R_pure rfl rfl rfl) ?_; refine HL_wrap_i64 (by omega) (by omega) ?_)
                          | (refine HL_r rfl rfl rfl rfl (R_pure rfl rfl rfl) ?_)
                        all_goals refine HL_r rfl rfl rfl rfl (R_assign rfl) ?_
                        all_goals refine HL_nil ?_
                        all_goals (
                          refine HQ_then ?_
                          refine HQ_sel [0] (L' := [_]) (by decide) rfl ?_
                          exact HQ_again (i + 1, xs ++ [bV (UInt8.ofNat (n / 256 ^ i % 256))], some (ra, cap, sp)) ⟨by simp only; omega, by simp only; rw [leN_snocV, hxs], hra⟩ (by simp only; omega) (.cons rfl (.cons rfl (.cons rfl (.cons rfl .nil)))) (List.Sublist.refl _) (fun _ _ h => h)
                          skip)
                        skip)
                      skip)
                    skip)
                · try exact Bool.noConfusion h18
                  all_goals try simp only [decide_eq_true_eq, decide_eq_false_iff_not, beq_iff_eq, beq_eq_false_iff_ne, bne_iff_ne, bne_eq_false_iff_eq, Bool.not_eq_true', Bool.not_eq_false', ne_eq, Int.not_lt, Int.not_le, ge_iff_le, gt_iff_lt] at h18
                  all_goals (
                    refine HC_exit ?_
                    refine HQ_thenE ?_; clear hK16 K16
                    refine HQ_thenE ?_
                    refine HQ_blockE ?_
                    refine HQ_then ?_
                    refine hK14 _ _ _ _ ?_; clear hK14 K14
                    refine HC_seq fun K21 hK21 => ?_
                    have hik : k = i := by omega
                    subst hik
                    refine HC_region ?_
                    all_goals refine HL_r rfl rfl rfl rfl (R_move rfl) ?_
                    all_goals refine HL_r rfl rfl rfl rfl (R_bytesStr (b := leN n k) (row := row) (e := 5) (show _ = some (rowV (leN n k).length row) from by rw [leN_len]; rfl) (by rw [leN_len, ← hxs]; exact hrow) (fun p hp => .inl (by rw [hxs]; exact hp)) rfl rfl rfl) ?_
                    all_goals refine HL_r rfl rfl rfl rfl (R_assign rfl) ?_
                    all_goals refine HL_r rfl rfl rfl rfl (R_assign rfl) ?_
                    all_goals refine HL_nil ?_
                    all_goals (
                      refine HQ_then ?_
                      refine hK21 _ _ _ _ ?_; clear hK21 K21
                      refine HC_ret ?_
                      refine HQ_post rfl rfl (.cons (res_tmp rfl) (.cons (res_tmp rfl) .nil)) (fun w1 hs1 => ?_)
                      refine ⟨?_, hs1.keep⟩
                      first
                        | (rw [hlr]; rfl)
                        | (rw [show leR n k = ([], 1) from by unfold leR; rw [if_pos (by omega)]]; rfl)
                      skip)
                    skip)
                skip)
              skip)
            skip)
          skip)
      skip)
    skip)
def unleR (s : List UInt8) : Nat × Int := if s.length < 1 ∨ s.length > 8 then (0, 2) else (leV s, 0)
def resN (p : Nat × Int) : Value := .tuple #[uV p.1, .int .i64 p.2]
theorem leV_take {s : List UInt8} {i : Nat} (h : i < s.length) : leV (s.take (i + 1)) = leV (s.take i) + (s.getD i 0).toNat * 2 ^ (8 * i) := by
  rw [List.take_succ, List.getElem?_eq_getElem h]
  simp only [Option.toList_some]
  rw [leV_snoc, List.length_take, Nat.min_eq_left (by omega), show (256 : Nat) = 2 ^ 8 from rfl, ← Nat.pow_mul, List.getD_eq_getElem?_getD, List.getElem?_eq_getElem h]; rfl
theorem leV_take_lt {s : List UInt8} {i : Nat} (h : i ≤ s.length) : leV (s.take i) < 2 ^ (8 * i) := by
  have := leV_lt (s.take i)
  rw [List.length_take, Nat.min_eq_left h, show (256 : Nat) = 2 ^ 8 from rfl, ← Nat.pow_mul] at this
  exact this
theorem pow64 {i : Nat} (h : i ≤ 8) : 2 ^ (8 * i) ≤ 18446744073709551616 := Nat.pow_le_pow_right (n := 2) (by decide) (by omega : 8 * i ≤ 64)
theorem leV_drop {s : List UInt8} {i : Nat} (h : i < s.length) : leV (s.drop i) = (s.getD i 0).toNat + 256 * leV (s.drop (i + 1)) := by
  rw [List.drop_eq_getElem_cons h, leV, List.getD_eq_getElem?_getD, List.getElem?_eq_getElem h]; rfl
theorem leV_drop_lt {s : List UInt8} {i : Nat} (h : s.length ≤ i + 7) : leV (s.drop i) < 72057594037927936 := by
  have h1 := leV_lt (s.drop i)
  have h2 : 256 ^ (s.drop i).length ≤ 256 ^ 7 := Nat.pow_le_pow_right (by decide) (by rw [List.length_drop]; omega)
  have h3 : (256 : Nat) ^ 7 = 72057594037927936 := by decide
  omega
set_option maxRecDepth 10000 in
theorem P_num_Unle (s : List UInt8) : Pure Tryd.prog 30 [.string (bs s)].toArray (resN (unleR s)) := by
  refine pure_of_HC Tryd.func30 rfl rfl fun w => ?_
  refine HC_seq fun K1 hK1 => ?_
  refine HC_region ?_
  all_goals refine HL_r rfl rfl rfl rfl (R_assign rfl) ?_
  all_goals refine HL_r rfl rfl rfl rfl (R_assign rfl) ?_
  all_goals refine HL_nil ?_
  all_goals (
    refine HQ_then ?_
    refine hK1 _ _ _ _ ?_; clear hK1 K1
    refine HC_seq fun K2 hK2 => ?_
    refine HC_seq fun K3 hK3 => ?_
    refine HC_region ?_
    all_goals refine HL_r rfl rfl rfl rfl (R_move rfl) ?_
    all_goals refine HL_r rfl rfl rfl rfl (R_strEq rfl rfl) ?_
    all_goals refine HL_r rfl rfl rfl rfl (R_move rfl) ?_
    all_goals first
      | (refine HL_r rfl rfl rfl rfl (R_move rfl) ?_)
      | (refine HL_skip rfl rfl rfl ?_)
      | (refine HL_case 8 rfl (fun hb4 => ?_) (fun hb4 => ?_) <;> (try simp only [decide_eq_true_eq, decide_eq_false_iff_not, beq_iff_eq, beq_eq_false_iff_ne, bne_iff_ne, bne_eq_false_iff_eq, Bool.not_eq_true', Bool.not_eq_false', ne_eq, Int.not_lt, Int.not_le, ge_iff_le, gt_iff_lt] at hb4) <;> first | (refine HL_r rfl rfl rfl rfl (R_move rfl) ?_) | (refine HL_skip rfl rfl rfl ?_))
    all_goals first
      | (refine HL_r rfl rfl rfl rfl (R_lenBs rfl rfl) ?_)
      | (refine HL_r rfl rfl rfl rfl (R_lenSl rfl rfl) ?_)
      | (refine HL_r rfl rfl rfl rfl (R_lenStr rfl rfl rfl) ?_)
      | (refine HL_r rfl rfl rfl rfl (R_pure rfl rfl rfl) ?_)
      | (refine HL_skip rfl rfl rfl ?_)
      | (refine HL_case 8 rfl (fun hb5 => ?_) (fun hb5 => ?_) <;> (try simp only [decide_eq_true_eq, decide_eq_false_iff_not, beq_iff_eq, beq_eq_false_iff_ne, bne_iff_ne, bne_eq_false_iff_eq, Bool.not_eq_true', Bool.not_eq_false', ne_eq, Int.not_lt, Int.not_le, ge_iff_le, gt_iff_lt] at hb5) <;> first | (refine HL_r rfl rfl rfl rfl (R_lenBs rfl rfl) ?_) | (refine HL_r rfl rfl rfl rfl (R_lenSl rfl rfl) ?_) | (refine HL_r rfl rfl rfl rfl (R_lenStr rfl rfl rfl) ?_) | (refine HL_r rfl rfl rfl rfl (R_pure rfl rfl rfl) ?_) | (refine HL_skip rfl rfl rfl ?_))
    all_goals first
      | (refine HL_r rfl rfl rfl rfl (R_pure rfl rfl rfl) ?_)
      | (refine HL_skip rfl rfl rfl ?_)
      | (refine HL_case 8 rfl (fun hb6 => ?_) (fun hb6 => ?_) <;> (try simp only [decide_eq_true_eq, decide_eq_false_iff_not, beq_iff_eq, beq_eq_false_iff_ne, bne_iff_ne, bne_eq_false_iff_eq, Bool.not_eq_true', Bool.not_eq_false', ne_eq, Int.not_lt, Int.not_le, ge_iff_le, gt_iff_lt] at hb6) <;> first | (refine HL_r rfl rfl rfl rfl (R_pure rfl rfl rfl) ?_) | (refine HL_skip rfl rfl rfl ?_))
    all_goals first
      | (refine HL_r rfl rfl rfl rfl (R_pickT rfl rfl) ?_)
      | (refine HL_r rfl rfl rfl rfl (R_pickF rfl rfl) ?_)
    all_goals refine HL_nil ?_
    all_goals (
      refine HQ_then ?_
      refine hK3 _ _ _ _ ?_; clear hK3 K3
      refine HC_cond rfl (fun h7 => ?_) (fun h7 => ?_)
      · try exact Bool.noConfusion h7
        all_goals try simp only [decide_eq_true_eq, decide_eq_false_iff_not, beq_iff_eq, beq_eq_false_iff_ne, bne_iff_ne, bne_eq_false_iff_eq, Bool.not_eq_true', Bool.not_eq_false', ne_eq, Int.not_lt, Int.not_le, ge_iff_le, gt_iff_lt] at h7
        all_goals (
          refine HC_seq fun K8 hK8 => ?_
          refine HC_region ?_
          all_goals refine HL_r rfl rfl rfl rfl (R_assign rfl) ?_
          all_goals refine HL_r rfl rfl rfl rfl (R_assign rfl) ?_
          all_goals refine HL_nil ?_
          all_goals (
            refine HQ_then ?_
            refine hK8 _ _ _ _ ?_; clear hK8 K8
            refine HC_ret ?_
            refine HQ_thenR ?_; clear hK2 K2
            refine HQ_post rfl rfl (.cons (res_tmp rfl) (.cons (res_tmp rfl) .nil)) (fun w1 hs1 => ?_)
            refine ⟨?_, hs1.keep⟩
            first
              | (rw [htk, hur]; rfl)
              | (rw [show unleR s = (0, 2) from by unfold unleR; rw [if_pos (by first | omega | (left; rw [‹s = []›]; decide))]]; rfl)
            skip)
          skip)
      · try exact Bool.noConfusion h7
        all_goals try simp only [decide_eq_true_eq, decide_eq_false_iff_not, beq_iff_eq, beq_eq_false_iff_ne, bne_iff_ne, bne_eq_false_iff_eq, Bool.not_eq_true', Bool.not_eq_false', ne_eq, Int.not_lt, Int.not_le, ge_iff_le, gt_iff_lt] at h7
        all_goals (
          refine HC_skip ?_
          refine HQ_then ?_
          refine hK2 _ _ _ _ ?_; clear hK2 K2
          refine HC_seq fun K9 hK9 => ?_
          have hl : 1 ≤ s.length ∧ s.length ≤ 8 := by
            have : s ≠ [] := by assumption
            have := List.length_pos_iff.2 this
            omega
          have hur : unleR s = (leV s, 0) := by unfold unleR; rw [if_neg (by omega)]
          refine HC_region ?_
          all_goals refine HL_r rfl rfl rfl rfl (R_assign rfl) ?_
          all_goals refine HL_nil ?_
          all_goals (
            refine HQ_then ?_
            refine hK9 _ _ _ _ ?_; clear hK9 K9
            refine HC_seq fun K10 hK10 => ?_
            refine HC_seq fun K11 hK11 => ?_
            refine HC_region ?_
            all_goals refine HL_r rfl rfl rfl rfl (R_move rfl) ?_
            all_goals first
              | (refine HL_r rfl rfl rfl rfl (R_lenBs rfl rfl) ?_)
              | (refine HL_r rfl rfl rfl rfl (R_lenSl rfl rfl) ?_)
              | (refine HL_r rfl rfl rfl rfl (R_lenStr rfl rfl rfl) ?_)
              | (refine HL_r rfl rfl rfl rfl (R_pure rfl rfl rfl) ?_)
            all_goals refine HL_r rfl rfl rfl rfl (R_move rfl) ?_
            all_goals refine HL_nil ?_
            all_goals (
              refine HQ_then ?_
              refine hK11 _ _ _ _ ?_; clear hK11 K11
              refine HC_block ?_
              refine HC_loop (σ := Nat) (fun i => i ≤ s.length) (fun i => [(0, .string (bs s)), (4, uV (leV (s.take i))), (14, .int .i64 (s.length : Nat)), (15, .int .i64 (i : Int))]) (fun i => []) (fun _ _ _ => True) (fun i => s.length - i) 0 (Nat.zero_le _) (.cons rfl (.cons rfl (.cons rfl (.cons rfl .nil)))) (List.nil_sublist _) (fun _ _ h => h) ?_
              intro i hi
              refine HC_seq fun K12 hK12 => ?_
              refine HC_region ?_
              all_goals refine HL_r rfl rfl rfl rfl (R_pure rfl rfl rfl) ?_
              all_goals refine HL_nil ?_
              all_goals (
                refine HQ_then ?_
                refine hK12 _ _ _ _ ?_; clear hK12 K12
                refine HC_seq fun K13 hK13 => ?_
                refine HC_cond rfl (fun h14 => ?_) (fun h14 => ?_)
                · try exact Bool.noConfusion h14
                  all_goals try simp only [decide_eq_true_eq, decide_eq_false_iff_not, beq_iff_eq, beq_eq_false_iff_ne, bne_iff_ne, bne_eq_false_iff_eq, Bool.not_eq_true', Bool.not_eq_false', ne_eq, Int.not_lt, Int.not_le, ge_iff_le, gt_iff_lt] at h14
                  all_goals (
                    refine HC_skip ?_
                    refine HQ_then ?_
                    refine hK13 _ _ _ _ ?_; clear hK13 K13
                    refine HC_seq fun K15 hK15 => ?_
                    refine HC_block ?_
                    refine HC_seq fun K16 hK16 => ?_
                    refine HC_region ?_
                    all_goals refine HL_r rfl rfl rfl rfl (R_move rfl) ?_
                    all_goals refine HL_r rfl rfl rfl rfl (R_assign rfl) ?_
                    all_goals refine HL_nil ?_
                    all_goals (
                      refine HQ_then ?_
                      refine hK16 _ _ _ _ ?_; clear hK16 K16
                      refine HC_region ?_
                      all_goals refine HL_r rfl rfl rfl rfl (R_move rfl) ?_
                      all_goals refine HL_r rfl rfl rfl rfl (R_move rfl) ?_
                      all_goals refine HL_r rfl rfl rfl rfl (R_move rfl) ?_
                      all_goals refine HL_r rfl rfl rfl rfl (R_indexBs (j := i) rfl rfl rfl rfl (by omega) rfl) ?_
                      all_goals refine HL_r rfl rfl rfl rfl (R_pure rfl rfl rfl) ?_; refine HL_as (show _ = uV (s.getD i 0).toNat from congrArg (Value.int .u64) (wrap_u64 (by omega) (by have := u8_lt (s.getD i 0); omega))) ?_
                      all_goals refine HL_r rfl rfl rfl rfl (R_move rfl) ?_
                      all_goals refine HL_r rfl rfl rfl rfl (R_pure rfl rfl rfl) ?_; refine HL_as (show _ = Value.int .i64 ((8 * i : Nat) : Int) from congrArg (Value.int .i64) (by rw [wrap_i64 (by omega) (by omega)]; omega)) ?_
                      all_goals refine HL_r rfl rfl rfl rfl (R_shl (n := 8 * i) rfl rfl rfl (show _ ≤ 64 from by omega) (shl_u64 (sh_lt (u8_lt _) (by omega)))) ?_
                      all_goals refine HL_r rfl rfl rfl rfl (R_bits64 (op := .or) (b := ((leV (s.take (i + 1)) : Nat) : Int)) rfl rfl rfl (Nat.lt_of_lt_of_le (leV_take_lt (by omega)) (pow64 (by omega))) (sh_lt (u8_lt _) (by omega)) (congrArg (fun z : Nat => (z : Int)) (by rw [leV_take (by omega)]; exact or_add (leV_take_lt (by omega))))) ?_
                      all_goals refine HL_r rfl rfl rfl rfl (R_assign rfl) ?_
                      all_goals refine HL_nil ?_
                      all_goals (
                        refine HQ_blockN ?_
                        refine HQ_then ?_
                        refine hK15 _ _ _ _ ?_; clear hK15 K15
                        refine HC_region ?_
                        all_goals first
                          | (refine HL_r rfl rfl rfl rfl (R_pure rfl rfl rfl) ?_; refine HL_wrap_i64 (by omega) (by omega) ?_)
                          | (refine HL_r rfl rfl rfl rfl (R_pure rfl rfl rfl) ?_)
                        all_goals refine HL_r rfl rfl rfl rfl (R_move rfl) ?_
                        all_goals refine HL_nil ?_
                        all_goals (
                          refine HQ_then ?_
                          exact HQ_again (i + 1) (by omega) (by omega) (.cons rfl (.cons rfl (.cons rfl (.cons rfl .nil)))) (List.nil_sublist _) (fun _ _ h => h)
                          skip)
                        skip)
                      skip)
                    skip)
                · try exact Bool.noConfusion h14
                  all_goals try simp only [decide_eq_true_eq, decide_eq_false_iff_not, beq_iff_eq, beq_eq_false_iff_ne, bne_iff_ne, bne_eq_false_iff_eq, Bool.not_eq_true', Bool.not_eq_false', ne_eq, Int.not_lt, Int.not_le, ge_iff_le, gt_iff_lt] at h14
                  all_goals (
                    refine HC_exit ?_
                    refine HQ_thenE ?_; clear hK13 K13
                    refine HQ_thenE ?_
                    refine HQ_blockE ?_
                    refine HQ_then ?_
                    refine hK10 _ _ _ _ ?_; clear hK10 K10
                    refine HC_seq fun K17 hK17 => ?_
                    have hik : s.length = i := by omega
                    have htk : s.take i = s := by rw [← hik, List.take_length]
                    refine HC_region ?_
                    all_goals refine HL_r rfl rfl rfl rfl (R_move rfl) ?_
                    all_goals refine HL_r rfl rfl rfl rfl (R_assign rfl) ?_
                    all_goals refine HL_r rfl rfl rfl rfl (R_assign rfl) ?_
                    all_goals refine HL_nil ?_
                    all_goals (
                      refine HQ_then ?_
                      refine hK17 _ _ _ _ ?_; clear hK17 K17
                      refine HC_ret ?_
                      refine HQ_post rfl rfl (.cons (res_tmp rfl) (.cons (res_tmp rfl) .nil)) (fun w1 hs1 => ?_)
                      refine ⟨?_, hs1.keep⟩
                      first
                        | (rw [htk, hur]; rfl)
                        | (rw [show unleR s = (0, 2) from by unfold unleR; rw [if_pos (by first | omega | (left; rw [‹s = []›]; decide))]]; rfl)
                      skip)
                    skip)
                skip)
              skip)
            skip)
          skip)
      skip)
    skip)
set_option maxRecDepth 10000 in
theorem P_ref_Unle (s : List UInt8) : Pure Tryd.prog 39 [.string (bs s)].toArray (resN (unleR s)) := by
  refine pure_of_HC Tryd.func39 rfl rfl fun w => ?_
  refine HC_seq fun K1 hK1 => ?_
  refine HC_region ?_
  all_goals refine HL_r rfl rfl rfl rfl (R_assign rfl) ?_
  all_goals refine HL_r rfl rfl rfl rfl (R_assign rfl) ?_
  all_goals refine HL_nil ?_
  all_goals (
    refine HQ_then ?_
    refine hK1 _ _ _ _ ?_; clear hK1 K1
    refine HC_seq fun K2 hK2 => ?_
    refine HC_seq fun K3 hK3 => ?_
    refine HC_region ?_
    all_goals refine HL_r rfl rfl rfl rfl (R_move rfl) ?_
    all_goals first
      | (refine HL_r rfl rfl rfl rfl (R_lenBs rfl rfl) ?_)
      | (refine HL_r rfl rfl rfl rfl (R_lenSl rfl rfl) ?_)
      | (refine HL_r rfl rfl rfl rfl (R_lenStr rfl rfl rfl) ?_)
      | (refine HL_r rfl rfl rfl rfl (R_pure rfl rfl rfl) ?_)
    all_goals refine HL_r rfl rfl rfl rfl (R_pure rfl rfl rfl) ?_
    all_goals refine HL_r rfl rfl rfl rfl (R_move rfl) ?_
    all_goals first
      | (refine HL_r rfl rfl rfl rfl (R_move rfl) ?_)
      | (refine HL_skip rfl rfl rfl ?_)
      | (refine HL_case 9 rfl (fun hb4 => ?_) (fun hb4 => ?_) <;> (try simp only [decide_eq_true_eq, decide_eq_false_iff_not, beq_iff_eq, beq_eq_false_iff_ne, bne_iff_ne, bne_eq_false_iff_eq, Bool.not_eq_true', Bool.not_eq_false', ne_eq, Int.not_lt, Int.not_le, ge_iff_le, gt_iff_lt] at hb4) <;> first | (refine HL_r rfl rfl rfl rfl (R_move rfl) ?_) | (refine HL_skip rfl rfl rfl ?_))
    all_goals first
      | (refine HL_r rfl rfl rfl rfl (R_lenBs rfl rfl) ?_)
      | (refine HL_r rfl rfl rfl rfl (R_lenSl rfl rfl) ?_)
      | (refine HL_r rfl rfl rfl rfl (R_lenStr rfl rfl rfl) ?_)
      | (refine HL_r rfl rfl rfl rfl (R_pure rfl rfl rfl) ?_)
      | (refine HL_skip rfl rfl rfl ?_)
      | (refine HL_case 9 rfl (fun hb5 => ?_) (fun hb5 => ?_) <;> (try simp only [decide_eq_true_eq, decide_eq_false_iff_not, beq_iff_eq, beq_eq_false_iff_ne, bne_iff_ne, bne_eq_false_iff_eq, Bool.not_eq_true', Bool.not_eq_false', ne_eq, Int.not_lt, Int.not_le, ge_iff_le, gt_iff_lt] at hb5) <;> first | (refine HL_r rfl rfl rfl rfl (R_lenBs rfl rfl) ?_) | (refine HL_r rfl rfl rfl rfl (R_lenSl rfl rfl) ?_) | (refine HL_r rfl rfl rfl rfl (R_lenStr rfl rfl rfl) ?_) | (refine HL_r rfl rfl rfl rfl (R_pure rfl rfl rfl) ?_) | (refine HL_skip rfl rfl rfl ?_))
    all_goals first
      | (refine HL_r rfl rfl rfl rfl (R_pure rfl rfl rfl) ?_)
      | (refine HL_skip rfl rfl rfl ?_)
      | (refine HL_case 9 rfl (fun hb6 => ?_) (fun hb6 => ?_) <;> (try simp only [decide_eq_true_eq, decide_eq_false_iff_not, beq_iff_eq, beq_eq_false_iff_ne, bne_iff_ne, bne_eq_false_iff_eq, Bool.not_eq_true', Bool.not_eq_false', ne_eq, Int.not_lt, Int.not_le, ge_iff_le, gt_iff_lt] at hb6) <;> first | (refine HL_r rfl rfl rfl rfl (R_pure rfl rfl rfl) ?_) | (refine HL_skip rfl rfl rfl ?_))
    all_goals first
      | (refine HL_r rfl rfl rfl rfl (R_pickT rfl rfl) ?_)
      | (refine HL_r rfl rfl rfl rfl (R_pickF rfl rfl) ?_)
    all_goals refine HL_nil ?_
    all_goals (
      refine HQ_then ?_
      refine hK3 _ _ _ _ ?_; clear hK3 K3
      refine HC_cond rfl (fun h7 => ?_) (fun h7 => ?_)
      · try exact Bool.noConfusion h7
        all_goals try simp only [decide_eq_true_eq, decide_eq_false_iff_not, beq_iff_eq, beq_eq_false_iff_ne, bne_iff_ne, bne_eq_false_iff_eq, Bool.not_eq_true', Bool.not_eq_false', ne_eq, Int.not_lt, Int.not_le, ge_iff_le, gt_iff_lt] at h7
        all_goals (
          refine HC_seq fun K8 hK8 => ?_
          refine HC_region ?_
          all_goals refine HL_r rfl rfl rfl rfl (R_assign rfl) ?_
          all_goals refine HL_r rfl rfl rfl rfl (R_assign rfl) ?_
          all_goals refine HL_nil ?_
          all_goals (
            refine HQ_then ?_
            refine hK8 _ _ _ _ ?_; clear hK8 K8
            refine HC_ret ?_
            refine HQ_thenR ?_; clear hK2 K2
            refine HQ_post rfl rfl (.cons (res_tmp rfl) (.cons (res_tmp rfl) .nil)) (fun w1 hs1 => ?_)
            refine ⟨?_, hs1.keep⟩
            first
              | (rw [hur]; rfl)
              | (rw [show unleR s = (0, 2) from by unfold unleR; rw [if_pos (by omega)]]; rfl)
            skip)
          skip)
      · try exact Bool.noConfusion h7
        all_goals try simp only [decide_eq_true_eq, decide_eq_false_iff_not, beq_iff_eq, beq_eq_false_iff_ne, bne_iff_ne, bne_eq_false_iff_eq, Bool.not_eq_true', Bool.not_eq_false', ne_eq, Int.not_lt, Int.not_le, ge_iff_le, gt_iff_lt] at h7
        all_goals (
          refine HC_skip ?_
          refine HQ_then ?_
          refine hK2 _ _ _ _ ?_; clear hK2 K2
          refine HC_seq fun K9 hK9 => ?_
          refine HC_region ?_
          all_goals refine HL_r rfl rfl rfl rfl (R_assign rfl) ?_
          all_goals refine HL_nil ?_
          all_goals (
            refine HQ_then ?_
            refine hK9 _ _ _ _ ?_; clear hK9 K9
            refine HC_seq fun K10 hK10 => ?_
            refine HC_seq fun K11 hK11 => ?_
            have hl : 1 ≤ s.length ∧ s.length ≤ 8 := by omega
            have hur : unleR s = (leV s, 0) := by unfold unleR; rw [if_neg (by omega)]
            refine HC_region ?_
            all_goals refine HL_r rfl rfl rfl rfl (R_move rfl) ?_
            all_goals first
              | (refine HL_r rfl rfl rfl rfl (R_lenBs rfl rfl) ?_)
              | (refine HL_r rfl rfl rfl rfl (R_lenSl rfl rfl) ?_)
              | (refine HL_r rfl rfl rfl rfl (R_lenStr rfl rfl rfl) ?_)
              | (refine HL_r rfl rfl rfl rfl (R_pure rfl rfl rfl) ?_)
            all_goals first
              | (refine HL_r rfl rfl rfl rfl (R_pure rfl rfl rfl) ?_; refine HL_wrap_i64 (by omega) (by omega) ?_)
              | (refine HL_r rfl rfl rfl rfl (R_pure rfl rfl rfl) ?_)
            all_goals refine HL_r rfl rfl rfl rfl (R_assign rfl) ?_
            all_goals refine HL_nil ?_
            all_goals (
              refine HQ_then ?_
              refine hK11 _ _ _ _ ?_; clear hK11 K11
              refine HC_block ?_
              refine HC_loop (σ := Nat) (fun i => i ≤ s.length) (fun i => [(0, .string (bs s)), (4, uV (leV (s.drop i))), (5, .int .i64 ((i : Int) - 1))]) (fun i => []) (fun _ _ _ => True) (fun i => i) s.length (Nat.le_refl _) (.cons rfl (.cons (by rw [List.drop_length]; rfl) (.cons rfl .nil))) (List.nil_sublist _) (fun _ _ h => h) ?_
              intro i hi
              refine HC_seq fun K12 hK12 => ?_
              refine HC_seq fun K13 hK13 => ?_
              refine HC_region ?_
              all_goals refine HL_r rfl rfl rfl rfl (R_move rfl) ?_
              all_goals refine HL_r rfl rfl rfl rfl (R_pure rfl rfl rfl) ?_
              all_goals refine HL_nil ?_
              all_goals (
                refine HQ_then ?_
                refine hK13 _ _ _ _ ?_; clear hK13 K13
                refine HC_cond rfl (fun h14 => ?_) (fun h14 => ?_)
                · try exact Bool.noConfusion h14
                  all_goals try simp only [decide_eq_true_eq, decide_eq_false_iff_not, beq_iff_eq, beq_eq_false_iff_ne, bne_iff_ne, bne_eq_false_iff_eq, Bool.not_eq_true', Bool.not_eq_false', ne_eq, Int.not_lt, Int.not_le, ge_iff_le, gt_iff_lt] at h14
                  all_goals (
                    refine HC_skip ?_
                    refine HQ_then ?_
                    refine hK12 _ _ _ _ ?_; clear hK12 K12
                    refine HC_seq fun K15 hK15 => ?_
                    refine HC_block ?_
                    refine HC_region ?_
                    all_goals refine HL_r rfl rfl rfl rfl (R_move rfl) ?_
                    all_goals have hdl := leV_drop_lt (s := s) (i := i) (by omega); refine HL_r rfl rfl rfl rfl (R_pure rfl rfl rfl) ?_; refine HL_as (show _ = uV (leV (s.drop i) * 256) from congrArg (Value.int .u64) (by rw [wrap_u64 (by omega) (by omega)]; omega)) ?_
                    all_goals refine HL_r rfl rfl rfl rfl (R_move rfl) ?_
                    all_goals refine HL_r rfl rfl rfl rfl (R_move rfl) ?_; refine HL_as (show _ = Value.int .i64 ((i - 1 : Nat) : Int) from congrArg (Value.int .i64) (by omega)) ?_
                    all_goals refine HL_r rfl rfl rfl rfl (R_indexBs (j := i - 1) rfl rfl rfl rfl (by omega) rfl) ?_
                    all_goals refine HL_r rfl rfl rfl rfl (R_pure rfl rfl rfl) ?_; refine HL_as (show _ = uV (s.getD (i - 1) 0).toNat from congrArg (Value.int .u64) (wrap_u64 (by omega) (by have := u8_lt (s.getD (i - 1) 0); omega))) ?_
                    all_goals refine HL_r rfl rfl rfl rfl (R_pure rfl rfl rfl) ?_; refine HL_as (show _ = uV (leV (s.drop (i - 1))) from congrArg (Value.int .u64) (by have h1 := u8_lt (s.getD (i - 1) 0); have h2 := leV_drop (s := s) (i := i - 1) (by omega); rw [show i - 1 + 1 = i from by omega] at h2; rw [h2, wrap_u64 (by omega) (by omega)]; omega)) ?_
                    all_goals refine HL_r rfl rfl rfl rfl (R_assign rfl) ?_
                    all_goals refine HL_nil ?_
                    all_goals (
                      refine HQ_blockN ?_
                      refine HQ_then ?_
                      refine hK15 _ _ _ _ ?_; clear hK15 K15
                      refine HC_region ?_
                      all_goals refine HL_r rfl rfl rfl rfl (R_move rfl) ?_
                      all_goals first
                        | (refine HL_r rfl rfl rfl rfl (R_pure rfl rfl rfl) ?_; refine HL_wrap_i64 (by omega) (by omega) ?_)
                        | (refine HL_r rfl rfl rfl rfl (R_pure rfl rfl rfl) ?_)
                      all_goals refine HL_r rfl rfl rfl rfl (R_assign rfl) ?_
                      all_goals refine HL_nil ?_
                      all_goals (
                        refine HQ_then ?_
                        exact HQ_again (i - 1) (by omega) (by omega) (.cons rfl (.cons rfl (.cons (congrArg (fun z => some (Value.int .i64 z)) (by omega)) .nil))) (List.nil_sublist _) (fun _ _ h => h)
                        skip)
                      skip)
                    skip)
                · try exact Bool.noConfusion h14
                  all_goals try simp only [decide_eq_true_eq, decide_eq_false_iff_not, beq_iff_eq, beq_eq_false_iff_ne, bne_iff_ne, bne_eq_false_iff_eq, Bool.not_eq_true', Bool.not_eq_false', ne_eq, Int.not_lt, Int.not_le, ge_iff_le, gt_iff_lt] at h14
                  all_goals (
                    refine HC_exit ?_
                    refine HQ_thenE ?_; clear hK12 K12
                    refine HQ_thenE ?_
                    refine HQ_blockE ?_
                    refine HQ_then ?_
                    refine hK10 _ _ _ _ ?_; clear hK10 K10
                    refine HC_seq fun K16 hK16 => ?_
                    have hi0 : i = 0 := by omega
                    subst hi0
                    refine HC_region ?_
                    all_goals refine HL_r rfl rfl rfl rfl (R_move rfl) ?_
                    all_goals refine HL_r rfl rfl rfl rfl (R_assign rfl) ?_
                    all_goals refine HL_r rfl rfl rfl rfl (R_assign rfl) ?_
                    all_goals refine HL_nil ?_
                    all_goals (
                      refine HQ_then ?_
                      refine hK16 _ _ _ _ ?_; clear hK16 K16
                      refine HC_ret ?_
                      refine HQ_post rfl rfl (.cons (res_tmp rfl) (.cons (res_tmp rfl) .nil)) (fun w1 hs1 => ?_)
                      refine ⟨?_, hs1.keep⟩
                      first
                        | (rw [hur]; rfl)
                        | (rw [show unleR s = (0, 2) from by unfold unleR; rw [if_pos (by omega)]]; rfl)
                      skip)
                    skip)
                skip)
              skip)
            skip)
          skip)
      skip)
    skip)
end Go.Proofs.YthfinkklgbiaeaaDoor
