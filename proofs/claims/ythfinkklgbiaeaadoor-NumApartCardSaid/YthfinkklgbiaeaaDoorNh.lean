import Derived.Test.YthfinkklgbiaeaaDoorNg
namespace Go.Proofs.YthfinkklgbiaeaaDoor
set_option linter.all false
open Go.SL Go.RowKit Go.Shelf
theorem unv_key (s : List UInt8) (p : Int) : (∃ (N tt e : Nat) (a : Nat), unvR s p = (N, tt, (e : Int)) ∧ N < 18446744073709551616 ∧ e = 0 ∧ p = a ∧ a < tt ∧ tt ≤ s.length ∧ varL N = (s.take tt).drop a) ∨ (∃ (N tt : Nat) (e : Int), unvR s p = (N, tt, e) ∧ N < 18446744073709551616 ∧ ¬ e = 0 ∧ N = 0 ∧ tt = 0) := by
  by_cases h : (unvR s p).2.2 = 0
  · obtain ⟨h1, h2, h3, h4, h5⟩ := unv_ok h
    exact .inl ⟨(unvR s p).1, (unvR s p).2.1, 0, p.toNat, by rw [show (((0 : Nat)) : Int) = (unvR s p).2.2 from h.symm], h1, rfl, by omega, by omega, h4, h5⟩
  · obtain ⟨h1, h2⟩ := unv_bad h
    exact .inr ⟨(unvR s p).1, (unvR s p).2.1, (unvR s p).2.2, rfl, by omega, h, h1, h2⟩
theorem nsF {a b : List UInt8} (h : a = b) : (!decide (a = b)) = false := by rw [decide_eq_true h]; rfl
set_option maxRecDepth 10000 in
theorem P_NumBack {n : Nat} (hn : n < 18446744073709551616) (k : Int) (p q : List UInt8) : Pure Tryd.prog 9 [uV n, .int .i64 k, .string (bs p), .string (bs q)].toArray (.bool true) := by
  refine pure_of_HC Tryd.func9 rfl rfl fun w => ?_
  have hvl : (varL n).length ≤ 10 := (varN_len 9 n).2
  refine HC_seq fun K1 hK1 => ?_
  refine HC_region ?_
  all_goals refine HL_r rfl rfl rfl rfl (R_assign rfl) ?_
  all_goals refine HL_nil ?_
  all_goals (
    refine HQ_then ?_
    refine hK1 _ _ _ _ ?_; clear hK1 K1
    refine HC_seq fun K2 hK2 => ?_
    refine HC_region ?_
    all_goals refine HL_callP rfl rfl rfl (enters_of Tryd.func21 (by kernel_rfl) rfl) P_works02 ?_
    all_goals refine HL_r rfl rfl rfl rfl (R_assign rfl) ?_
    all_goals refine HL_nil ?_
    all_goals (
      refine HQ_then ?_
      refine hK2 _ _ _ _ ?_; clear hK2 K2
      refine HC_seq fun K3 hK3 => ?_
      refine HC_seq fun K4 hK4 => ?_
      refine HC_region ?_
      all_goals refine HL_r rfl rfl rfl rfl (R_move rfl) ?_
      all_goals refine HL_r rfl rfl rfl rfl (R_pure rfl rfl rfl) ?_
      all_goals refine HL_nil ?_
      all_goals (
        refine HQ_then ?_
        refine hK4 _ _ _ _ ?_; clear hK4 K4
        refine HC_cond rfl (fun h5 => ?_) (fun h5 => ?_)
        · try exact Bool.noConfusion h5
          all_goals try simp only [decide_eq_true_eq, decide_eq_false_iff_not, beq_iff_eq, beq_eq_false_iff_ne, bne_iff_ne, bne_eq_false_iff_eq, Bool.not_eq_true', Bool.not_eq_false', ne_eq, Int.not_lt, Int.not_le, ge_iff_le, gt_iff_lt] at h5
          all_goals (
            refine HC_seq fun K6 hK6 => ?_
            refine HC_region ?_
            all_goals refine HL_r rfl rfl rfl rfl (R_assign rfl) ?_
            all_goals refine HL_nil ?_
            all_goals (
              refine HQ_then ?_
              refine hK6 _ _ _ _ ?_; clear hK6 K6
              refine HC_ret ?_
              refine HQ_thenR ?_; clear hK3 K3
              refine HQ_post rfl rfl (.cons (res_tmp rfl) .nil) (fun w1 hs1 => ?_)
              exact ⟨rfl, hs1.keep⟩
              skip)
            skip)
        · try exact Bool.noConfusion h5
          all_goals try simp only [decide_eq_true_eq, decide_eq_false_iff_not, beq_iff_eq, beq_eq_false_iff_ne, bne_iff_ne, bne_eq_false_iff_eq, Bool.not_eq_true', Bool.not_eq_false', ne_eq, Int.not_lt, Int.not_le, ge_iff_le, gt_iff_lt] at h5
          all_goals (
            refine HC_skip ?_
            refine HQ_then ?_
            refine hK3 _ _ _ _ ?_; clear hK3 K3
            refine HC_seq fun K7 hK7 => ?_
            refine HC_seq fun K8 hK8 => ?_
            refine HC_region ?_
            all_goals refine HL_r rfl rfl rfl rfl (R_move rfl) ?_
            all_goals first
              | (refine HL_r rfl rfl rfl rfl (R_lenBs rfl rfl) ?_)
              | (refine HL_r rfl rfl rfl rfl (R_lenSl rfl rfl) ?_)
              | (refine HL_r rfl rfl rfl rfl (R_lenStr rfl rfl rfl) ?_)
              | (refine HL_r rfl rfl rfl rfl (R_pure rfl rfl rfl) ?_)
            all_goals refine HL_r rfl rfl rfl rfl (R_pure rfl rfl rfl) ?_
            all_goals refine HL_r rfl rfl rfl rfl (R_move rfl) ?_
            all_goals first
              | (refine HL_r rfl rfl rfl rfl (R_move rfl) ?_)
              | (refine HL_skip rfl rfl rfl ?_)
              | (refine HL_case 25 rfl (fun hb9 => ?_) (fun hb9 => ?_) <;> (try simp only [decide_eq_true_eq, decide_eq_false_iff_not, beq_iff_eq, beq_eq_false_iff_ne, bne_iff_ne, bne_eq_false_iff_eq, Bool.not_eq_true', Bool.not_eq_false', ne_eq, Int.not_lt, Int.not_le, ge_iff_le, gt_iff_lt] at hb9) <;> first | (refine HL_r rfl rfl rfl rfl (R_move rfl) ?_) | (refine HL_skip rfl rfl rfl ?_))
            all_goals first
              | (refine HL_r rfl rfl rfl rfl (R_lenBs rfl rfl) ?_)
              | (refine HL_r rfl rfl rfl rfl (R_lenSl rfl rfl) ?_)
              | (refine HL_r rfl rfl rfl rfl (R_lenStr rfl rfl rfl) ?_)
              | (refine HL_r rfl rfl rfl rfl (R_pure rfl rfl rfl) ?_)
              | (refine HL_skip rfl rfl rfl ?_)
              | (refine HL_case 25 rfl (fun hb10 => ?_) (fun hb10 => ?_) <;> (try simp only [decide_eq_true_eq, decide_eq_false_iff_not, beq_iff_eq, beq_eq_false_iff_ne, bne_iff_ne, bne_eq_false_iff_eq, Bool.not_eq_true', Bool.not_eq_false', ne_eq, Int.not_lt, Int.not_le, ge_iff_le, gt_iff_lt] at hb10) <;> first | (refine HL_r rfl rfl rfl rfl (R_lenBs rfl rfl) ?_) | (refine HL_r rfl rfl rfl rfl (R_lenSl rfl rfl) ?_) | (refine HL_r rfl rfl rfl rfl (R_lenStr rfl rfl rfl) ?_) | (refine HL_r rfl rfl rfl rfl (R_pure rfl rfl rfl) ?_) | (refine HL_skip rfl rfl rfl ?_))
            all_goals first
              | (refine HL_r rfl rfl rfl rfl (R_pure rfl rfl rfl) ?_)
              | (refine HL_skip rfl rfl rfl ?_)
              | (refine HL_case 25 rfl (fun hb11 => ?_) (fun hb11 => ?_) <;> (try simp only [decide_eq_true_eq, decide_eq_false_iff_not, beq_iff_eq, beq_eq_false_iff_ne, bne_iff_ne, bne_eq_false_iff_eq, Bool.not_eq_true', Bool.not_eq_false', ne_eq, Int.not_lt, Int.not_le, ge_iff_le, gt_iff_lt] at hb11) <;> first | (refine HL_r rfl rfl rfl rfl (R_pure rfl rfl rfl) ?_) | (refine HL_skip rfl rfl rfl ?_))
            all_goals first
              | (refine HL_r rfl rfl rfl rfl (R_pickT rfl rfl) ?_)
              | (refine HL_r rfl rfl rfl rfl (R_pickF rfl rfl) ?_)
            all_goals refine HL_nil ?_
            all_goals (
              refine HQ_then ?_
              refine hK8 _ _ _ _ ?_; clear hK8 K8
              refine HC_cond rfl (fun h12 => ?_) (fun h12 => ?_)
              · try exact Bool.noConfusion h12
                all_goals try simp only [decide_eq_true_eq, decide_eq_false_iff_not, beq_iff_eq, beq_eq_false_iff_ne, bne_iff_ne, bne_eq_false_iff_eq, Bool.not_eq_true', Bool.not_eq_false', ne_eq, Int.not_lt, Int.not_le, ge_iff_le, gt_iff_lt] at h12
                all_goals (
                  refine HC_seq fun K13 hK13 => ?_
                  refine HC_region ?_
                  all_goals refine HL_r rfl rfl rfl rfl (R_move rfl) ?_
                  all_goals refine HL_r rfl rfl rfl rfl (R_assign rfl) ?_
                  all_goals refine HL_nil ?_
                  all_goals (
                    refine HQ_then ?_
                    refine hK13 _ _ _ _ ?_; clear hK13 K13
                    refine HC_ret ?_
                    refine HQ_thenR ?_; clear hK7 K7
                    refine HQ_post rfl rfl (.cons (res_tmp rfl) .nil) (fun w1 hs1 => ?_)
                    exact ⟨rfl, hs1.keep⟩
                    skip)
                  skip)
              · try exact Bool.noConfusion h12
                all_goals try simp only [decide_eq_true_eq, decide_eq_false_iff_not, beq_iff_eq, beq_eq_false_iff_ne, bne_iff_ne, bne_eq_false_iff_eq, Bool.not_eq_true', Bool.not_eq_false', ne_eq, Int.not_lt, Int.not_le, ge_iff_le, gt_iff_lt] at h12
                all_goals (
                  refine HC_skip ?_
                  refine HQ_then ?_
                  refine hK7 _ _ _ _ ?_; clear hK7 K7
                  refine HC_seq fun K14 hK14 => ?_
                  refine HC_region ?_
                  all_goals refine HL_r rfl rfl rfl rfl (R_move rfl) ?_
                  all_goals refine HL_callP rfl rfl rfl (enters_of Tryd.func26 (by kernel_rfl) rfl) (P_num_Be hn) ?_
                  all_goals refine HL_callP rfl rfl rfl (enters_of Tryd.func28 (by kernel_rfl) rfl) (P_num_Unbe (beN n)) ?_; refine HL_as (congrArg resN (unbe_be hn)) ?_
                  all_goals refine HL_r rfl rfl rfl rfl (R_move rfl) ?_
                  all_goals refine HL_r rfl rfl rfl rfl (R_extract rfl rfl) ?_
                  all_goals refine HL_r rfl rfl rfl rfl (R_extract rfl rfl) ?_
                  all_goals refine HL_r rfl rfl rfl rfl (R_assign rfl) ?_
                  all_goals refine HL_r rfl rfl rfl rfl (R_assign rfl) ?_
                  all_goals refine HL_nil ?_
                  all_goals (
                    refine HQ_then ?_
                    refine hK14 _ _ _ _ ?_; clear hK14 K14
                    refine HC_seq fun K15 hK15 => ?_
                    refine HC_region ?_
                    all_goals refine HL_r rfl rfl rfl rfl (R_move rfl) ?_
                    all_goals refine HL_r rfl rfl rfl rfl (R_move rfl) ?_
                    all_goals refine HL_callP rfl rfl rfl (enters_of Tryd.func27 (by kernel_rfl) rfl) (P_num_Var hn) ?_
                    all_goals refine HL_r rfl rfl rfl rfl (R_concat rfl rfl (by first | omega | (simp only [List.length_append]; omega))) ?_
                    all_goals refine HL_r rfl rfl rfl rfl (R_move rfl) ?_
                    all_goals refine HL_r rfl rfl rfl rfl (R_concat rfl rfl (by simp only [List.length_append]; omega)) ?_
                    all_goals refine HL_r rfl rfl rfl rfl (R_move rfl) ?_
                    all_goals first
                      | (refine HL_r rfl rfl rfl rfl (R_lenBs rfl rfl) ?_)
                      | (refine HL_r rfl rfl rfl rfl (R_lenSl rfl rfl) ?_)
                      | (refine HL_r rfl rfl rfl rfl (R_lenStr rfl rfl rfl) ?_)
                      | (refine HL_r rfl rfl rfl rfl (R_pure rfl rfl rfl) ?_)
                    all_goals refine HL_callP rfl rfl rfl (enters_of Tryd.func29 (by kernel_rfl) rfl) (P_num_Unvar (s := p ++ varL n ++ q) (by simp only [List.length_append]; omega) (p.length : Nat)) ?_; refine HL_as (show _ = Value.tuple #[uV n, .int .i64 ((p.length + (varL n).length : Nat) : Int), .int .i64 0] from by rw [unv_var hn p q]; rfl) ?_
                    all_goals refine HL_r rfl rfl rfl rfl (R_move rfl) ?_
                    all_goals refine HL_r rfl rfl rfl rfl (R_extract rfl rfl) ?_
                    all_goals refine HL_r rfl rfl rfl rfl (R_extract rfl rfl) ?_
                    all_goals refine HL_r rfl rfl rfl rfl (R_extract rfl rfl) ?_
                    all_goals refine HL_r rfl rfl rfl rfl (R_assign rfl) ?_
                    all_goals refine HL_r rfl rfl rfl rfl (R_assign rfl) ?_
                    all_goals refine HL_r rfl rfl rfl rfl (R_assign rfl) ?_
                    all_goals refine HL_nil ?_
                    all_goals (
                      refine HQ_then ?_
                      refine hK15 _ _ _ _ ?_; clear hK15 K15
                      refine HC_seq fun K16 hK16 => ?_
                      refine HC_region ?_
                      all_goals refine HL_r rfl rfl rfl rfl (R_move rfl) ?_
                      all_goals refine HL_r rfl rfl rfl rfl (R_move rfl) ?_
                      all_goals refine HL_callP rfl rfl rfl (enters_of Tryd.func23 (by kernel_rfl) rfl) (P_num_Le hn k) ?_
                      all_goals refine HL_r rfl rfl rfl rfl (R_move rfl) ?_
                      all_goals refine HL_r rfl rfl rfl rfl (R_extract rfl rfl) ?_
                      all_goals refine HL_r rfl rfl rfl rfl (R_extract rfl rfl) ?_
                      all_goals refine HL_r rfl rfl rfl rfl (R_assign rfl) ?_
                      all_goals refine HL_r rfl rfl rfl rfl (R_assign rfl) ?_
                      all_goals refine HL_nil ?_
                      all_goals (
                        refine HQ_then ?_
                        refine hK16 _ _ _ _ ?_; clear hK16 K16
                        refine HC_seq fun K17 hK17 => ?_
                        refine HC_region ?_
                        all_goals refine HL_r rfl rfl rfl rfl (R_move rfl) ?_
                        all_goals refine HL_callP rfl rfl rfl (enters_of Tryd.func30 (by kernel_rfl) rfl) (P_num_Unle (leR n k).1) ?_
                        all_goals refine HL_r rfl rfl rfl rfl (R_move rfl) ?_
                        all_goals refine HL_r rfl rfl rfl rfl (R_extract rfl rfl) ?_
                        all_goals refine HL_r rfl rfl rfl rfl (R_extract rfl rfl) ?_
                        all_goals refine HL_r rfl rfl rfl rfl (R_assign rfl) ?_
                        all_goals refine HL_r rfl rfl rfl rfl (R_assign rfl) ?_
                        all_goals refine HL_nil ?_
                        all_goals (
                          refine HQ_then ?_
                          refine hK17 _ _ _ _ ?_; clear hK17 K17
                          refine HC_seq fun K18 hK18 => ?_
                          refine HC_region ?_
                          all_goals refine HL_r rfl rfl rfl rfl (R_move rfl) ?_
                          all_goals refine HL_r rfl rfl rfl rfl (R_move rfl) ?_
                          all_goals first
                            | (refine HL_r rfl rfl rfl rfl (R_move rfl) ?_)
                            | (refine HL_skip rfl rfl rfl ?_)
                            | (refine HL_case 62 rfl (fun hb19 => ?_) (fun hb19 => ?_) <;> (try simp only [decide_eq_true_eq, decide_eq_false_iff_not, beq_iff_eq, beq_eq_false_iff_ne, bne_iff_ne, bne_eq_false_iff_eq, Bool.not_eq_true', Bool.not_eq_false', ne_eq, Int.not_lt, Int.not_le, ge_iff_le, gt_iff_lt] at hb19) <;> first | (refine HL_r rfl rfl rfl rfl (R_move rfl) ?_) | (refine HL_skip rfl rfl rfl ?_))
                          all_goals first
                            | (refine HL_r rfl rfl rfl rfl (R_move rfl) ?_)
                            | (refine HL_skip rfl rfl rfl ?_)
                            | (refine HL_case 62 rfl (fun hb20 => ?_) (fun hb20 => ?_) <;> (try simp only [decide_eq_true_eq, decide_eq_false_iff_not, beq_iff_eq, beq_eq_false_iff_ne, bne_iff_ne, bne_eq_false_iff_eq, Bool.not_eq_true', Bool.not_eq_false', ne_eq, Int.not_lt, Int.not_le, ge_iff_le, gt_iff_lt] at hb20) <;> first | (refine HL_r rfl rfl rfl rfl (R_move rfl) ?_) | (refine HL_skip rfl rfl rfl ?_))
                          all_goals first
                            | (refine HL_r rfl rfl rfl rfl (R_pure rfl rfl rfl) ?_)
                            | (refine HL_skip rfl rfl rfl ?_)
                            | (refine HL_case 62 rfl (fun hb21 => ?_) (fun hb21 => ?_) <;> (try simp only [decide_eq_true_eq, decide_eq_false_iff_not, beq_iff_eq, beq_eq_false_iff_ne, bne_iff_ne, bne_eq_false_iff_eq, Bool.not_eq_true', Bool.not_eq_false', ne_eq, Int.not_lt, Int.not_le, ge_iff_le, gt_iff_lt] at hb21) <;> first | (refine HL_r rfl rfl rfl rfl (R_pure rfl rfl rfl) ?_) | (refine HL_skip rfl rfl rfl ?_))
                          all_goals first
                            | (refine HL_as (show _ = Value.bool true from bool_eq' (ieqT rfl)) ?_)
                            | (refine HL_as (show _ = Value.bool false from bool_eq' (ieqT rfl)) ?_)
                            | skip
                          all_goals first
                            | (refine HL_r rfl rfl rfl rfl (R_pickT rfl rfl) ?_)
                            | (refine HL_r rfl rfl rfl rfl (R_pickF rfl rfl) ?_)
                          all_goals refine HL_r rfl rfl rfl rfl (R_move rfl) ?_
                          all_goals first
                            | (refine HL_r rfl rfl rfl rfl (R_move rfl) ?_)
                            | (refine HL_skip rfl rfl rfl ?_)
                            | (refine HL_case 67 rfl (fun hb22 => ?_) (fun hb22 => ?_) <;> (try simp only [decide_eq_true_eq, decide_eq_false_iff_not, beq_iff_eq, beq_eq_false_iff_ne, bne_iff_ne, bne_eq_false_iff_eq, Bool.not_eq_true', Bool.not_eq_false', ne_eq, Int.not_lt, Int.not_le, ge_iff_le, gt_iff_lt] at hb22) <;> first | (refine HL_r rfl rfl rfl rfl (R_move rfl) ?_) | (refine HL_skip rfl rfl rfl ?_))
                          all_goals first
                            | (refine HL_r rfl rfl rfl rfl (R_pure rfl rfl rfl) ?_)
                            | (refine HL_skip rfl rfl rfl ?_)
                            | (refine HL_case 67 rfl (fun hb23 => ?_) (fun hb23 => ?_) <;> (try simp only [decide_eq_true_eq, decide_eq_false_iff_not, beq_iff_eq, beq_eq_false_iff_ne, bne_iff_ne, bne_eq_false_iff_eq, Bool.not_eq_true', Bool.not_eq_false', ne_eq, Int.not_lt, Int.not_le, ge_iff_le, gt_iff_lt] at hb23) <;> first | (refine HL_r rfl rfl rfl rfl (R_pure rfl rfl rfl) ?_) | (refine HL_skip rfl rfl rfl ?_))
                          all_goals first
                            | (refine HL_as (show _ = Value.bool true from bool_eq' (rfl)) ?_)
                            | (refine HL_as (show _ = Value.bool false from bool_eq' (rfl)) ?_)
                            | skip
                          all_goals first
                            | (refine HL_r rfl rfl rfl rfl (R_pickT rfl rfl) ?_)
                            | (refine HL_r rfl rfl rfl rfl (R_pickF rfl rfl) ?_)
                          all_goals refine HL_r rfl rfl rfl rfl (R_move rfl) ?_
                          all_goals first
                            | (refine HL_r rfl rfl rfl rfl (R_move rfl) ?_)
                            | (refine HL_skip rfl rfl rfl ?_)
                            | (refine HL_case 71 rfl (fun hb24 => ?_) (fun hb24 => ?_) <;> (try simp only [decide_eq_true_eq, decide_eq_false_iff_not, beq_iff_eq, beq_eq_false_iff_ne, bne_iff_ne, bne_eq_false_iff_eq, Bool.not_eq_true', Bool.not_eq_false', ne_eq, Int.not_lt, Int.not_le, ge_iff_le, gt_iff_lt] at hb24) <;> first | (refine HL_r rfl rfl rfl rfl (R_move rfl) ?_) | (refine HL_skip rfl rfl rfl ?_))
                          all_goals first
                            | (refine HL_r rfl rfl rfl rfl (R_move rfl) ?_)
                            | (refine HL_skip rfl rfl rfl ?_)
                            | (refine HL_case 71 rfl (fun hb25 => ?_) (fun hb25 => ?_) <;> (try simp only [decide_eq_true_eq, decide_eq_false_iff_not, beq_iff_eq, beq_eq_false_iff_ne, bne_iff_ne, bne_eq_false_iff_eq, Bool.not_eq_true', Bool.not_eq_false', ne_eq, Int.not_lt, Int.not_le, ge_iff_le, gt_iff_lt] at hb25) <;> first | (refine HL_r rfl rfl rfl rfl (R_move rfl) ?_) | (refine HL_skip rfl rfl rfl ?_))
                          all_goals first
                            | (refine HL_r rfl rfl rfl rfl (R_pure rfl rfl rfl) ?_)
                            | (refine HL_skip rfl rfl rfl ?_)
                            | (refine HL_case 71 rfl (fun hb26 => ?_) (fun hb26 => ?_) <;> (try simp only [decide_eq_true_eq, decide_eq_false_iff_not, beq_iff_eq, beq_eq_false_iff_ne, bne_iff_ne, bne_eq_false_iff_eq, Bool.not_eq_true', Bool.not_eq_false', ne_eq, Int.not_lt, Int.not_le, ge_iff_le, gt_iff_lt] at hb26) <;> first | (refine HL_r rfl rfl rfl rfl (R_pure rfl rfl rfl) ?_) | (refine HL_skip rfl rfl rfl ?_))
                          all_goals first
                            | (refine HL_as (show _ = Value.bool true from bool_eq' (ieqT rfl)) ?_)
                            | (refine HL_as (show _ = Value.bool false from bool_eq' (ieqT rfl)) ?_)
                            | skip
                          all_goals first
                            | (refine HL_r rfl rfl rfl rfl (R_pickT rfl rfl) ?_)
                            | (refine HL_r rfl rfl rfl rfl (R_pickF rfl rfl) ?_)
                          all_goals refine HL_r rfl rfl rfl rfl (R_move rfl) ?_
                          all_goals first
                            | (refine HL_r rfl rfl rfl rfl (R_move rfl) ?_)
                            | (refine HL_skip rfl rfl rfl ?_)
                            | (refine HL_case 76 rfl (fun hb27 => ?_) (fun hb27 => ?_) <;> (try simp only [decide_eq_true_eq, decide_eq_false_iff_not, beq_iff_eq, beq_eq_false_iff_ne, bne_iff_ne, bne_eq_false_iff_eq, Bool.not_eq_true', Bool.not_eq_false', ne_eq, Int.not_lt, Int.not_le, ge_iff_le, gt_iff_lt] at hb27) <;> first | (refine HL_r rfl rfl rfl rfl (R_move rfl) ?_) | (refine HL_skip rfl rfl rfl ?_))
                          all_goals first
                            | (refine HL_r rfl rfl rfl rfl (R_move rfl) ?_)
                            | (refine HL_skip rfl rfl rfl ?_)
                            | (refine HL_case 76 rfl (fun hb28 => ?_) (fun hb28 => ?_) <;> (try simp only [decide_eq_true_eq, decide_eq_false_iff_not, beq_iff_eq, beq_eq_false_iff_ne, bne_iff_ne, bne_eq_false_iff_eq, Bool.not_eq_true', Bool.not_eq_false', ne_eq, Int.not_lt, Int.not_le, ge_iff_le, gt_iff_lt] at hb28) <;> first | (refine HL_r rfl rfl rfl rfl (R_move rfl) ?_) | (refine HL_skip rfl rfl rfl ?_))
                          all_goals first
                            | (refine HL_r rfl rfl rfl rfl (R_lenBs rfl rfl) ?_)
                            | (refine HL_r rfl rfl rfl rfl (R_lenSl rfl rfl) ?_)
                            | (refine HL_r rfl rfl rfl rfl (R_lenStr rfl rfl rfl) ?_)
                            | (refine HL_r rfl rfl rfl rfl (R_pure rfl rfl rfl) ?_)
                            | (refine HL_skip rfl rfl rfl ?_)
                            | (refine HL_case 76 rfl (fun hb29 => ?_) (fun hb29 => ?_) <;> (try simp only [decide_eq_true_eq, decide_eq_false_iff_not, beq_iff_eq, beq_eq_false_iff_ne, bne_iff_ne, bne_eq_false_iff_eq, Bool.not_eq_true', Bool.not_eq_false', ne_eq, Int.not_lt, Int.not_le, ge_iff_le, gt_iff_lt] at hb29) <;> first | (refine HL_r rfl rfl rfl rfl (R_lenBs rfl rfl) ?_) | (refine HL_r rfl rfl rfl rfl (R_lenSl rfl rfl) ?_) | (refine HL_r rfl rfl rfl rfl (R_lenStr rfl rfl rfl) ?_) | (refine HL_r rfl rfl rfl rfl (R_pure rfl rfl rfl) ?_) | (refine HL_skip rfl rfl rfl ?_))
                          all_goals first
                            | (refine HL_r rfl rfl rfl rfl (R_move rfl) ?_)
                            | (refine HL_skip rfl rfl rfl ?_)
                            | (refine HL_case 76 rfl (fun hb30 => ?_) (fun hb30 => ?_) <;> (try simp only [decide_eq_true_eq, decide_eq_false_iff_not, beq_iff_eq, beq_eq_false_iff_ne, bne_iff_ne, bne_eq_false_iff_eq, Bool.not_eq_true', Bool.not_eq_false', ne_eq, Int.not_lt, Int.not_le, ge_iff_le, gt_iff_lt] at hb30) <;> first | (refine HL_r rfl rfl rfl rfl (R_move rfl) ?_) | (refine HL_skip rfl rfl rfl ?_))
                          all_goals first
                            | (refine HL_callP rfl rfl rfl (enters_of Tryd.func27 (by kernel_rfl) rfl) (P_num_Var hn) ?_)
                            | (refine HL_skip rfl rfl rfl ?_)
                            | (refine HL_case 76 rfl (fun hb31 => ?_) (fun hb31 => ?_) <;> (try simp only [decide_eq_true_eq, decide_eq_false_iff_not, beq_iff_eq, beq_eq_false_iff_ne, bne_iff_ne, bne_eq_false_iff_eq, Bool.not_eq_true', Bool.not_eq_false', ne_eq, Int.not_lt, Int.not_le, ge_iff_le, gt_iff_lt] at hb31) <;> first | (refine HL_callP rfl rfl rfl (enters_of Tryd.func27 (by kernel_rfl) rfl) (P_num_Var hn) ?_) | (refine HL_skip rfl rfl rfl ?_))
                          all_goals first
                            | (refine HL_r rfl rfl rfl rfl (R_lenBs rfl rfl) ?_)
                            | (refine HL_r rfl rfl rfl rfl (R_lenSl rfl rfl) ?_)
                            | (refine HL_r rfl rfl rfl rfl (R_lenStr rfl rfl rfl) ?_)
                            | (refine HL_r rfl rfl rfl rfl (R_pure rfl rfl rfl) ?_)
                            | (refine HL_skip rfl rfl rfl ?_)
                            | (refine HL_case 76 rfl (fun hb32 => ?_) (fun hb32 => ?_) <;> (try simp only [decide_eq_true_eq, decide_eq_false_iff_not, beq_iff_eq, beq_eq_false_iff_ne, bne_iff_ne, bne_eq_false_iff_eq, Bool.not_eq_true', Bool.not_eq_false', ne_eq, Int.not_lt, Int.not_le, ge_iff_le, gt_iff_lt] at hb32) <;> first | (refine HL_r rfl rfl rfl rfl (R_lenBs rfl rfl) ?_) | (refine HL_r rfl rfl rfl rfl (R_lenSl rfl rfl) ?_) | (refine HL_r rfl rfl rfl rfl (R_lenStr rfl rfl rfl) ?_) | (refine HL_r rfl rfl rfl rfl (R_pure rfl rfl rfl) ?_) | (refine HL_skip rfl rfl rfl ?_))
                          all_goals first
                            | (refine HL_r rfl rfl rfl rfl (R_pure rfl rfl rfl) ?_; refine HL_wrap_i64 (by omega) (by omega) ?_)
                            | (refine HL_r rfl rfl rfl rfl (R_pure rfl rfl rfl) ?_)
                            | (refine HL_skip rfl rfl rfl ?_)
                            | (refine HL_case 76 rfl (fun hb33 => ?_) (fun hb33 => ?_) <;> (try simp only [decide_eq_true_eq, decide_eq_false_iff_not, beq_iff_eq, beq_eq_false_iff_ne, bne_iff_ne, bne_eq_false_iff_eq, Bool.not_eq_true', Bool.not_eq_false', ne_eq, Int.not_lt, Int.not_le, ge_iff_le, gt_iff_lt] at hb33) <;> first | (refine HL_r rfl rfl rfl rfl (R_pure rfl rfl rfl) ?_; refine HL_wrap_i64 (by omega) (by omega) ?_) | (refine HL_r rfl rfl rfl rfl (R_pure rfl rfl rfl) ?_) | (refine HL_skip rfl rfl rfl ?_))
                          all_goals first
                            | (refine HL_r rfl rfl rfl rfl (R_pure rfl rfl rfl) ?_)
                            | (refine HL_skip rfl rfl rfl ?_)
                            | (refine HL_case 76 rfl (fun hb34 => ?_) (fun hb34 => ?_) <;> (try simp only [decide_eq_true_eq, decide_eq_false_iff_not, beq_iff_eq, beq_eq_false_iff_ne, bne_iff_ne, bne_eq_false_iff_eq, Bool.not_eq_true', Bool.not_eq_false', ne_eq, Int.not_lt, Int.not_le, ge_iff_le, gt_iff_lt] at hb34) <;> first | (refine HL_r rfl rfl rfl rfl (R_pure rfl rfl rfl) ?_) | (refine HL_skip rfl rfl rfl ?_))
                          all_goals first
                            | (refine HL_as (show _ = Value.bool true from bool_eq' (ieqT (by omega))) ?_)
                            | (refine HL_as (show _ = Value.bool false from bool_eq' (ieqT (by omega))) ?_)
                            | skip
                          all_goals first
                            | (refine HL_r rfl rfl rfl rfl (R_pickT rfl rfl) ?_)
                            | (refine HL_r rfl rfl rfl rfl (R_pickF rfl rfl) ?_)
                          all_goals refine HL_r rfl rfl rfl rfl (R_move rfl) ?_
                          all_goals first
                            | (refine HL_r rfl rfl rfl rfl (R_move rfl) ?_)
                            | (refine HL_skip rfl rfl rfl ?_)
                            | (refine HL_case 86 rfl (fun hb35 => ?_) (fun hb35 => ?_) <;> (try simp only [decide_eq_true_eq, decide_eq_false_iff_not, beq_iff_eq, beq_eq_false_iff_ne, bne_iff_ne, bne_eq_false_iff_eq, Bool.not_eq_true', Bool.not_eq_false', ne_eq, Int.not_lt, Int.not_le, ge_iff_le, gt_iff_lt] at hb35) <;> first | (refine HL_r rfl rfl rfl rfl (R_move rfl) ?_) | (refine HL_skip rfl rfl rfl ?_))
                          all_goals first
                            | (refine HL_r rfl rfl rfl rfl (R_pure rfl rfl rfl) ?_)
                            | (refine HL_skip rfl rfl rfl ?_)
                            | (refine HL_case 86 rfl (fun hb36 => ?_) (fun hb36 => ?_) <;> (try simp only [decide_eq_true_eq, decide_eq_false_iff_not, beq_iff_eq, beq_eq_false_iff_ne, bne_iff_ne, bne_eq_false_iff_eq, Bool.not_eq_true', Bool.not_eq_false', ne_eq, Int.not_lt, Int.not_le, ge_iff_le, gt_iff_lt] at hb36) <;> first | (refine HL_r rfl rfl rfl rfl (R_pure rfl rfl rfl) ?_) | (refine HL_skip rfl rfl rfl ?_))
                          all_goals first
                            | (refine HL_as (show _ = Value.bool true from bool_eq' (rfl)) ?_)
                            | (refine HL_as (show _ = Value.bool false from bool_eq' (rfl)) ?_)
                            | skip
                          all_goals first
                            | (refine HL_r rfl rfl rfl rfl (R_pickT rfl rfl) ?_)
                            | (refine HL_r rfl rfl rfl rfl (R_pickF rfl rfl) ?_)
                          all_goals refine HL_r rfl rfl rfl rfl (R_move rfl) ?_
                          all_goals first
                            | (refine HL_r rfl rfl rfl rfl (R_move rfl) ?_)
                            | (refine HL_skip rfl rfl rfl ?_)
                            | (refine HL_case 90 rfl (fun hb37 => ?_) (fun hb37 => ?_) <;> (try simp only [decide_eq_true_eq, decide_eq_false_iff_not, beq_iff_eq, beq_eq_false_iff_ne, bne_iff_ne, bne_eq_false_iff_eq, Bool.not_eq_true', Bool.not_eq_false', ne_eq, Int.not_lt, Int.not_le, ge_iff_le, gt_iff_lt] at hb37) <;> first | (refine HL_r rfl rfl rfl rfl (R_move rfl) ?_) | (refine HL_skip rfl rfl rfl ?_))
                          all_goals first
                            | (refine HL_r rfl rfl rfl rfl (R_pure rfl rfl rfl) ?_)
                            | (refine HL_skip rfl rfl rfl ?_)
                            | (refine HL_case 90 rfl (fun hb38 => ?_) (fun hb38 => ?_) <;> (try simp only [decide_eq_true_eq, decide_eq_false_iff_not, beq_iff_eq, beq_eq_false_iff_ne, bne_iff_ne, bne_eq_false_iff_eq, Bool.not_eq_true', Bool.not_eq_false', ne_eq, Int.not_lt, Int.not_le, ge_iff_le, gt_iff_lt] at hb38) <;> first | (refine HL_r rfl rfl rfl rfl (R_pure rfl rfl rfl) ?_) | (refine HL_skip rfl rfl rfl ?_))
                          all_goals first
                            | (refine HL_r rfl rfl rfl rfl (R_move rfl) ?_)
                            | (refine HL_skip rfl rfl rfl ?_)
                            | (refine HL_case 90 rfl (fun hb39 => ?_) (fun hb39 => ?_) <;> (try simp only [decide_eq_true_eq, decide_eq_false_iff_not, beq_iff_eq, beq_eq_false_iff_ne, bne_iff_ne, bne_eq_false_iff_eq, Bool.not_eq_true', Bool.not_eq_false', ne_eq, Int.not_lt, Int.not_le, ge_iff_le, gt_iff_lt] at hb39) <;> first | (refine HL_r rfl rfl rfl rfl (R_move rfl) ?_) | (refine HL_skip rfl rfl rfl ?_))
                          all_goals first
                            | (refine HL_r rfl rfl rfl rfl (R_move rfl) ?_)
                            | (refine HL_skip rfl rfl rfl ?_)
                            | (refine HL_case 93 rfl (fun hb40 => ?_) (fun hb40 => ?_) <;> (try simp only [decide_eq_true_eq, decide_eq_false_iff_not, beq_iff_eq, beq_eq_false_iff_ne, bne_iff_ne, bne_eq_false_iff_eq, Bool.not_eq_true', Bool.not_eq_false', ne_eq, Int.not_lt, Int.not_le, ge_iff_le, gt_iff_lt] at hb40) <;> first | (refine HL_r rfl rfl rfl rfl (R_move rfl) ?_) | (refine HL_skip rfl rfl rfl ?_))
                          all_goals first
                            | (refine HL_r rfl rfl rfl rfl (R_pure rfl rfl rfl) ?_)
                            | (refine HL_skip rfl rfl rfl ?_)
                            | (refine HL_case 93 rfl (fun hb41 => ?_) (fun hb41 => ?_) <;> (try simp only [decide_eq_true_eq, decide_eq_false_iff_not, beq_iff_eq, beq_eq_false_iff_ne, bne_iff_ne, bne_eq_false_iff_eq, Bool.not_eq_true', Bool.not_eq_false', ne_eq, Int.not_lt, Int.not_le, ge_iff_le, gt_iff_lt] at hb41) <;> first | (refine HL_r rfl rfl rfl rfl (R_pure rfl rfl rfl) ?_) | (refine HL_skip rfl rfl rfl ?_))
                          all_goals first
                            | (refine HL_as (show _ = Value.bool true from bool_eq' (ieqT (congrArg Prod.snd (le_ok hn (by with_reducible assumption)).1))) ?_)
                            | (refine HL_as (show _ = Value.bool false from bool_eq' (ieqT (congrArg Prod.snd (le_ok hn (by with_reducible assumption)).1))) ?_)
                            | skip
                          all_goals first
                            | (refine HL_r rfl rfl rfl rfl (R_move rfl) ?_)
                            | (refine HL_skip rfl rfl rfl ?_)
                            | (refine HL_case 93 rfl (fun hb42 => ?_) (fun hb42 => ?_) <;> (try simp only [decide_eq_true_eq, decide_eq_false_iff_not, beq_iff_eq, beq_eq_false_iff_ne, bne_iff_ne, bne_eq_false_iff_eq, Bool.not_eq_true', Bool.not_eq_false', ne_eq, Int.not_lt, Int.not_le, ge_iff_le, gt_iff_lt] at hb42) <;> first | (refine HL_r rfl rfl rfl rfl (R_move rfl) ?_) | (refine HL_skip rfl rfl rfl ?_))
                          all_goals first
                            | (refine HL_r rfl rfl rfl rfl (R_move rfl) ?_)
                            | (refine HL_skip rfl rfl rfl ?_)
                            | (refine HL_case 96 rfl (fun hb43 => ?_) (fun hb43 => ?_) <;> (try simp only [decide_eq_true_eq, decide_eq_false_iff_not, beq_iff_eq, beq_eq_false_iff_ne, bne_iff_ne, bne_eq_false_iff_eq, Bool.not_eq_true', Bool.not_eq_false', ne_eq, Int.not_lt, Int.not_le, ge_iff_le, gt_iff_lt] at hb43) <;> first | (refine HL_r rfl rfl rfl rfl (R_move rfl) ?_) | (refine HL_skip rfl rfl rfl ?_))
                          all_goals first
                            | (refine HL_r rfl rfl rfl rfl (R_move rfl) ?_)
                            | (refine HL_skip rfl rfl rfl ?_)
                            | (refine HL_case 96 rfl (fun hb44 => ?_) (fun hb44 => ?_) <;> (try simp only [decide_eq_true_eq, decide_eq_false_iff_not, beq_iff_eq, beq_eq_false_iff_ne, bne_iff_ne, bne_eq_false_iff_eq, Bool.not_eq_true', Bool.not_eq_false', ne_eq, Int.not_lt, Int.not_le, ge_iff_le, gt_iff_lt] at hb44) <;> first | (refine HL_r rfl rfl rfl rfl (R_move rfl) ?_) | (refine HL_skip rfl rfl rfl ?_))
                          all_goals first
                            | (refine HL_r rfl rfl rfl rfl (R_pure rfl rfl rfl) ?_)
                            | (refine HL_skip rfl rfl rfl ?_)
                            | (refine HL_case 96 rfl (fun hb45 => ?_) (fun hb45 => ?_) <;> (try simp only [decide_eq_true_eq, decide_eq_false_iff_not, beq_iff_eq, beq_eq_false_iff_ne, bne_iff_ne, bne_eq_false_iff_eq, Bool.not_eq_true', Bool.not_eq_false', ne_eq, Int.not_lt, Int.not_le, ge_iff_le, gt_iff_lt] at hb45) <;> first | (refine HL_r rfl rfl rfl rfl (R_pure rfl rfl rfl) ?_) | (refine HL_skip rfl rfl rfl ?_))
                          all_goals first
                            | (refine HL_as (show _ = Value.bool true from bool_eq' (ieqT (congrArg (fun z : Nat × Int => (z.1 : Int)) (le_ok hn (by with_reducible assumption)).1))) ?_)
                            | (refine HL_as (show _ = Value.bool false from bool_eq' (ieqT (congrArg (fun z : Nat × Int => (z.1 : Int)) (le_ok hn (by with_reducible assumption)).1))) ?_)
                            | skip
                          all_goals first
                            | (refine HL_r rfl rfl rfl rfl (R_pickT rfl rfl) ?_)
                            | (refine HL_r rfl rfl rfl rfl (R_pickF rfl rfl) ?_)
                            | (refine HL_skip rfl rfl rfl ?_)
                            | (refine HL_case 93 rfl (fun hb46 => ?_) (fun hb46 => ?_) <;> (try simp only [decide_eq_true_eq, decide_eq_false_iff_not, beq_iff_eq, beq_eq_false_iff_ne, bne_iff_ne, bne_eq_false_iff_eq, Bool.not_eq_true', Bool.not_eq_false', ne_eq, Int.not_lt, Int.not_le, ge_iff_le, gt_iff_lt] at hb46) <;> first | (refine HL_r rfl rfl rfl rfl (R_pickT rfl rfl) ?_) | (refine HL_r rfl rfl rfl rfl (R_pickF rfl rfl) ?_) | (refine HL_skip rfl rfl rfl ?_))
                          all_goals first
                            | (refine HL_r rfl rfl rfl rfl (R_move rfl) ?_)
                            | (refine HL_skip rfl rfl rfl ?_)
                            | (refine HL_case 93 rfl (fun hb47 => ?_) (fun hb47 => ?_) <;> (try simp only [decide_eq_true_eq, decide_eq_false_iff_not, beq_iff_eq, beq_eq_false_iff_ne, bne_iff_ne, bne_eq_false_iff_eq, Bool.not_eq_true', Bool.not_eq_false', ne_eq, Int.not_lt, Int.not_le, ge_iff_le, gt_iff_lt] at hb47) <;> first | (refine HL_r rfl rfl rfl rfl (R_move rfl) ?_) | (refine HL_skip rfl rfl rfl ?_))
                          all_goals first
                            | (refine HL_r rfl rfl rfl rfl (R_move rfl) ?_)
                            | (refine HL_skip rfl rfl rfl ?_)
                            | (refine HL_case 101 rfl (fun hb48 => ?_) (fun hb48 => ?_) <;> (try simp only [decide_eq_true_eq, decide_eq_false_iff_not, beq_iff_eq, beq_eq_false_iff_ne, bne_iff_ne, bne_eq_false_iff_eq, Bool.not_eq_true', Bool.not_eq_false', ne_eq, Int.not_lt, Int.not_le, ge_iff_le, gt_iff_lt] at hb48) <;> first | (refine HL_r rfl rfl rfl rfl (R_move rfl) ?_) | (refine HL_skip rfl rfl rfl ?_))
                          all_goals first
                            | (refine HL_r rfl rfl rfl rfl (R_lenBs rfl rfl) ?_)
                            | (refine HL_r rfl rfl rfl rfl (R_lenSl rfl rfl) ?_)
                            | (refine HL_r rfl rfl rfl rfl (R_lenStr rfl rfl rfl) ?_)
                            | (refine HL_r rfl rfl rfl rfl (R_pure rfl rfl rfl) ?_)
                            | (refine HL_skip rfl rfl rfl ?_)
                            | (refine HL_case 101 rfl (fun hb49 => ?_) (fun hb49 => ?_) <;> (try simp only [decide_eq_true_eq, decide_eq_false_iff_not, beq_iff_eq, beq_eq_false_iff_ne, bne_iff_ne, bne_eq_false_iff_eq, Bool.not_eq_true', Bool.not_eq_false', ne_eq, Int.not_lt, Int.not_le, ge_iff_le, gt_iff_lt] at hb49) <;> first | (refine HL_r rfl rfl rfl rfl (R_lenBs rfl rfl) ?_) | (refine HL_r rfl rfl rfl rfl (R_lenSl rfl rfl) ?_) | (refine HL_r rfl rfl rfl rfl (R_lenStr rfl rfl rfl) ?_) | (refine HL_r rfl rfl rfl rfl (R_pure rfl rfl rfl) ?_) | (refine HL_skip rfl rfl rfl ?_))
                          all_goals first
                            | (refine HL_r rfl rfl rfl rfl (R_move rfl) ?_)
                            | (refine HL_skip rfl rfl rfl ?_)
                            | (refine HL_case 101 rfl (fun hb50 => ?_) (fun hb50 => ?_) <;> (try simp only [decide_eq_true_eq, decide_eq_false_iff_not, beq_iff_eq, beq_eq_false_iff_ne, bne_iff_ne, bne_eq_false_iff_eq, Bool.not_eq_true', Bool.not_eq_false', ne_eq, Int.not_lt, Int.not_le, ge_iff_le, gt_iff_lt] at hb50) <;> first | (refine HL_r rfl rfl rfl rfl (R_move rfl) ?_) | (refine HL_skip rfl rfl rfl ?_))
                          all_goals first
                            | (refine HL_r rfl rfl rfl rfl (R_pure rfl rfl rfl) ?_)
                            | (refine HL_skip rfl rfl rfl ?_)
                            | (refine HL_case 101 rfl (fun hb51 => ?_) (fun hb51 => ?_) <;> (try simp only [decide_eq_true_eq, decide_eq_false_iff_not, beq_iff_eq, beq_eq_false_iff_ne, bne_iff_ne, bne_eq_false_iff_eq, Bool.not_eq_true', Bool.not_eq_false', ne_eq, Int.not_lt, Int.not_le, ge_iff_le, gt_iff_lt] at hb51) <;> first | (refine HL_r rfl rfl rfl rfl (R_pure rfl rfl rfl) ?_) | (refine HL_skip rfl rfl rfl ?_))
                          all_goals first
                            | (refine HL_as (show _ = Value.bool true from bool_eq' (ieqT (le_ok hn (by with_reducible assumption)).2)) ?_)
                            | (refine HL_as (show _ = Value.bool false from bool_eq' (ieqT (le_ok hn (by with_reducible assumption)).2)) ?_)
                            | skip
                          all_goals first
                            | (refine HL_r rfl rfl rfl rfl (R_pickT rfl rfl) ?_)
                            | (refine HL_r rfl rfl rfl rfl (R_pickF rfl rfl) ?_)
                            | (refine HL_skip rfl rfl rfl ?_)
                            | (refine HL_case 93 rfl (fun hb52 => ?_) (fun hb52 => ?_) <;> (try simp only [decide_eq_true_eq, decide_eq_false_iff_not, beq_iff_eq, beq_eq_false_iff_ne, bne_iff_ne, bne_eq_false_iff_eq, Bool.not_eq_true', Bool.not_eq_false', ne_eq, Int.not_lt, Int.not_le, ge_iff_le, gt_iff_lt] at hb52) <;> first | (refine HL_r rfl rfl rfl rfl (R_pickT rfl rfl) ?_) | (refine HL_r rfl rfl rfl rfl (R_pickF rfl rfl) ?_) | (refine HL_skip rfl rfl rfl ?_))
                          all_goals first
                            | (refine HL_r rfl rfl rfl rfl (R_pickT rfl rfl) ?_)
                            | (refine HL_r rfl rfl rfl rfl (R_pickF rfl rfl) ?_)
                            | (refine HL_skip rfl rfl rfl ?_)
                            | (refine HL_case 90 rfl (fun hb53 => ?_) (fun hb53 => ?_) <;> (try simp only [decide_eq_true_eq, decide_eq_false_iff_not, beq_iff_eq, beq_eq_false_iff_ne, bne_iff_ne, bne_eq_false_iff_eq, Bool.not_eq_true', Bool.not_eq_false', ne_eq, Int.not_lt, Int.not_le, ge_iff_le, gt_iff_lt] at hb53) <;> first | (refine HL_r rfl rfl rfl rfl (R_pickT rfl rfl) ?_) | (refine HL_r rfl rfl rfl rfl (R_pickF rfl rfl) ?_) | (refine HL_skip rfl rfl rfl ?_))
                          all_goals first
                            | (refine HL_r rfl rfl rfl rfl (R_pickT rfl rfl) ?_)
                            | (refine HL_r rfl rfl rfl rfl (R_pickF rfl rfl) ?_)
                          all_goals refine HL_r rfl rfl rfl rfl (R_assign rfl) ?_
                          all_goals refine HL_nil ?_
                          all_goals (
                            refine HQ_then ?_
                            refine hK18 _ _ _ _ ?_; clear hK18 K18
                            refine HC_ret ?_
                            refine HQ_post rfl rfl (.cons (res_tmp rfl) .nil) (fun w1 hs1 => ?_)
                            exact ⟨rfl, hs1.keep⟩
                            skip)
                          skip)
                        skip)
                      skip)
                    skip)
                  skip)
              skip)
            skip)
        skip)
      skip)
    skip)
set_option maxRecDepth 10000 in
theorem P_NumOnly {s : List UInt8} (hs : s.length ≤ 9223372036854775807) (p : Int) : Pure Tryd.prog 10 [.string (bs s), .int .i64 p].toArray (.bool true) := by
  refine pure_of_HC Tryd.func10 rfl rfl fun w => ?_
  rcases unv_key s p with ⟨N, tt, e, a, hu, hN, he, hp, hat, htl, hv⟩ | ⟨N, tt, e, hu, hN, he, hN0, ht0⟩
  all_goals (
    refine HC_seq fun K1 hK1 => ?_
    refine HC_region ?_
    all_goals refine HL_r rfl rfl rfl rfl (R_assign rfl) ?_
    all_goals refine HL_nil ?_
    all_goals (
      refine HQ_then ?_
      refine hK1 _ _ _ _ ?_; clear hK1 K1
      refine HC_seq fun K2 hK2 => ?_
      refine HC_region ?_
      all_goals refine HL_callP rfl rfl rfl (enters_of Tryd.func21 (by kernel_rfl) rfl) P_works02 ?_
      all_goals refine HL_r rfl rfl rfl rfl (R_assign rfl) ?_
      all_goals refine HL_nil ?_
      all_goals (
        refine HQ_then ?_
        refine hK2 _ _ _ _ ?_; clear hK2 K2
        refine HC_seq fun K3 hK3 => ?_
        refine HC_seq fun K4 hK4 => ?_
        refine HC_region ?_
        all_goals refine HL_r rfl rfl rfl rfl (R_move rfl) ?_
        all_goals refine HL_r rfl rfl rfl rfl (R_pure rfl rfl rfl) ?_
        all_goals refine HL_nil ?_
        all_goals (
          refine HQ_then ?_
          refine hK4 _ _ _ _ ?_; clear hK4 K4
          refine HC_cond rfl (fun h5 => ?_) (fun h5 => ?_)
          · try exact Bool.noConfusion h5
            all_goals try simp only [decide_eq_true_eq, decide_eq_false_iff_not, beq_iff_eq, beq_eq_false_iff_ne, bne_iff_ne, bne_eq_false_iff_eq, Bool.not_eq_true', Bool.not_eq_false', ne_eq, Int.not_lt, Int.not_le, ge_iff_le, gt_iff_lt] at h5
            all_goals (
              refine HC_seq fun K6 hK6 => ?_
              refine HC_region ?_
              all_goals refine HL_r rfl rfl rfl rfl (R_assign rfl) ?_
              all_goals refine HL_nil ?_
              all_goals (
                refine HQ_then ?_
                refine hK6 _ _ _ _ ?_; clear hK6 K6
                refine HC_ret ?_
                refine HQ_thenR ?_; clear hK3 K3
                refine HQ_post rfl rfl (.cons (res_tmp rfl) .nil) (fun w1 hs1 => ?_)
                exact ⟨rfl, hs1.keep⟩
                skip)
              skip)
          · try exact Bool.noConfusion h5
            all_goals try simp only [decide_eq_true_eq, decide_eq_false_iff_not, beq_iff_eq, beq_eq_false_iff_ne, bne_iff_ne, bne_eq_false_iff_eq, Bool.not_eq_true', Bool.not_eq_false', ne_eq, Int.not_lt, Int.not_le, ge_iff_le, gt_iff_lt] at h5
            all_goals (
              refine HC_skip ?_
              refine HQ_then ?_
              refine hK3 _ _ _ _ ?_; clear hK3 K3
              refine HC_seq fun K7 hK7 => ?_
              refine HC_seq fun K8 hK8 => ?_
              refine HC_region ?_
              all_goals refine HL_r rfl rfl rfl rfl (R_move rfl) ?_
              all_goals first
                | (refine HL_r rfl rfl rfl rfl (R_lenBs rfl rfl) ?_)
                | (refine HL_r rfl rfl rfl rfl (R_lenSl rfl rfl) ?_)
                | (refine HL_r rfl rfl rfl rfl (R_lenStr rfl rfl rfl) ?_)
                | (refine HL_r rfl rfl rfl rfl (R_pure rfl rfl rfl) ?_)
              all_goals refine HL_r rfl rfl rfl rfl (R_pure rfl rfl rfl) ?_
              all_goals refine HL_nil ?_
              all_goals (
                refine HQ_then ?_
                refine hK8 _ _ _ _ ?_; clear hK8 K8
                refine HC_cond rfl (fun h9 => ?_) (fun h9 => ?_)
                · try exact Bool.noConfusion h9
                  all_goals try simp only [decide_eq_true_eq, decide_eq_false_iff_not, beq_iff_eq, beq_eq_false_iff_ne, bne_iff_ne, bne_eq_false_iff_eq, Bool.not_eq_true', Bool.not_eq_false', ne_eq, Int.not_lt, Int.not_le, ge_iff_le, gt_iff_lt] at h9
                  all_goals (
                    refine HC_seq fun K10 hK10 => ?_
                    refine HC_region ?_
                    all_goals refine HL_r rfl rfl rfl rfl (R_move rfl) ?_
                    all_goals refine HL_r rfl rfl rfl rfl (R_assign rfl) ?_
                    all_goals refine HL_nil ?_
                    all_goals (
                      refine HQ_then ?_
                      refine hK10 _ _ _ _ ?_; clear hK10 K10
                      refine HC_ret ?_
                      refine HQ_thenR ?_; clear hK7 K7
                      refine HQ_post rfl rfl (.cons (res_tmp rfl) .nil) (fun w1 hs1 => ?_)
                      exact ⟨rfl, hs1.keep⟩
                      skip)
                    skip)
                · try exact Bool.noConfusion h9
                  all_goals try simp only [decide_eq_true_eq, decide_eq_false_iff_not, beq_iff_eq, beq_eq_false_iff_ne, bne_iff_ne, bne_eq_false_iff_eq, Bool.not_eq_true', Bool.not_eq_false', ne_eq, Int.not_lt, Int.not_le, ge_iff_le, gt_iff_lt] at h9
                  all_goals (
                    refine HC_skip ?_
                    refine HQ_then ?_
                    refine hK7 _ _ _ _ ?_; clear hK7 K7
                    refine HC_seq fun K11 hK11 => ?_
                    refine HC_region ?_
                    all_goals refine HL_r rfl rfl rfl rfl (R_move rfl) ?_
                    all_goals refine HL_callP rfl rfl rfl (enters_of Tryd.func28 (by kernel_rfl) rfl) (P_num_Unbe s) ?_
                    all_goals refine HL_r rfl rfl rfl rfl (R_move rfl) ?_
                    all_goals refine HL_r rfl rfl rfl rfl (R_extract rfl rfl) ?_
                    all_goals refine HL_r rfl rfl rfl rfl (R_extract rfl rfl) ?_
                    all_goals refine HL_r rfl rfl rfl rfl (R_assign rfl) ?_
                    all_goals refine HL_r rfl rfl rfl rfl (R_assign rfl) ?_
                    all_goals refine HL_nil ?_
                    all_goals (
                      refine HQ_then ?_
                      refine hK11 _ _ _ _ ?_; clear hK11 K11
                      refine HC_seq fun K12 hK12 => ?_
                      refine HC_region ?_
                      all_goals refine HL_r rfl rfl rfl rfl (R_move rfl) ?_
                      all_goals refine HL_callP rfl rfl rfl (enters_of Tryd.func30 (by kernel_rfl) rfl) (P_num_Unle s) ?_
                      all_goals refine HL_r rfl rfl rfl rfl (R_move rfl) ?_
                      all_goals refine HL_r rfl rfl rfl rfl (R_extract rfl rfl) ?_
                      all_goals refine HL_r rfl rfl rfl rfl (R_extract rfl rfl) ?_
                      all_goals refine HL_r rfl rfl rfl rfl (R_assign rfl) ?_
                      all_goals refine HL_r rfl rfl rfl rfl (R_assign rfl) ?_
                      all_goals refine HL_nil ?_
                      all_goals (
                        refine HQ_then ?_
                        refine hK12 _ _ _ _ ?_; clear hK12 K12
                        refine HC_seq fun K13 hK13 => ?_
                        refine HC_region ?_
                        all_goals refine HL_r rfl rfl rfl rfl (R_move rfl) ?_
                        all_goals refine HL_r rfl rfl rfl rfl (R_move rfl) ?_
                        all_goals first
                          | (refine HL_r rfl rfl rfl rfl (R_lenBs rfl rfl) ?_)
                          | (refine HL_r rfl rfl rfl rfl (R_lenSl rfl rfl) ?_)
                          | (refine HL_r rfl rfl rfl rfl (R_lenStr rfl rfl rfl) ?_)
                          | (refine HL_r rfl rfl rfl rfl (R_pure rfl rfl rfl) ?_)
                        all_goals refine HL_callP rfl rfl rfl (enters_of Tryd.func23 (by kernel_rfl) rfl) (P_num_Le (unle_lt s) (s.length : Nat)) ?_
                        all_goals refine HL_r rfl rfl rfl rfl (R_move rfl) ?_
                        all_goals refine HL_r rfl rfl rfl rfl (R_extract rfl rfl) ?_
                        all_goals refine HL_r rfl rfl rfl rfl (R_extract rfl rfl) ?_
                        all_goals refine HL_r rfl rfl rfl rfl (R_assign rfl) ?_
                        all_goals refine HL_r rfl rfl rfl rfl (R_assign rfl) ?_
                        all_goals refine HL_nil ?_
                        all_goals (
                          refine HQ_then ?_
                          refine hK13 _ _ _ _ ?_; clear hK13 K13
                          refine HC_seq fun K14 hK14 => ?_
                          refine HC_region ?_
                          all_goals refine HL_r rfl rfl rfl rfl (R_move rfl) ?_
                          all_goals refine HL_r rfl rfl rfl rfl (R_move rfl) ?_
                          all_goals refine HL_callP rfl rfl rfl (enters_of Tryd.func29 (by kernel_rfl) rfl) (P_num_Unvar hs p) ?_; refine HL_as (show _ = Value.tuple #[uV N, .int .i64 (tt : Int), .int .i64 (e : Int)] from by rw [hu]; rfl) ?_
                          all_goals refine HL_r rfl rfl rfl rfl (R_move rfl) ?_
                          all_goals refine HL_r rfl rfl rfl rfl (R_extract rfl rfl) ?_
                          all_goals refine HL_r rfl rfl rfl rfl (R_extract rfl rfl) ?_
                          all_goals refine HL_r rfl rfl rfl rfl (R_extract rfl rfl) ?_
                          all_goals refine HL_r rfl rfl rfl rfl (R_assign rfl) ?_
                          all_goals refine HL_r rfl rfl rfl rfl (R_assign rfl) ?_
                          all_goals refine HL_r rfl rfl rfl rfl (R_assign rfl) ?_
                          all_goals refine HL_nil ?_
                          all_goals (
                            refine HQ_then ?_
                            refine hK14 _ _ _ _ ?_; clear hK14 K14
                            refine HC_seq fun K15 hK15 => ?_
                            refine HC_seq fun K16 hK16 => ?_
                            refine HC_draw 34 (by kernel_rfl) (by kernel_rfl) ?_
                            all_goals refine HD_r rfl rfl rfl (R_move rfl) ?_
                            all_goals refine HD_r rfl rfl rfl (R_pure rfl rfl rfl) ?_
                            all_goals first
                              | (refine HD_as (show _ = Value.bool true from bool_eq' (by first | exact ieqT (by omega) | exact ieqF he)) ?_)
                              | (refine HD_as (show _ = Value.bool false from bool_eq' (by first | exact ieqT (by omega) | exact ieqF he)) ?_)
                              | skip
                            all_goals refine HD_r rfl rfl rfl (R_move rfl) ?_
                            all_goals first
                              | (refine HD_r rfl rfl rfl (R_move rfl) ?_)
                              | (refine HD_skip rfl rfl rfl ?_)
                              | (refine HD_case 48 rfl (fun hb17 => ?_) (fun hb17 => ?_) <;> (try simp only [decide_eq_true_eq, decide_eq_false_iff_not, beq_iff_eq, beq_eq_false_iff_ne, bne_iff_ne, bne_eq_false_iff_eq, Bool.not_eq_true', Bool.not_eq_false', ne_eq, Int.not_lt, Int.not_le, ge_iff_le, gt_iff_lt] at hb17) <;> first | (refine HD_r rfl rfl rfl (R_move rfl) ?_) | (refine HD_skip rfl rfl rfl ?_))
                            all_goals first
                              | (refine HD_r rfl rfl rfl (R_move rfl) ?_)
                              | (refine HD_skip rfl rfl rfl ?_)
                              | (refine HD_case 48 rfl (fun hb18 => ?_) (fun hb18 => ?_) <;> (try simp only [decide_eq_true_eq, decide_eq_false_iff_not, beq_iff_eq, beq_eq_false_iff_ne, bne_iff_ne, bne_eq_false_iff_eq, Bool.not_eq_true', Bool.not_eq_false', ne_eq, Int.not_lt, Int.not_le, ge_iff_le, gt_iff_lt] at hb18) <;> first | (refine HD_r rfl rfl rfl (R_move rfl) ?_) | (refine HD_skip rfl rfl rfl ?_))
                            all_goals first
                              | (refine HD_r rfl rfl rfl (R_pure rfl rfl rfl) ?_)
                              | (refine HD_skip rfl rfl rfl ?_)
                              | (refine HD_case 48 rfl (fun hb19 => ?_) (fun hb19 => ?_) <;> (try simp only [decide_eq_true_eq, decide_eq_false_iff_not, beq_iff_eq, beq_eq_false_iff_ne, bne_iff_ne, bne_eq_false_iff_eq, Bool.not_eq_true', Bool.not_eq_false', ne_eq, Int.not_lt, Int.not_le, ge_iff_le, gt_iff_lt] at hb19) <;> first | (refine HD_r rfl rfl rfl (R_pure rfl rfl rfl) ?_) | (refine HD_skip rfl rfl rfl ?_))
                            all_goals first
                              | (refine HD_as (show _ = Value.bool true from bool_eq' (by first | exact decide_eq_false (by omega))) ?_)
                              | (refine HD_as (show _ = Value.bool false from bool_eq' (by first | exact decide_eq_false (by omega))) ?_)
                              | skip
                            all_goals first
                              | (refine HD_r rfl rfl rfl (R_move rfl) ?_)
                              | (refine HD_skip rfl rfl rfl ?_)
                              | (refine HD_case 48 rfl (fun hb20 => ?_) (fun hb20 => ?_) <;> (try simp only [decide_eq_true_eq, decide_eq_false_iff_not, beq_iff_eq, beq_eq_false_iff_ne, bne_iff_ne, bne_eq_false_iff_eq, Bool.not_eq_true', Bool.not_eq_false', ne_eq, Int.not_lt, Int.not_le, ge_iff_le, gt_iff_lt] at hb20) <;> first | (refine HD_r rfl rfl rfl (R_move rfl) ?_) | (refine HD_skip rfl rfl rfl ?_))
                            all_goals first
                              | (refine HD_r rfl rfl rfl (R_move rfl) ?_)
                              | (refine HD_skip rfl rfl rfl ?_)
                              | (refine HD_case 52 rfl (fun hb21 => ?_) (fun hb21 => ?_) <;> (try simp only [decide_eq_true_eq, decide_eq_false_iff_not, beq_iff_eq, beq_eq_false_iff_ne, bne_iff_ne, bne_eq_false_iff_eq, Bool.not_eq_true', Bool.not_eq_false', ne_eq, Int.not_lt, Int.not_le, ge_iff_le, gt_iff_lt] at hb21) <;> first | (refine HD_r rfl rfl rfl (R_move rfl) ?_) | (refine HD_skip rfl rfl rfl ?_))
                            all_goals first
                              | (refine HD_r rfl rfl rfl (R_move rfl) ?_)
                              | (refine HD_skip rfl rfl rfl ?_)
                              | (refine HD_case 52 rfl (fun hb22 => ?_) (fun hb22 => ?_) <;> (try simp only [decide_eq_true_eq, decide_eq_false_iff_not, beq_iff_eq, beq_eq_false_iff_ne, bne_iff_ne, bne_eq_false_iff_eq, Bool.not_eq_true', Bool.not_eq_false', ne_eq, Int.not_lt, Int.not_le, ge_iff_le, gt_iff_lt] at hb22) <;> first | (refine HD_r rfl rfl rfl (R_move rfl) ?_) | (refine HD_skip rfl rfl rfl ?_))
                            all_goals first
                              | (refine HD_r rfl rfl rfl (R_lenBs rfl rfl) ?_)
                              | (refine HD_r rfl rfl rfl (R_lenSl rfl rfl) ?_)
                              | (refine HD_r rfl rfl rfl (R_lenStr rfl rfl rfl) ?_)
                              | (refine HD_r rfl rfl rfl (R_pure rfl rfl rfl) ?_)
                              | (refine HD_skip rfl rfl rfl ?_)
                              | (refine HD_case 52 rfl (fun hb23 => ?_) (fun hb23 => ?_) <;> (try simp only [decide_eq_true_eq, decide_eq_false_iff_not, beq_iff_eq, beq_eq_false_iff_ne, bne_iff_ne, bne_eq_false_iff_eq, Bool.not_eq_true', Bool.not_eq_false', ne_eq, Int.not_lt, Int.not_le, ge_iff_le, gt_iff_lt] at hb23) <;> first | (refine HD_r rfl rfl rfl (R_lenBs rfl rfl) ?_) | (refine HD_r rfl rfl rfl (R_lenSl rfl rfl) ?_) | (refine HD_r rfl rfl rfl (R_lenStr rfl rfl rfl) ?_) | (refine HD_r rfl rfl rfl (R_pure rfl rfl rfl) ?_) | (refine HD_skip rfl rfl rfl ?_))
                            all_goals first
                              | (refine HD_r rfl rfl rfl (R_pure rfl rfl rfl) ?_)
                              | (refine HD_skip rfl rfl rfl ?_)
                              | (refine HD_case 52 rfl (fun hb24 => ?_) (fun hb24 => ?_) <;> (try simp only [decide_eq_true_eq, decide_eq_false_iff_not, beq_iff_eq, beq_eq_false_iff_ne, bne_iff_ne, bne_eq_false_iff_eq, Bool.not_eq_true', Bool.not_eq_false', ne_eq, Int.not_lt, Int.not_le, ge_iff_le, gt_iff_lt] at hb24) <;> first | (refine HD_r rfl rfl rfl (R_pure rfl rfl rfl) ?_) | (refine HD_skip rfl rfl rfl ?_))
                            all_goals first
                              | (refine HD_as (show _ = Value.bool true from bool_eq' (by first | exact decide_eq_false (by omega))) ?_)
                              | (refine HD_as (show _ = Value.bool false from bool_eq' (by first | exact decide_eq_false (by omega))) ?_)
                              | skip
                            all_goals first
                              | (refine HD_r rfl rfl rfl (R_pickT rfl rfl) ?_)
                              | (refine HD_r rfl rfl rfl (R_pickF rfl rfl) ?_)
                              | (refine HD_skip rfl rfl rfl ?_)
                              | (refine HD_case 48 rfl (fun hb25 => ?_) (fun hb25 => ?_) <;> (try simp only [decide_eq_true_eq, decide_eq_false_iff_not, beq_iff_eq, beq_eq_false_iff_ne, bne_iff_ne, bne_eq_false_iff_eq, Bool.not_eq_true', Bool.not_eq_false', ne_eq, Int.not_lt, Int.not_le, ge_iff_le, gt_iff_lt] at hb25) <;> first | (refine HD_r rfl rfl rfl (R_pickT rfl rfl) ?_) | (refine HD_r rfl rfl rfl (R_pickF rfl rfl) ?_) | (refine HD_skip rfl rfl rfl ?_))
                            all_goals first
                              | (refine HD_r rfl rfl rfl (R_move rfl) ?_)
                              | (refine HD_skip rfl rfl rfl ?_)
                              | (refine HD_case 48 rfl (fun hb26 => ?_) (fun hb26 => ?_) <;> (try simp only [decide_eq_true_eq, decide_eq_false_iff_not, beq_iff_eq, beq_eq_false_iff_ne, bne_iff_ne, bne_eq_false_iff_eq, Bool.not_eq_true', Bool.not_eq_false', ne_eq, Int.not_lt, Int.not_le, ge_iff_le, gt_iff_lt] at hb26) <;> first | (refine HD_r rfl rfl rfl (R_move rfl) ?_) | (refine HD_skip rfl rfl rfl ?_))
                            all_goals first
                              | (refine HD_r rfl rfl rfl (R_move rfl) ?_)
                              | (refine HD_skip rfl rfl rfl ?_)
                              | (refine HD_case 58 rfl (fun hb27 => ?_) (fun hb27 => ?_) <;> (try simp only [decide_eq_true_eq, decide_eq_false_iff_not, beq_iff_eq, beq_eq_false_iff_ne, bne_iff_ne, bne_eq_false_iff_eq, Bool.not_eq_true', Bool.not_eq_false', ne_eq, Int.not_lt, Int.not_le, ge_iff_le, gt_iff_lt] at hb27) <;> first | (refine HD_r rfl rfl rfl (R_move rfl) ?_) | (refine HD_skip rfl rfl rfl ?_))
                            all_goals first | (refine HD_callP rfl rfl rfl (enters_of Tryd.func27 (by kernel_rfl) rfl) (P_num_Var hN) ?_) | refine HD_skip rfl rfl rfl ?_
                            all_goals first
                              | (refine HD_r rfl rfl rfl (R_move rfl) ?_)
                              | (refine HD_skip rfl rfl rfl ?_)
                              | (refine HD_case 58 rfl (fun hb28 => ?_) (fun hb28 => ?_) <;> (try simp only [decide_eq_true_eq, decide_eq_false_iff_not, beq_iff_eq, beq_eq_false_iff_ne, bne_iff_ne, bne_eq_false_iff_eq, Bool.not_eq_true', Bool.not_eq_false', ne_eq, Int.not_lt, Int.not_le, ge_iff_le, gt_iff_lt] at hb28) <;> first | (refine HD_r rfl rfl rfl (R_move rfl) ?_) | (refine HD_skip rfl rfl rfl ?_))
                            all_goals first
                              | (refine HD_r rfl rfl rfl (R_move rfl) ?_)
                              | (refine HD_skip rfl rfl rfl ?_)
                              | (refine HD_case 58 rfl (fun hb29 => ?_) (fun hb29 => ?_) <;> (try simp only [decide_eq_true_eq, decide_eq_false_iff_not, beq_iff_eq, beq_eq_false_iff_ne, bne_iff_ne, bne_eq_false_iff_eq, Bool.not_eq_true', Bool.not_eq_false', ne_eq, Int.not_lt, Int.not_le, ge_iff_le, gt_iff_lt] at hb29) <;> first | (refine HD_r rfl rfl rfl (R_move rfl) ?_) | (refine HD_skip rfl rfl rfl ?_))
                            all_goals first
                              | (refine HD_r rfl rfl rfl (R_move rfl) ?_)
                              | (refine HD_skip rfl rfl rfl ?_)
                              | (refine HD_case 58 rfl (fun hb30 => ?_) (fun hb30 => ?_) <;> (try simp only [decide_eq_true_eq, decide_eq_false_iff_not, beq_iff_eq, beq_eq_false_iff_ne, bne_iff_ne, bne_eq_false_iff_eq, Bool.not_eq_true', Bool.not_eq_false', ne_eq, Int.not_lt, Int.not_le, ge_iff_le, gt_iff_lt] at hb30) <;> first | (refine HD_r rfl rfl rfl (R_move rfl) ?_) | (refine HD_skip rfl rfl rfl ?_))
                            all_goals first | (refine HD_r rfl rfl rfl (R_sliceBs (kl := some (.i64, p)) (kh := some (.i64, (tt : Int))) (m := a) (n := tt) rfl rfl rfl rfl hp rfl (by omega) (by omega) rfl) ?_) | refine HD_skip rfl rfl rfl ?_
                            all_goals first
                              | (refine HD_r rfl rfl rfl (R_strNe rfl rfl) ?_)
                              | (refine HD_skip rfl rfl rfl ?_)
                              | (refine HD_case 58 rfl (fun hb31 => ?_) (fun hb31 => ?_) <;> (try simp only [decide_eq_true_eq, decide_eq_false_iff_not, beq_iff_eq, beq_eq_false_iff_ne, bne_iff_ne, bne_eq_false_iff_eq, Bool.not_eq_true', Bool.not_eq_false', ne_eq, Int.not_lt, Int.not_le, ge_iff_le, gt_iff_lt] at hb31) <;> first | (refine HD_r rfl rfl rfl (R_strNe rfl rfl) ?_) | (refine HD_skip rfl rfl rfl ?_))
                            all_goals first
                              | (refine HD_as (show _ = Value.bool true from bool_eq' (by first | exact nsF hv)) ?_)
                              | (refine HD_as (show _ = Value.bool false from bool_eq' (by first | exact nsF hv)) ?_)
                              | skip
                            all_goals first
                              | (refine HD_r rfl rfl rfl (R_pickT rfl rfl) ?_)
                              | (refine HD_r rfl rfl rfl (R_pickF rfl rfl) ?_)
                              | (refine HD_skip rfl rfl rfl ?_)
                              | (refine HD_case 48 rfl (fun hb32 => ?_) (fun hb32 => ?_) <;> (try simp only [decide_eq_true_eq, decide_eq_false_iff_not, beq_iff_eq, beq_eq_false_iff_ne, bne_iff_ne, bne_eq_false_iff_eq, Bool.not_eq_true', Bool.not_eq_false', ne_eq, Int.not_lt, Int.not_le, ge_iff_le, gt_iff_lt] at hb32) <;> first | (refine HD_r rfl rfl rfl (R_pickT rfl rfl) ?_) | (refine HD_r rfl rfl rfl (R_pickF rfl rfl) ?_) | (refine HD_skip rfl rfl rfl ?_))
                            all_goals first
                              | (refine HD_r rfl rfl rfl (R_pickT rfl rfl) ?_)
                              | (refine HD_r rfl rfl rfl (R_pickF rfl rfl) ?_)
                            all_goals refine HD_r rfl rfl rfl (R_move rfl) ?_
                            all_goals first
                              | (refine HD_r rfl rfl rfl (R_move rfl) ?_)
                              | (refine HD_skip rfl rfl rfl ?_)
                              | (refine HD_case 68 rfl (fun hb33 => ?_) (fun hb33 => ?_) <;> (try simp only [decide_eq_true_eq, decide_eq_false_iff_not, beq_iff_eq, beq_eq_false_iff_ne, bne_iff_ne, bne_eq_false_iff_eq, Bool.not_eq_true', Bool.not_eq_false', ne_eq, Int.not_lt, Int.not_le, ge_iff_le, gt_iff_lt] at hb33) <;> first | (refine HD_r rfl rfl rfl (R_move rfl) ?_) | (refine HD_skip rfl rfl rfl ?_))
                            all_goals first
                              | (refine HD_r rfl rfl rfl (R_pure rfl rfl rfl) ?_)
                              | (refine HD_skip rfl rfl rfl ?_)
                              | (refine HD_case 68 rfl (fun hb34 => ?_) (fun hb34 => ?_) <;> (try simp only [decide_eq_true_eq, decide_eq_false_iff_not, beq_iff_eq, beq_eq_false_iff_ne, bne_iff_ne, bne_eq_false_iff_eq, Bool.not_eq_true', Bool.not_eq_false', ne_eq, Int.not_lt, Int.not_le, ge_iff_le, gt_iff_lt] at hb34) <;> first | (refine HD_r rfl rfl rfl (R_pure rfl rfl rfl) ?_) | (refine HD_skip rfl rfl rfl ?_))
                            all_goals first
                              | (refine HD_as (show _ = Value.bool true from bool_eq' (by first | exact ineF (by omega) | exact ineT he)) ?_)
                              | (refine HD_as (show _ = Value.bool false from bool_eq' (by first | exact ineF (by omega) | exact ineT he)) ?_)
                              | skip
                            all_goals first
                              | (refine HD_r rfl rfl rfl (R_move rfl) ?_)
                              | (refine HD_skip rfl rfl rfl ?_)
                              | (refine HD_case 68 rfl (fun hb35 => ?_) (fun hb35 => ?_) <;> (try simp only [decide_eq_true_eq, decide_eq_false_iff_not, beq_iff_eq, beq_eq_false_iff_ne, bne_iff_ne, bne_eq_false_iff_eq, Bool.not_eq_true', Bool.not_eq_false', ne_eq, Int.not_lt, Int.not_le, ge_iff_le, gt_iff_lt] at hb35) <;> first | (refine HD_r rfl rfl rfl (R_move rfl) ?_) | (refine HD_skip rfl rfl rfl ?_))
                            all_goals first
                              | (refine HD_r rfl rfl rfl (R_move rfl) ?_)
                              | (refine HD_skip rfl rfl rfl ?_)
                              | (refine HD_case 71 rfl (fun hb36 => ?_) (fun hb36 => ?_) <;> (try simp only [decide_eq_true_eq, decide_eq_false_iff_not, beq_iff_eq, beq_eq_false_iff_ne, bne_iff_ne, bne_eq_false_iff_eq, Bool.not_eq_true', Bool.not_eq_false', ne_eq, Int.not_lt, Int.not_le, ge_iff_le, gt_iff_lt] at hb36) <;> first | (refine HD_r rfl rfl rfl (R_move rfl) ?_) | (refine HD_skip rfl rfl rfl ?_))
                            all_goals first
                              | (refine HD_r rfl rfl rfl (R_pure rfl rfl rfl) ?_)
                              | (refine HD_skip rfl rfl rfl ?_)
                              | (refine HD_case 71 rfl (fun hb37 => ?_) (fun hb37 => ?_) <;> (try simp only [decide_eq_true_eq, decide_eq_false_iff_not, beq_iff_eq, beq_eq_false_iff_ne, bne_iff_ne, bne_eq_false_iff_eq, Bool.not_eq_true', Bool.not_eq_false', ne_eq, Int.not_lt, Int.not_le, ge_iff_le, gt_iff_lt] at hb37) <;> first | (refine HD_r rfl rfl rfl (R_pure rfl rfl rfl) ?_) | (refine HD_skip rfl rfl rfl ?_))
                            all_goals first
                              | (refine HD_as (show _ = Value.bool true from bool_eq' (by first | exact ineF (by omega))) ?_)
                              | (refine HD_as (show _ = Value.bool false from bool_eq' (by first | exact ineF (by omega))) ?_)
                              | skip
                            all_goals first
                              | (refine HD_r rfl rfl rfl (R_move rfl) ?_)
                              | (refine HD_skip rfl rfl rfl ?_)
                              | (refine HD_case 71 rfl (fun hb38 => ?_) (fun hb38 => ?_) <;> (try simp only [decide_eq_true_eq, decide_eq_false_iff_not, beq_iff_eq, beq_eq_false_iff_ne, bne_iff_ne, bne_eq_false_iff_eq, Bool.not_eq_true', Bool.not_eq_false', ne_eq, Int.not_lt, Int.not_le, ge_iff_le, gt_iff_lt] at hb38) <;> first | (refine HD_r rfl rfl rfl (R_move rfl) ?_) | (refine HD_skip rfl rfl rfl ?_))
                            all_goals first
                              | (refine HD_r rfl rfl rfl (R_move rfl) ?_)
                              | (refine HD_skip rfl rfl rfl ?_)
                              | (refine HD_case 74 rfl (fun hb39 => ?_) (fun hb39 => ?_) <;> (try simp only [decide_eq_true_eq, decide_eq_false_iff_not, beq_iff_eq, beq_eq_false_iff_ne, bne_iff_ne, bne_eq_false_iff_eq, Bool.not_eq_true', Bool.not_eq_false', ne_eq, Int.not_lt, Int.not_le, ge_iff_le, gt_iff_lt] at hb39) <;> first | (refine HD_r rfl rfl rfl (R_move rfl) ?_) | (refine HD_skip rfl rfl rfl ?_))
                            all_goals first
                              | (refine HD_r rfl rfl rfl (R_pure rfl rfl rfl) ?_)
                              | (refine HD_skip rfl rfl rfl ?_)
                              | (refine HD_case 74 rfl (fun hb40 => ?_) (fun hb40 => ?_) <;> (try simp only [decide_eq_true_eq, decide_eq_false_iff_not, beq_iff_eq, beq_eq_false_iff_ne, bne_iff_ne, bne_eq_false_iff_eq, Bool.not_eq_true', Bool.not_eq_false', ne_eq, Int.not_lt, Int.not_le, ge_iff_le, gt_iff_lt] at hb40) <;> first | (refine HD_r rfl rfl rfl (R_pure rfl rfl rfl) ?_) | (refine HD_skip rfl rfl rfl ?_))
                            all_goals first
                              | (refine HD_as (show _ = Value.bool true from bool_eq' (by first | exact ineF (by omega))) ?_)
                              | (refine HD_as (show _ = Value.bool false from bool_eq' (by first | exact ineF (by omega))) ?_)
                              | skip
                            all_goals first
                              | (refine HD_r rfl rfl rfl (R_pickT rfl rfl) ?_)
                              | (refine HD_r rfl rfl rfl (R_pickF rfl rfl) ?_)
                              | (refine HD_skip rfl rfl rfl ?_)
                              | (refine HD_case 71 rfl (fun hb41 => ?_) (fun hb41 => ?_) <;> (try simp only [decide_eq_true_eq, decide_eq_false_iff_not, beq_iff_eq, beq_eq_false_iff_ne, bne_iff_ne, bne_eq_false_iff_eq, Bool.not_eq_true', Bool.not_eq_false', ne_eq, Int.not_lt, Int.not_le, ge_iff_le, gt_iff_lt] at hb41) <;> first | (refine HD_r rfl rfl rfl (R_pickT rfl rfl) ?_) | (refine HD_r rfl rfl rfl (R_pickF rfl rfl) ?_) | (refine HD_skip rfl rfl rfl ?_))
                            all_goals first
                              | (refine HD_r rfl rfl rfl (R_pickT rfl rfl) ?_)
                              | (refine HD_r rfl rfl rfl (R_pickF rfl rfl) ?_)
                              | (refine HD_skip rfl rfl rfl ?_)
                              | (refine HD_case 68 rfl (fun hb42 => ?_) (fun hb42 => ?_) <;> (try simp only [decide_eq_true_eq, decide_eq_false_iff_not, beq_iff_eq, beq_eq_false_iff_ne, bne_iff_ne, bne_eq_false_iff_eq, Bool.not_eq_true', Bool.not_eq_false', ne_eq, Int.not_lt, Int.not_le, ge_iff_le, gt_iff_lt] at hb42) <;> first | (refine HD_r rfl rfl rfl (R_pickT rfl rfl) ?_) | (refine HD_r rfl rfl rfl (R_pickF rfl rfl) ?_) | (refine HD_skip rfl rfl rfl ?_))
                            all_goals first
                              | (refine HD_r rfl rfl rfl (R_pickT rfl rfl) ?_)
                              | (refine HD_r rfl rfl rfl (R_pickF rfl rfl) ?_)
                            all_goals refine HD_end ?_
                            all_goals refine HL_nil ?_
                            all_goals (
                              refine HQ_then ?_
                              refine hK16 _ _ _ _ ?_; clear hK16 K16
                              refine HC_cond rfl (fun h43 => ?_) (fun h43 => ?_)
                              · try exact Bool.noConfusion h43
                                all_goals try simp only [decide_eq_true_eq, decide_eq_false_iff_not, beq_iff_eq, beq_eq_false_iff_ne, bne_iff_ne, bne_eq_false_iff_eq, Bool.not_eq_true', Bool.not_eq_false', ne_eq, Int.not_lt, Int.not_le, ge_iff_le, gt_iff_lt] at h43
                                all_goals (
                                  refine HC_seq fun K44 hK44 => ?_
                                  refine HC_region ?_
                                  all_goals refine HL_r rfl rfl rfl rfl (R_assign rfl) ?_
                                  all_goals refine HL_nil ?_
                                  all_goals (
                                    refine HQ_then ?_
                                    refine hK44 _ _ _ _ ?_; clear hK44 K44
                                    refine HC_ret ?_
                                    refine HQ_thenR ?_; clear hK15 K15
                                    refine HQ_post rfl rfl (.cons (res_tmp rfl) .nil) (fun w1 hs1 => ?_)
                                    exact ⟨rfl, hs1.keep⟩
                                    skip)
                                  skip)
                              · try exact Bool.noConfusion h43
                                all_goals try simp only [decide_eq_true_eq, decide_eq_false_iff_not, beq_iff_eq, beq_eq_false_iff_ne, bne_iff_ne, bne_eq_false_iff_eq, Bool.not_eq_true', Bool.not_eq_false', ne_eq, Int.not_lt, Int.not_le, ge_iff_le, gt_iff_lt] at h43
                                all_goals (
                                  refine HC_skip ?_
                                  refine HQ_then ?_
                                  refine hK15 _ _ _ _ ?_; clear hK15 K15
                                  refine HC_seq fun K45 hK45 => ?_
                                  refine HC_region ?_
                                  all_goals refine HL_r rfl rfl rfl rfl (R_move rfl) ?_
                                  all_goals refine HL_r rfl rfl rfl rfl (R_move rfl) ?_
                                  all_goals first
                                    | (refine HL_r rfl rfl rfl rfl (R_move rfl) ?_)
                                    | (refine HL_skip rfl rfl rfl ?_)
                                    | (refine HL_case 81 rfl (fun hb46 => ?_) (fun hb46 => ?_) <;> (try simp only [decide_eq_true_eq, decide_eq_false_iff_not, beq_iff_eq, beq_eq_false_iff_ne, bne_iff_ne, bne_eq_false_iff_eq, Bool.not_eq_true', Bool.not_eq_false', ne_eq, Int.not_lt, Int.not_le, ge_iff_le, gt_iff_lt] at hb46) <;> first | (refine HL_r rfl rfl rfl rfl (R_move rfl) ?_) | (refine HL_skip rfl rfl rfl ?_))
                                  all_goals first
                                    | (refine HL_r rfl rfl rfl rfl (R_pure rfl rfl rfl) ?_)
                                    | (refine HL_skip rfl rfl rfl ?_)
                                    | (refine HL_case 81 rfl (fun hb47 => ?_) (fun hb47 => ?_) <;> (try simp only [decide_eq_true_eq, decide_eq_false_iff_not, beq_iff_eq, beq_eq_false_iff_ne, bne_iff_ne, bne_eq_false_iff_eq, Bool.not_eq_true', Bool.not_eq_false', ne_eq, Int.not_lt, Int.not_le, ge_iff_le, gt_iff_lt] at hb47) <;> first | (refine HL_r rfl rfl rfl rfl (R_pure rfl rfl rfl) ?_) | (refine HL_skip rfl rfl rfl ?_))
                                  all_goals first
                                    | (refine HL_r rfl rfl rfl rfl (R_move rfl) ?_)
                                    | (refine HL_skip rfl rfl rfl ?_)
                                    | (refine HL_case 81 rfl (fun hb48 => ?_) (fun hb48 => ?_) <;> (try simp only [decide_eq_true_eq, decide_eq_false_iff_not, beq_iff_eq, beq_eq_false_iff_ne, bne_iff_ne, bne_eq_false_iff_eq, Bool.not_eq_true', Bool.not_eq_false', ne_eq, Int.not_lt, Int.not_le, ge_iff_le, gt_iff_lt] at hb48) <;> first | (refine HL_r rfl rfl rfl rfl (R_move rfl) ?_) | (refine HL_skip rfl rfl rfl ?_))
                                  all_goals first
                                    | (refine HL_r rfl rfl rfl rfl (R_move rfl) ?_)
                                    | (refine HL_skip rfl rfl rfl ?_)
                                    | (refine HL_case 84 rfl (fun hb49 => ?_) (fun hb49 => ?_) <;> (try simp only [decide_eq_true_eq, decide_eq_false_iff_not, beq_iff_eq, beq_eq_false_iff_ne, bne_iff_ne, bne_eq_false_iff_eq, Bool.not_eq_true', Bool.not_eq_false', ne_eq, Int.not_lt, Int.not_le, ge_iff_le, gt_iff_lt] at hb49) <;> first | (refine HL_r rfl rfl rfl rfl (R_move rfl) ?_) | (refine HL_skip rfl rfl rfl ?_))
                                  all_goals first | (refine HL_callP rfl rfl rfl (enters_of Tryd.func26 (by kernel_rfl) rfl) (P_num_Be (unbe_lt s)) ?_) | refine HL_skip rfl rfl rfl ?_ | (refine HL_case 84 rfl (fun hb0 => ?_) (fun hb0 => ?_) <;> (try simp only [bne_iff_ne, bne_eq_false_iff_eq, ne_eq] at hb0) <;> first | (refine HL_callP rfl rfl rfl (enters_of Tryd.func26 (by kernel_rfl) rfl) (P_num_Be (unbe_lt s)) ?_) | refine HL_skip rfl rfl rfl ?_)
                                  all_goals first
                                    | (refine HL_r rfl rfl rfl rfl (R_move rfl) ?_)
                                    | (refine HL_skip rfl rfl rfl ?_)
                                    | (refine HL_case 84 rfl (fun hb50 => ?_) (fun hb50 => ?_) <;> (try simp only [decide_eq_true_eq, decide_eq_false_iff_not, beq_iff_eq, beq_eq_false_iff_ne, bne_iff_ne, bne_eq_false_iff_eq, Bool.not_eq_true', Bool.not_eq_false', ne_eq, Int.not_lt, Int.not_le, ge_iff_le, gt_iff_lt] at hb50) <;> first | (refine HL_r rfl rfl rfl rfl (R_move rfl) ?_) | (refine HL_skip rfl rfl rfl ?_))
                                  all_goals first
                                    | (refine HL_r rfl rfl rfl rfl (R_strEq rfl rfl) ?_)
                                    | (refine HL_skip rfl rfl rfl ?_)
                                    | (refine HL_case 84 rfl (fun hb51 => ?_) (fun hb51 => ?_) <;> (try simp only [decide_eq_true_eq, decide_eq_false_iff_not, beq_iff_eq, beq_eq_false_iff_ne, bne_iff_ne, bne_eq_false_iff_eq, Bool.not_eq_true', Bool.not_eq_false', ne_eq, Int.not_lt, Int.not_le, ge_iff_le, gt_iff_lt] at hb51) <;> first | (refine HL_r rfl rfl rfl rfl (R_strEq rfl rfl) ?_) | (refine HL_skip rfl rfl rfl ?_))
                                  all_goals first
                                    | (refine HL_as (show _ = Value.bool true from bool_eq' (decide_eq_true (unbe_ok (by with_reducible assumption)).2)) ?_)
                                    | (refine HL_as (show _ = Value.bool false from bool_eq' (decide_eq_true (unbe_ok (by with_reducible assumption)).2)) ?_)
                                    | skip
                                  all_goals first
                                    | (refine HL_r rfl rfl rfl rfl (R_pickT rfl rfl) ?_)
                                    | (refine HL_r rfl rfl rfl rfl (R_pickF rfl rfl) ?_)
                                    | (refine HL_skip rfl rfl rfl ?_)
                                    | (refine HL_case 81 rfl (fun hb52 => ?_) (fun hb52 => ?_) <;> (try simp only [decide_eq_true_eq, decide_eq_false_iff_not, beq_iff_eq, beq_eq_false_iff_ne, bne_iff_ne, bne_eq_false_iff_eq, Bool.not_eq_true', Bool.not_eq_false', ne_eq, Int.not_lt, Int.not_le, ge_iff_le, gt_iff_lt] at hb52) <;> first | (refine HL_r rfl rfl rfl rfl (R_pickT rfl rfl) ?_) | (refine HL_r rfl rfl rfl rfl (R_pickF rfl rfl) ?_) | (refine HL_skip rfl rfl rfl ?_))
                                  all_goals first
                                    | (refine HL_r rfl rfl rfl rfl (R_pickT rfl rfl) ?_)
                                    | (refine HL_r rfl rfl rfl rfl (R_pickF rfl rfl) ?_)
                                  all_goals refine HL_r rfl rfl rfl rfl (R_move rfl) ?_
                                  all_goals first
                                    | (refine HL_r rfl rfl rfl rfl (R_move rfl) ?_)
                                    | (refine HL_skip rfl rfl rfl ?_)
                                    | (refine HL_case 91 rfl (fun hb53 => ?_) (fun hb53 => ?_) <;> (try simp only [decide_eq_true_eq, decide_eq_false_iff_not, beq_iff_eq, beq_eq_false_iff_ne, bne_iff_ne, bne_eq_false_iff_eq, Bool.not_eq_true', Bool.not_eq_false', ne_eq, Int.not_lt, Int.not_le, ge_iff_le, gt_iff_lt] at hb53) <;> first | (refine HL_r rfl rfl rfl rfl (R_move rfl) ?_) | (refine HL_skip rfl rfl rfl ?_))
                                  all_goals first
                                    | (refine HL_r rfl rfl rfl rfl (R_pure rfl rfl rfl) ?_)
                                    | (refine HL_skip rfl rfl rfl ?_)
                                    | (refine HL_case 91 rfl (fun hb54 => ?_) (fun hb54 => ?_) <;> (try simp only [decide_eq_true_eq, decide_eq_false_iff_not, beq_iff_eq, beq_eq_false_iff_ne, bne_iff_ne, bne_eq_false_iff_eq, Bool.not_eq_true', Bool.not_eq_false', ne_eq, Int.not_lt, Int.not_le, ge_iff_le, gt_iff_lt] at hb54) <;> first | (refine HL_r rfl rfl rfl rfl (R_pure rfl rfl rfl) ?_) | (refine HL_skip rfl rfl rfl ?_))
                                  all_goals first
                                    | (refine HL_r rfl rfl rfl rfl (R_move rfl) ?_)
                                    | (refine HL_skip rfl rfl rfl ?_)
                                    | (refine HL_case 91 rfl (fun hb55 => ?_) (fun hb55 => ?_) <;> (try simp only [decide_eq_true_eq, decide_eq_false_iff_not, beq_iff_eq, beq_eq_false_iff_ne, bne_iff_ne, bne_eq_false_iff_eq, Bool.not_eq_true', Bool.not_eq_false', ne_eq, Int.not_lt, Int.not_le, ge_iff_le, gt_iff_lt] at hb55) <;> first | (refine HL_r rfl rfl rfl rfl (R_move rfl) ?_) | (refine HL_skip rfl rfl rfl ?_))
                                  all_goals first
                                    | (refine HL_r rfl rfl rfl rfl (R_move rfl) ?_)
                                    | (refine HL_skip rfl rfl rfl ?_)
                                    | (refine HL_case 94 rfl (fun hb56 => ?_) (fun hb56 => ?_) <;> (try simp only [decide_eq_true_eq, decide_eq_false_iff_not, beq_iff_eq, beq_eq_false_iff_ne, bne_iff_ne, bne_eq_false_iff_eq, Bool.not_eq_true', Bool.not_eq_false', ne_eq, Int.not_lt, Int.not_le, ge_iff_le, gt_iff_lt] at hb56) <;> first | (refine HL_r rfl rfl rfl rfl (R_move rfl) ?_) | (refine HL_skip rfl rfl rfl ?_))
                                  all_goals first
                                    | (refine HL_r rfl rfl rfl rfl (R_pure rfl rfl rfl) ?_)
                                    | (refine HL_skip rfl rfl rfl ?_)
                                    | (refine HL_case 94 rfl (fun hb57 => ?_) (fun hb57 => ?_) <;> (try simp only [decide_eq_true_eq, decide_eq_false_iff_not, beq_iff_eq, beq_eq_false_iff_ne, bne_iff_ne, bne_eq_false_iff_eq, Bool.not_eq_true', Bool.not_eq_false', ne_eq, Int.not_lt, Int.not_le, ge_iff_le, gt_iff_lt] at hb57) <;> first | (refine HL_r rfl rfl rfl rfl (R_pure rfl rfl rfl) ?_) | (refine HL_skip rfl rfl rfl ?_))
                                  all_goals first
                                    | (refine HL_as (show _ = Value.bool true from bool_eq' (ieqT (congrArg Prod.snd (unle_ok (by with_reducible assumption))))) ?_)
                                    | (refine HL_as (show _ = Value.bool false from bool_eq' (ieqT (congrArg Prod.snd (unle_ok (by with_reducible assumption))))) ?_)
                                    | skip
                                  all_goals first
                                    | (refine HL_r rfl rfl rfl rfl (R_move rfl) ?_)
                                    | (refine HL_skip rfl rfl rfl ?_)
                                    | (refine HL_case 94 rfl (fun hb58 => ?_) (fun hb58 => ?_) <;> (try simp only [decide_eq_true_eq, decide_eq_false_iff_not, beq_iff_eq, beq_eq_false_iff_ne, bne_iff_ne, bne_eq_false_iff_eq, Bool.not_eq_true', Bool.not_eq_false', ne_eq, Int.not_lt, Int.not_le, ge_iff_le, gt_iff_lt] at hb58) <;> first | (refine HL_r rfl rfl rfl rfl (R_move rfl) ?_) | (refine HL_skip rfl rfl rfl ?_))
                                  all_goals first
                                    | (refine HL_r rfl rfl rfl rfl (R_move rfl) ?_)
                                    | (refine HL_skip rfl rfl rfl ?_)
                                    | (refine HL_case 97 rfl (fun hb59 => ?_) (fun hb59 => ?_) <;> (try simp only [decide_eq_true_eq, decide_eq_false_iff_not, beq_iff_eq, beq_eq_false_iff_ne, bne_iff_ne, bne_eq_false_iff_eq, Bool.not_eq_true', Bool.not_eq_false', ne_eq, Int.not_lt, Int.not_le, ge_iff_le, gt_iff_lt] at hb59) <;> first | (refine HL_r rfl rfl rfl rfl (R_move rfl) ?_) | (refine HL_skip rfl rfl rfl ?_))
                                  all_goals first
                                    | (refine HL_r rfl rfl rfl rfl (R_move rfl) ?_)
                                    | (refine HL_skip rfl rfl rfl ?_)
                                    | (refine HL_case 97 rfl (fun hb60 => ?_) (fun hb60 => ?_) <;> (try simp only [decide_eq_true_eq, decide_eq_false_iff_not, beq_iff_eq, beq_eq_false_iff_ne, bne_iff_ne, bne_eq_false_iff_eq, Bool.not_eq_true', Bool.not_eq_false', ne_eq, Int.not_lt, Int.not_le, ge_iff_le, gt_iff_lt] at hb60) <;> first | (refine HL_r rfl rfl rfl rfl (R_move rfl) ?_) | (refine HL_skip rfl rfl rfl ?_))
                                  all_goals first
                                    | (refine HL_r rfl rfl rfl rfl (R_strEq rfl rfl) ?_)
                                    | (refine HL_skip rfl rfl rfl ?_)
                                    | (refine HL_case 97 rfl (fun hb61 => ?_) (fun hb61 => ?_) <;> (try simp only [decide_eq_true_eq, decide_eq_false_iff_not, beq_iff_eq, beq_eq_false_iff_ne, bne_iff_ne, bne_eq_false_iff_eq, Bool.not_eq_true', Bool.not_eq_false', ne_eq, Int.not_lt, Int.not_le, ge_iff_le, gt_iff_lt] at hb61) <;> first | (refine HL_r rfl rfl rfl rfl (R_strEq rfl rfl) ?_) | (refine HL_skip rfl rfl rfl ?_))
                                  all_goals first
                                    | (refine HL_as (show _ = Value.bool true from bool_eq' (decide_eq_true (congrArg Prod.fst (unle_ok (by with_reducible assumption))))) ?_)
                                    | (refine HL_as (show _ = Value.bool false from bool_eq' (decide_eq_true (congrArg Prod.fst (unle_ok (by with_reducible assumption))))) ?_)
                                    | skip
                                  all_goals first
                                    | (refine HL_r rfl rfl rfl rfl (R_pickT rfl rfl) ?_)
                                    | (refine HL_r rfl rfl rfl rfl (R_pickF rfl rfl) ?_)
                                    | (refine HL_skip rfl rfl rfl ?_)
                                    | (refine HL_case 94 rfl (fun hb62 => ?_) (fun hb62 => ?_) <;> (try simp only [decide_eq_true_eq, decide_eq_false_iff_not, beq_iff_eq, beq_eq_false_iff_ne, bne_iff_ne, bne_eq_false_iff_eq, Bool.not_eq_true', Bool.not_eq_false', ne_eq, Int.not_lt, Int.not_le, ge_iff_le, gt_iff_lt] at hb62) <;> first | (refine HL_r rfl rfl rfl rfl (R_pickT rfl rfl) ?_) | (refine HL_r rfl rfl rfl rfl (R_pickF rfl rfl) ?_) | (refine HL_skip rfl rfl rfl ?_))
                                  all_goals first
                                    | (refine HL_r rfl rfl rfl rfl (R_pickT rfl rfl) ?_)
                                    | (refine HL_r rfl rfl rfl rfl (R_pickF rfl rfl) ?_)
                                    | (refine HL_skip rfl rfl rfl ?_)
                                    | (refine HL_case 91 rfl (fun hb63 => ?_) (fun hb63 => ?_) <;> (try simp only [decide_eq_true_eq, decide_eq_false_iff_not, beq_iff_eq, beq_eq_false_iff_ne, bne_iff_ne, bne_eq_false_iff_eq, Bool.not_eq_true', Bool.not_eq_false', ne_eq, Int.not_lt, Int.not_le, ge_iff_le, gt_iff_lt] at hb63) <;> first | (refine HL_r rfl rfl rfl rfl (R_pickT rfl rfl) ?_) | (refine HL_r rfl rfl rfl rfl (R_pickF rfl rfl) ?_) | (refine HL_skip rfl rfl rfl ?_))
                                  all_goals first
                                    | (refine HL_r rfl rfl rfl rfl (R_pickT rfl rfl) ?_)
                                    | (refine HL_r rfl rfl rfl rfl (R_pickF rfl rfl) ?_)
                                  all_goals refine HL_r rfl rfl rfl rfl (R_assign rfl) ?_
                                  all_goals refine HL_nil ?_
                                  all_goals (
                                    refine HQ_then ?_
                                    refine hK45 _ _ _ _ ?_; clear hK45 K45
                                    refine HC_ret ?_
                                    refine HQ_post rfl rfl (.cons (res_tmp rfl) .nil) (fun w1 hs1 => ?_)
                                    exact ⟨rfl, hs1.keep⟩
                                    skip)
                                  skip)
                              skip)
                            skip)
                          skip)
                        skip)
                      skip)
                    skip)
                skip)
              skip)
          skip)
        skip)
      skip)
    skip)
set_option maxRecDepth 10000 in
theorem P_NumApart {m n : Nat} (hm : m < 18446744073709551616) (hn : n < 18446744073709551616) : Pure Tryd.prog 11 [uV m, uV n].toArray (.bool true) := by
  refine pure_of_HC Tryd.func11 rfl rfl fun w => ?_
  have hvm : 1 ≤ (varL m).length ∧ (varL m).length ≤ 10 := varN_len 9 m
  have hvn : 1 ≤ (varL n).length ∧ (varL n).length ≤ 10 := varN_len 9 n
  have hb1 := beN_le8 hm
  have hb2 := beN_le8 hn
  have hpre := var_pre_iff hm hn
  have hk : (decide ((m : Int) < n) = true ∧ ((beN m).length < (beN n).length ∨ ((beN m).length = (beN n).length ∧ Op.bytesLess (beN m) (beN n) = true))) ∨ (decide ((m : Int) < n) = false ∧ ((beN n).length < (beN m).length ∨ ((beN m).length = (beN n).length ∧ Op.bytesLess (beN m) (beN n) = false))) := by
    rcases Nat.lt_trichotomy (beN m).length (beN n).length with h | h | h
    · have := be_len_lt hm hn h; exact .inl ⟨decide_eq_true (by omega), .inl h⟩
    · by_cases hmn : m < n
      · exact .inl ⟨decide_eq_true (by omega), .inr ⟨h, by rw [be_less hm hn h]; exact decide_eq_true hmn⟩⟩
      · exact .inr ⟨decide_eq_false (by omega), .inr ⟨h, by rw [be_less hm hn h]; exact decide_eq_false hmn⟩⟩
    · have := be_len_lt hn hm h; exact .inr ⟨decide_eq_false (by omega), .inl h⟩
  have hmq : decide ((m : Int) < n) = decide ((m : Int) < n) := rfl
  rcases hk with ⟨hd, h | ⟨h, hle⟩⟩ | ⟨hd, h | ⟨h, hle⟩⟩
  all_goals (
    refine HC_seq fun K1 hK1 => ?_
    refine HC_region ?_
    all_goals refine HL_r rfl rfl rfl rfl (R_assign rfl) ?_
    all_goals refine HL_nil ?_
    all_goals (
      refine HQ_then ?_
      refine hK1 _ _ _ _ ?_; clear hK1 K1
      refine HC_seq fun K2 hK2 => ?_
      refine HC_region ?_
      all_goals refine HL_callP rfl rfl rfl (enters_of Tryd.func21 (by kernel_rfl) rfl) P_works02 ?_
      all_goals refine HL_r rfl rfl rfl rfl (R_assign rfl) ?_
      all_goals refine HL_nil ?_
      all_goals (
        refine HQ_then ?_
        refine hK2 _ _ _ _ ?_; clear hK2 K2
        refine HC_seq fun K3 hK3 => ?_
        refine HC_seq fun K4 hK4 => ?_
        refine HC_region ?_
        all_goals refine HL_r rfl rfl rfl rfl (R_move rfl) ?_
        all_goals refine HL_r rfl rfl rfl rfl (R_pure rfl rfl rfl) ?_
        all_goals refine HL_nil ?_
        all_goals (
          refine HQ_then ?_
          refine hK4 _ _ _ _ ?_; clear hK4 K4
          refine HC_cond rfl (fun h5 => ?_) (fun h5 => ?_)
          · try exact Bool.noConfusion h5
            all_goals try simp only [decide_eq_true_eq, decide_eq_false_iff_not, beq_iff_eq, beq_eq_false_iff_ne, bne_iff_ne, bne_eq_false_iff_eq, Bool.not_eq_true', Bool.not_eq_false', ne_eq, Int.not_lt, Int.not_le, ge_iff_le, gt_iff_lt] at h5
            all_goals (
              refine HC_seq fun K6 hK6 => ?_
              refine HC_region ?_
              all_goals refine HL_r rfl rfl rfl rfl (R_assign rfl) ?_
              all_goals refine HL_nil ?_
              all_goals (
                refine HQ_then ?_
                refine hK6 _ _ _ _ ?_; clear hK6 K6
                refine HC_ret ?_
                refine HQ_thenR ?_; clear hK3 K3
                refine HQ_post rfl rfl (.cons (res_tmp rfl) .nil) (fun w1 hs1 => ?_)
                exact ⟨rfl, hs1.keep⟩
                skip)
              skip)
          · try exact Bool.noConfusion h5
            all_goals try simp only [decide_eq_true_eq, decide_eq_false_iff_not, beq_iff_eq, beq_eq_false_iff_ne, bne_iff_ne, bne_eq_false_iff_eq, Bool.not_eq_true', Bool.not_eq_false', ne_eq, Int.not_lt, Int.not_le, ge_iff_le, gt_iff_lt] at h5
            all_goals (
              refine HC_skip ?_
              refine HQ_then ?_
              refine hK3 _ _ _ _ ?_; clear hK3 K3
              refine HC_seq fun K7 hK7 => ?_
              refine HC_region ?_
              all_goals refine HL_r rfl rfl rfl rfl (R_move rfl) ?_
              all_goals refine HL_callP rfl rfl rfl (enters_of Tryd.func27 (by kernel_rfl) rfl) (P_num_Var hm) ?_
              all_goals refine HL_r rfl rfl rfl rfl (R_assign rfl) ?_
              all_goals refine HL_nil ?_
              all_goals (
                refine HQ_then ?_
                refine hK7 _ _ _ _ ?_; clear hK7 K7
                refine HC_seq fun K8 hK8 => ?_
                refine HC_region ?_
                all_goals refine HL_r rfl rfl rfl rfl (R_move rfl) ?_
                all_goals refine HL_callP rfl rfl rfl (enters_of Tryd.func27 (by kernel_rfl) rfl) (P_num_Var hn) ?_
                all_goals refine HL_r rfl rfl rfl rfl (R_assign rfl) ?_
                all_goals refine HL_nil ?_
                all_goals (
                  refine HQ_then ?_
                  refine hK8 _ _ _ _ ?_; clear hK8 K8
                  refine HC_seq fun K9 hK9 => ?_
                  refine HC_seq fun K10 hK10 => ?_
                  refine HC_region ?_
                  all_goals refine HL_r rfl rfl rfl rfl (R_move rfl) ?_
                  all_goals first
                    | (refine HL_r rfl rfl rfl rfl (R_lenBs rfl rfl) ?_)
                    | (refine HL_r rfl rfl rfl rfl (R_lenSl rfl rfl) ?_)
                    | (refine HL_r rfl rfl rfl rfl (R_lenStr rfl rfl rfl) ?_)
                    | (refine HL_r rfl rfl rfl rfl (R_pure rfl rfl rfl) ?_)
                  all_goals refine HL_r rfl rfl rfl rfl (R_pure rfl rfl rfl) ?_
                  all_goals first
                    | (refine HL_as (show _ = Value.bool true from bool_eq' (decide_eq_false (by omega))) ?_)
                    | (refine HL_as (show _ = Value.bool false from bool_eq' (decide_eq_false (by omega))) ?_)
                    | skip
                  all_goals refine HL_r rfl rfl rfl rfl (R_move rfl) ?_
                  all_goals first
                    | (refine HL_r rfl rfl rfl rfl (R_move rfl) ?_)
                    | (refine HL_skip rfl rfl rfl ?_)
                    | (refine HL_case 20 rfl (fun hb11 => ?_) (fun hb11 => ?_) <;> (try simp only [decide_eq_true_eq, decide_eq_false_iff_not, beq_iff_eq, beq_eq_false_iff_ne, bne_iff_ne, bne_eq_false_iff_eq, Bool.not_eq_true', Bool.not_eq_false', ne_eq, Int.not_lt, Int.not_le, ge_iff_le, gt_iff_lt] at hb11) <;> first | (refine HL_r rfl rfl rfl rfl (R_move rfl) ?_) | (refine HL_skip rfl rfl rfl ?_))
                  all_goals first
                    | (refine HL_r rfl rfl rfl rfl (R_lenBs rfl rfl) ?_)
                    | (refine HL_r rfl rfl rfl rfl (R_lenSl rfl rfl) ?_)
                    | (refine HL_r rfl rfl rfl rfl (R_lenStr rfl rfl rfl) ?_)
                    | (refine HL_r rfl rfl rfl rfl (R_pure rfl rfl rfl) ?_)
                    | (refine HL_skip rfl rfl rfl ?_)
                    | (refine HL_case 20 rfl (fun hb12 => ?_) (fun hb12 => ?_) <;> (try simp only [decide_eq_true_eq, decide_eq_false_iff_not, beq_iff_eq, beq_eq_false_iff_ne, bne_iff_ne, bne_eq_false_iff_eq, Bool.not_eq_true', Bool.not_eq_false', ne_eq, Int.not_lt, Int.not_le, ge_iff_le, gt_iff_lt] at hb12) <;> first | (refine HL_r rfl rfl rfl rfl (R_lenBs rfl rfl) ?_) | (refine HL_r rfl rfl rfl rfl (R_lenSl rfl rfl) ?_) | (refine HL_r rfl rfl rfl rfl (R_lenStr rfl rfl rfl) ?_) | (refine HL_r rfl rfl rfl rfl (R_pure rfl rfl rfl) ?_) | (refine HL_skip rfl rfl rfl ?_))
                  all_goals first
                    | (refine HL_r rfl rfl rfl rfl (R_pure rfl rfl rfl) ?_)
                    | (refine HL_skip rfl rfl rfl ?_)
                    | (refine HL_case 20 rfl (fun hb13 => ?_) (fun hb13 => ?_) <;> (try simp only [decide_eq_true_eq, decide_eq_false_iff_not, beq_iff_eq, beq_eq_false_iff_ne, bne_iff_ne, bne_eq_false_iff_eq, Bool.not_eq_true', Bool.not_eq_false', ne_eq, Int.not_lt, Int.not_le, ge_iff_le, gt_iff_lt] at hb13) <;> first | (refine HL_r rfl rfl rfl rfl (R_pure rfl rfl rfl) ?_) | (refine HL_skip rfl rfl rfl ?_))
                  all_goals first
                    | (refine HL_as (show _ = Value.bool true from bool_eq' (decide_eq_false (by omega))) ?_)
                    | (refine HL_as (show _ = Value.bool false from bool_eq' (decide_eq_false (by omega))) ?_)
                    | skip
                  all_goals first
                    | (refine HL_r rfl rfl rfl rfl (R_pickT rfl rfl) ?_)
                    | (refine HL_r rfl rfl rfl rfl (R_pickF rfl rfl) ?_)
                  all_goals refine HL_r rfl rfl rfl rfl (R_move rfl) ?_
                  all_goals first
                    | (refine HL_r rfl rfl rfl rfl (R_move rfl) ?_)
                    | (refine HL_skip rfl rfl rfl ?_)
                    | (refine HL_case 25 rfl (fun hb14 => ?_) (fun hb14 => ?_) <;> (try simp only [decide_eq_true_eq, decide_eq_false_iff_not, beq_iff_eq, beq_eq_false_iff_ne, bne_iff_ne, bne_eq_false_iff_eq, Bool.not_eq_true', Bool.not_eq_false', ne_eq, Int.not_lt, Int.not_le, ge_iff_le, gt_iff_lt] at hb14) <;> first | (refine HL_r rfl rfl rfl rfl (R_move rfl) ?_) | (refine HL_skip rfl rfl rfl ?_))
                  all_goals first
                    | (refine HL_r rfl rfl rfl rfl (R_lenBs rfl rfl) ?_)
                    | (refine HL_r rfl rfl rfl rfl (R_lenSl rfl rfl) ?_)
                    | (refine HL_r rfl rfl rfl rfl (R_lenStr rfl rfl rfl) ?_)
                    | (refine HL_r rfl rfl rfl rfl (R_pure rfl rfl rfl) ?_)
                    | (refine HL_skip rfl rfl rfl ?_)
                    | (refine HL_case 25 rfl (fun hb15 => ?_) (fun hb15 => ?_) <;> (try simp only [decide_eq_true_eq, decide_eq_false_iff_not, beq_iff_eq, beq_eq_false_iff_ne, bne_iff_ne, bne_eq_false_iff_eq, Bool.not_eq_true', Bool.not_eq_false', ne_eq, Int.not_lt, Int.not_le, ge_iff_le, gt_iff_lt] at hb15) <;> first | (refine HL_r rfl rfl rfl rfl (R_lenBs rfl rfl) ?_) | (refine HL_r rfl rfl rfl rfl (R_lenSl rfl rfl) ?_) | (refine HL_r rfl rfl rfl rfl (R_lenStr rfl rfl rfl) ?_) | (refine HL_r rfl rfl rfl rfl (R_pure rfl rfl rfl) ?_) | (refine HL_skip rfl rfl rfl ?_))
                  all_goals first
                    | (refine HL_r rfl rfl rfl rfl (R_move rfl) ?_)
                    | (refine HL_skip rfl rfl rfl ?_)
                    | (refine HL_case 25 rfl (fun hb16 => ?_) (fun hb16 => ?_) <;> (try simp only [decide_eq_true_eq, decide_eq_false_iff_not, beq_iff_eq, beq_eq_false_iff_ne, bne_iff_ne, bne_eq_false_iff_eq, Bool.not_eq_true', Bool.not_eq_false', ne_eq, Int.not_lt, Int.not_le, ge_iff_le, gt_iff_lt] at hb16) <;> first | (refine HL_r rfl rfl rfl rfl (R_move rfl) ?_) | (refine HL_skip rfl rfl rfl ?_))
                  all_goals first
                    | (refine HL_r rfl rfl rfl rfl (R_lenBs rfl rfl) ?_)
                    | (refine HL_r rfl rfl rfl rfl (R_lenSl rfl rfl) ?_)
                    | (refine HL_r rfl rfl rfl rfl (R_lenStr rfl rfl rfl) ?_)
                    | (refine HL_r rfl rfl rfl rfl (R_pure rfl rfl rfl) ?_)
                    | (refine HL_skip rfl rfl rfl ?_)
                    | (refine HL_case 25 rfl (fun hb17 => ?_) (fun hb17 => ?_) <;> (try simp only [decide_eq_true_eq, decide_eq_false_iff_not, beq_iff_eq, beq_eq_false_iff_ne, bne_iff_ne, bne_eq_false_iff_eq, Bool.not_eq_true', Bool.not_eq_false', ne_eq, Int.not_lt, Int.not_le, ge_iff_le, gt_iff_lt] at hb17) <;> first | (refine HL_r rfl rfl rfl rfl (R_lenBs rfl rfl) ?_) | (refine HL_r rfl rfl rfl rfl (R_lenSl rfl rfl) ?_) | (refine HL_r rfl rfl rfl rfl (R_lenStr rfl rfl rfl) ?_) | (refine HL_r rfl rfl rfl rfl (R_pure rfl rfl rfl) ?_) | (refine HL_skip rfl rfl rfl ?_))
                  all_goals first
                    | (refine HL_r rfl rfl rfl rfl (R_pure rfl rfl rfl) ?_)
                    | (refine HL_skip rfl rfl rfl ?_)
                    | (refine HL_case 25 rfl (fun hb18 => ?_) (fun hb18 => ?_) <;> (try simp only [decide_eq_true_eq, decide_eq_false_iff_not, beq_iff_eq, beq_eq_false_iff_ne, bne_iff_ne, bne_eq_false_iff_eq, Bool.not_eq_true', Bool.not_eq_false', ne_eq, Int.not_lt, Int.not_le, ge_iff_le, gt_iff_lt] at hb18) <;> first | (refine HL_r rfl rfl rfl rfl (R_pure rfl rfl rfl) ?_) | (refine HL_skip rfl rfl rfl ?_))
                  all_goals first
                    | (refine HL_r rfl rfl rfl rfl (R_move rfl) ?_)
                    | (refine HL_skip rfl rfl rfl ?_)
                    | (refine HL_case 25 rfl (fun hb19 => ?_) (fun hb19 => ?_) <;> (try simp only [decide_eq_true_eq, decide_eq_false_iff_not, beq_iff_eq, beq_eq_false_iff_ne, bne_iff_ne, bne_eq_false_iff_eq, Bool.not_eq_true', Bool.not_eq_false', ne_eq, Int.not_lt, Int.not_le, ge_iff_le, gt_iff_lt] at hb19) <;> first | (refine HL_r rfl rfl rfl rfl (R_move rfl) ?_) | (refine HL_skip rfl rfl rfl ?_))
                  all_goals first
                    | (refine HL_r rfl rfl rfl rfl (R_move rfl) ?_)
                    | (refine HL_skip rfl rfl rfl ?_)
                    | (refine HL_case 31 rfl (fun hb20 => ?_) (fun hb20 => ?_) <;> (try simp only [decide_eq_true_eq, decide_eq_false_iff_not, beq_iff_eq, beq_eq_false_iff_ne, bne_iff_ne, bne_eq_false_iff_eq, Bool.not_eq_true', Bool.not_eq_false', ne_eq, Int.not_lt, Int.not_le, ge_iff_le, gt_iff_lt] at hb20) <;> first | (refine HL_r rfl rfl rfl rfl (R_move rfl) ?_) | (refine HL_skip rfl rfl rfl ?_))
                  all_goals first
                    | (refine HL_r rfl rfl rfl rfl (R_move rfl) ?_)
                    | (refine HL_skip rfl rfl rfl ?_)
                    | (refine HL_case 31 rfl (fun hb21 => ?_) (fun hb21 => ?_) <;> (try simp only [decide_eq_true_eq, decide_eq_false_iff_not, beq_iff_eq, beq_eq_false_iff_ne, bne_iff_ne, bne_eq_false_iff_eq, Bool.not_eq_true', Bool.not_eq_false', ne_eq, Int.not_lt, Int.not_le, ge_iff_le, gt_iff_lt] at hb21) <;> first | (refine HL_r rfl rfl rfl rfl (R_move rfl) ?_) | (refine HL_skip rfl rfl rfl ?_))
                  all_goals first
                    | (refine HL_r rfl rfl rfl rfl (R_lenBs rfl rfl) ?_)
                    | (refine HL_r rfl rfl rfl rfl (R_lenSl rfl rfl) ?_)
                    | (refine HL_r rfl rfl rfl rfl (R_lenStr rfl rfl rfl) ?_)
                    | (refine HL_r rfl rfl rfl rfl (R_pure rfl rfl rfl) ?_)
                    | (refine HL_skip rfl rfl rfl ?_)
                    | (refine HL_case 31 rfl (fun hb22 => ?_) (fun hb22 => ?_) <;> (try simp only [decide_eq_true_eq, decide_eq_false_iff_not, beq_iff_eq, beq_eq_false_iff_ne, bne_iff_ne, bne_eq_false_iff_eq, Bool.not_eq_true', Bool.not_eq_false', ne_eq, Int.not_lt, Int.not_le, ge_iff_le, gt_iff_lt] at hb22) <;> first | (refine HL_r rfl rfl rfl rfl (R_lenBs rfl rfl) ?_) | (refine HL_r rfl rfl rfl rfl (R_lenSl rfl rfl) ?_) | (refine HL_r rfl rfl rfl rfl (R_lenStr rfl rfl rfl) ?_) | (refine HL_r rfl rfl rfl rfl (R_pure rfl rfl rfl) ?_) | (refine HL_skip rfl rfl rfl ?_))
                  all_goals first | (refine HL_r rfl rfl rfl rfl (R_sliceBs (kl := none) (kh := some (.i64, ((varL m).length : Int))) (m := 0) (n := (varL m).length) rfl rfl rfl rfl rfl rfl (by omega) (by omega) rfl) ?_) | refine HL_skip rfl rfl rfl ?_ | (refine HL_case 31 rfl (fun hb0 => ?_) (fun hb0 => ?_) <;> (try simp only [decide_eq_true_eq, decide_eq_false_iff_not] at hb0) <;> first | (refine HL_r rfl rfl rfl rfl (R_sliceBs (kl := none) (kh := some (.i64, ((varL m).length : Int))) (m := 0) (n := (varL m).length) rfl rfl rfl rfl rfl rfl (by omega) (by omega) rfl) ?_) | refine HL_skip rfl rfl rfl ?_)
                  all_goals first
                    | (refine HL_r rfl rfl rfl rfl (R_move rfl) ?_)
                    | (refine HL_skip rfl rfl rfl ?_)
                    | (refine HL_case 31 rfl (fun hb23 => ?_) (fun hb23 => ?_) <;> (try simp only [decide_eq_true_eq, decide_eq_false_iff_not, beq_iff_eq, beq_eq_false_iff_ne, bne_iff_ne, bne_eq_false_iff_eq, Bool.not_eq_true', Bool.not_eq_false', ne_eq, Int.not_lt, Int.not_le, ge_iff_le, gt_iff_lt] at hb23) <;> first | (refine HL_r rfl rfl rfl rfl (R_move rfl) ?_) | (refine HL_skip rfl rfl rfl ?_))
                  all_goals first
                    | (refine HL_r rfl rfl rfl rfl (R_strEq rfl rfl) ?_)
                    | (refine HL_skip rfl rfl rfl ?_)
                    | (refine HL_case 31 rfl (fun hb24 => ?_) (fun hb24 => ?_) <;> (try simp only [decide_eq_true_eq, decide_eq_false_iff_not, beq_iff_eq, beq_eq_false_iff_ne, bne_iff_ne, bne_eq_false_iff_eq, Bool.not_eq_true', Bool.not_eq_false', ne_eq, Int.not_lt, Int.not_le, ge_iff_le, gt_iff_lt] at hb24) <;> first | (refine HL_r rfl rfl rfl rfl (R_strEq rfl rfl) ?_) | (refine HL_skip rfl rfl rfl ?_))
                  all_goals try refine HL_as (show _ = Value.bool (decide (m = n)) from bool_eq' hpre) ?_
                  all_goals first
                    | (refine HL_r rfl rfl rfl rfl (R_move rfl) ?_)
                    | (refine HL_skip rfl rfl rfl ?_)
                    | (refine HL_case 31 rfl (fun hb25 => ?_) (fun hb25 => ?_) <;> (try simp only [decide_eq_true_eq, decide_eq_false_iff_not, beq_iff_eq, beq_eq_false_iff_ne, bne_iff_ne, bne_eq_false_iff_eq, Bool.not_eq_true', Bool.not_eq_false', ne_eq, Int.not_lt, Int.not_le, ge_iff_le, gt_iff_lt] at hb25) <;> first | (refine HL_r rfl rfl rfl rfl (R_move rfl) ?_) | (refine HL_skip rfl rfl rfl ?_))
                  all_goals first
                    | (refine HL_r rfl rfl rfl rfl (R_move rfl) ?_)
                    | (refine HL_skip rfl rfl rfl ?_)
                    | (refine HL_case 31 rfl (fun hb26 => ?_) (fun hb26 => ?_) <;> (try simp only [decide_eq_true_eq, decide_eq_false_iff_not, beq_iff_eq, beq_eq_false_iff_ne, bne_iff_ne, bne_eq_false_iff_eq, Bool.not_eq_true', Bool.not_eq_false', ne_eq, Int.not_lt, Int.not_le, ge_iff_le, gt_iff_lt] at hb26) <;> first | (refine HL_r rfl rfl rfl rfl (R_move rfl) ?_) | (refine HL_skip rfl rfl rfl ?_))
                  all_goals first
                    | (refine HL_r rfl rfl rfl rfl (R_pure rfl rfl rfl) ?_)
                    | (refine HL_skip rfl rfl rfl ?_)
                    | (refine HL_case 31 rfl (fun hb27 => ?_) (fun hb27 => ?_) <;> (try simp only [decide_eq_true_eq, decide_eq_false_iff_not, beq_iff_eq, beq_eq_false_iff_ne, bne_iff_ne, bne_eq_false_iff_eq, Bool.not_eq_true', Bool.not_eq_false', ne_eq, Int.not_lt, Int.not_le, ge_iff_le, gt_iff_lt] at hb27) <;> first | (refine HL_r rfl rfl rfl rfl (R_pure rfl rfl rfl) ?_) | (refine HL_skip rfl rfl rfl ?_))
                  all_goals try refine HL_as (show _ = Value.bool (decide (m = n)) from bool_eq' (by rw [Bool.eq_iff_iff, beq_iff_eq, decide_eq_true_eq]; omega)) ?_
                  all_goals first
                    | (refine HL_r rfl rfl rfl rfl (R_pure rfl rfl rfl) ?_)
                    | (refine HL_skip rfl rfl rfl ?_)
                    | (refine HL_case 31 rfl (fun hb28 => ?_) (fun hb28 => ?_) <;> (try simp only [decide_eq_true_eq, decide_eq_false_iff_not, beq_iff_eq, beq_eq_false_iff_ne, bne_iff_ne, bne_eq_false_iff_eq, Bool.not_eq_true', Bool.not_eq_false', ne_eq, Int.not_lt, Int.not_le, ge_iff_le, gt_iff_lt] at hb28) <;> first | (refine HL_r rfl rfl rfl rfl (R_pure rfl rfl rfl) ?_) | (refine HL_skip rfl rfl rfl ?_))
                  all_goals first
                    | (refine HL_as (show _ = Value.bool true from bool_eq' (bne_self_eq_false _)) ?_)
                    | (refine HL_as (show _ = Value.bool false from bool_eq' (bne_self_eq_false _)) ?_)
                    | skip
                  all_goals first
                    | (refine HL_r rfl rfl rfl rfl (R_pickT rfl rfl) ?_)
                    | (refine HL_r rfl rfl rfl rfl (R_pickF rfl rfl) ?_)
                    | (refine HL_skip rfl rfl rfl ?_)
                    | (refine HL_case 25 rfl (fun hb29 => ?_) (fun hb29 => ?_) <;> (try simp only [decide_eq_true_eq, decide_eq_false_iff_not, beq_iff_eq, beq_eq_false_iff_ne, bne_iff_ne, bne_eq_false_iff_eq, Bool.not_eq_true', Bool.not_eq_false', ne_eq, Int.not_lt, Int.not_le, ge_iff_le, gt_iff_lt] at hb29) <;> first | (refine HL_r rfl rfl rfl rfl (R_pickT rfl rfl) ?_) | (refine HL_r rfl rfl rfl rfl (R_pickF rfl rfl) ?_) | (refine HL_skip rfl rfl rfl ?_))
                  all_goals first
                    | (refine HL_r rfl rfl rfl rfl (R_pickT rfl rfl) ?_)
                    | (refine HL_r rfl rfl rfl rfl (R_pickF rfl rfl) ?_)
                  all_goals refine HL_nil ?_
                  all_goals (
                    refine HQ_then ?_
                    refine hK10 _ _ _ _ ?_; clear hK10 K10
                    refine HC_cond rfl (fun h30 => ?_) (fun h30 => ?_)
                    · try exact Bool.noConfusion h30
                      all_goals try simp only [decide_eq_true_eq, decide_eq_false_iff_not, beq_iff_eq, beq_eq_false_iff_ne, bne_iff_ne, bne_eq_false_iff_eq, Bool.not_eq_true', Bool.not_eq_false', ne_eq, Int.not_lt, Int.not_le, ge_iff_le, gt_iff_lt] at h30
                      all_goals (
                        refine HC_seq fun K31 hK31 => ?_
                        refine HC_region ?_
                        all_goals refine HL_r rfl rfl rfl rfl (R_assign rfl) ?_
                        all_goals refine HL_nil ?_
                        all_goals (
                          refine HQ_then ?_
                          refine hK31 _ _ _ _ ?_; clear hK31 K31
                          refine HC_ret ?_
                          refine HQ_thenR ?_; clear hK9 K9
                          refine HQ_post rfl rfl (.cons (res_tmp rfl) .nil) (fun w1 hs1 => ?_)
                          exact ⟨rfl, hs1.keep⟩
                          skip)
                        skip)
                    · try exact Bool.noConfusion h30
                      all_goals try simp only [decide_eq_true_eq, decide_eq_false_iff_not, beq_iff_eq, beq_eq_false_iff_ne, bne_iff_ne, bne_eq_false_iff_eq, Bool.not_eq_true', Bool.not_eq_false', ne_eq, Int.not_lt, Int.not_le, ge_iff_le, gt_iff_lt] at h30
                      all_goals (
                        refine HC_skip ?_
                        refine HQ_then ?_
                        refine hK9 _ _ _ _ ?_; clear hK9 K9
                        refine HC_seq fun K32 hK32 => ?_
                        refine HC_region ?_
                        all_goals refine HL_r rfl rfl rfl rfl (R_move rfl) ?_
                        all_goals refine HL_callP rfl rfl rfl (enters_of Tryd.func26 (by kernel_rfl) rfl) (P_num_Be hm) ?_
                        all_goals refine HL_r rfl rfl rfl rfl (R_assign rfl) ?_
                        all_goals refine HL_nil ?_
                        all_goals (
                          refine HQ_then ?_
                          refine hK32 _ _ _ _ ?_; clear hK32 K32
                          refine HC_seq fun K33 hK33 => ?_
                          refine HC_region ?_
                          all_goals refine HL_r rfl rfl rfl rfl (R_move rfl) ?_
                          all_goals refine HL_callP rfl rfl rfl (enters_of Tryd.func26 (by kernel_rfl) rfl) (P_num_Be hn) ?_
                          all_goals refine HL_r rfl rfl rfl rfl (R_assign rfl) ?_
                          all_goals refine HL_nil ?_
                          all_goals (
                            refine HQ_then ?_
                            refine hK33 _ _ _ _ ?_; clear hK33 K33
                            refine HC_seq fun K34 hK34 => ?_
                            refine HC_region ?_
                            all_goals refine HL_r rfl rfl rfl rfl (R_move rfl) ?_
                            all_goals refine HL_r rfl rfl rfl rfl (R_move rfl) ?_
                            all_goals first
                              | (refine HL_r rfl rfl rfl rfl (R_move rfl) ?_)
                              | (refine HL_skip rfl rfl rfl ?_)
                              | (refine HL_case 49 rfl (fun hb35 => ?_) (fun hb35 => ?_) <;> (try simp only [decide_eq_true_eq, decide_eq_false_iff_not, beq_iff_eq, beq_eq_false_iff_ne, bne_iff_ne, bne_eq_false_iff_eq, Bool.not_eq_true', Bool.not_eq_false', ne_eq, Int.not_lt, Int.not_le, ge_iff_le, gt_iff_lt] at hb35) <;> first | (refine HL_r rfl rfl rfl rfl (R_move rfl) ?_) | (refine HL_skip rfl rfl rfl ?_))
                            all_goals first
                              | (refine HL_r rfl rfl rfl rfl (R_move rfl) ?_)
                              | (refine HL_skip rfl rfl rfl ?_)
                              | (refine HL_case 49 rfl (fun hb36 => ?_) (fun hb36 => ?_) <;> (try simp only [decide_eq_true_eq, decide_eq_false_iff_not, beq_iff_eq, beq_eq_false_iff_ne, bne_iff_ne, bne_eq_false_iff_eq, Bool.not_eq_true', Bool.not_eq_false', ne_eq, Int.not_lt, Int.not_le, ge_iff_le, gt_iff_lt] at hb36) <;> first | (refine HL_r rfl rfl rfl rfl (R_move rfl) ?_) | (refine HL_skip rfl rfl rfl ?_))
                            all_goals first
                              | (refine HL_r rfl rfl rfl rfl (R_pure rfl rfl rfl) ?_)
                              | (refine HL_skip rfl rfl rfl ?_)
                              | (refine HL_case 49 rfl (fun hb37 => ?_) (fun hb37 => ?_) <;> (try simp only [decide_eq_true_eq, decide_eq_false_iff_not, beq_iff_eq, beq_eq_false_iff_ne, bne_iff_ne, bne_eq_false_iff_eq, Bool.not_eq_true', Bool.not_eq_false', ne_eq, Int.not_lt, Int.not_le, ge_iff_le, gt_iff_lt] at hb37) <;> first | (refine HL_r rfl rfl rfl rfl (R_pure rfl rfl rfl) ?_) | (refine HL_skip rfl rfl rfl ?_))
                            all_goals first
                              | (refine HL_as (show _ = Value.bool true from bool_eq' (hd)) ?_)
                              | (refine HL_as (show _ = Value.bool false from bool_eq' (hd)) ?_)
                              | skip
                            all_goals first
                              | (refine HL_r rfl rfl rfl rfl (R_move rfl) ?_)
                              | (refine HL_skip rfl rfl rfl ?_)
                              | (refine HL_case 49 rfl (fun hb38 => ?_) (fun hb38 => ?_) <;> (try simp only [decide_eq_true_eq, decide_eq_false_iff_not, beq_iff_eq, beq_eq_false_iff_ne, bne_iff_ne, bne_eq_false_iff_eq, Bool.not_eq_true', Bool.not_eq_false', ne_eq, Int.not_lt, Int.not_le, ge_iff_le, gt_iff_lt] at hb38) <;> first | (refine HL_r rfl rfl rfl rfl (R_move rfl) ?_) | (refine HL_skip rfl rfl rfl ?_))
                            all_goals first
                              | (refine HL_r rfl rfl rfl rfl (R_lenBs rfl rfl) ?_)
                              | (refine HL_r rfl rfl rfl rfl (R_lenSl rfl rfl) ?_)
                              | (refine HL_r rfl rfl rfl rfl (R_lenStr rfl rfl rfl) ?_)
                              | (refine HL_r rfl rfl rfl rfl (R_pure rfl rfl rfl) ?_)
                              | (refine HL_skip rfl rfl rfl ?_)
                              | (refine HL_case 49 rfl (fun hb39 => ?_) (fun hb39 => ?_) <;> (try simp only [decide_eq_true_eq, decide_eq_false_iff_not, beq_iff_eq, beq_eq_false_iff_ne, bne_iff_ne, bne_eq_false_iff_eq, Bool.not_eq_true', Bool.not_eq_false', ne_eq, Int.not_lt, Int.not_le, ge_iff_le, gt_iff_lt] at hb39) <;> first | (refine HL_r rfl rfl rfl rfl (R_lenBs rfl rfl) ?_) | (refine HL_r rfl rfl rfl rfl (R_lenSl rfl rfl) ?_) | (refine HL_r rfl rfl rfl rfl (R_lenStr rfl rfl rfl) ?_) | (refine HL_r rfl rfl rfl rfl (R_pure rfl rfl rfl) ?_) | (refine HL_skip rfl rfl rfl ?_))
                            all_goals first
                              | (refine HL_r rfl rfl rfl rfl (R_move rfl) ?_)
                              | (refine HL_skip rfl rfl rfl ?_)
                              | (refine HL_case 49 rfl (fun hb40 => ?_) (fun hb40 => ?_) <;> (try simp only [decide_eq_true_eq, decide_eq_false_iff_not, beq_iff_eq, beq_eq_false_iff_ne, bne_iff_ne, bne_eq_false_iff_eq, Bool.not_eq_true', Bool.not_eq_false', ne_eq, Int.not_lt, Int.not_le, ge_iff_le, gt_iff_lt] at hb40) <;> first | (refine HL_r rfl rfl rfl rfl (R_move rfl) ?_) | (refine HL_skip rfl rfl rfl ?_))
                            all_goals first
                              | (refine HL_r rfl rfl rfl rfl (R_lenBs rfl rfl) ?_)
                              | (refine HL_r rfl rfl rfl rfl (R_lenSl rfl rfl) ?_)
                              | (refine HL_r rfl rfl rfl rfl (R_lenStr rfl rfl rfl) ?_)
                              | (refine HL_r rfl rfl rfl rfl (R_pure rfl rfl rfl) ?_)
                              | (refine HL_skip rfl rfl rfl ?_)
                              | (refine HL_case 49 rfl (fun hb41 => ?_) (fun hb41 => ?_) <;> (try simp only [decide_eq_true_eq, decide_eq_false_iff_not, beq_iff_eq, beq_eq_false_iff_ne, bne_iff_ne, bne_eq_false_iff_eq, Bool.not_eq_true', Bool.not_eq_false', ne_eq, Int.not_lt, Int.not_le, ge_iff_le, gt_iff_lt] at hb41) <;> first | (refine HL_r rfl rfl rfl rfl (R_lenBs rfl rfl) ?_) | (refine HL_r rfl rfl rfl rfl (R_lenSl rfl rfl) ?_) | (refine HL_r rfl rfl rfl rfl (R_lenStr rfl rfl rfl) ?_) | (refine HL_r rfl rfl rfl rfl (R_pure rfl rfl rfl) ?_) | (refine HL_skip rfl rfl rfl ?_))
                            all_goals first
                              | (refine HL_r rfl rfl rfl rfl (R_pure rfl rfl rfl) ?_)
                              | (refine HL_skip rfl rfl rfl ?_)
                              | (refine HL_case 49 rfl (fun hb42 => ?_) (fun hb42 => ?_) <;> (try simp only [decide_eq_true_eq, decide_eq_false_iff_not, beq_iff_eq, beq_eq_false_iff_ne, bne_iff_ne, bne_eq_false_iff_eq, Bool.not_eq_true', Bool.not_eq_false', ne_eq, Int.not_lt, Int.not_le, ge_iff_le, gt_iff_lt] at hb42) <;> first | (refine HL_r rfl rfl rfl rfl (R_pure rfl rfl rfl) ?_) | (refine HL_skip rfl rfl rfl ?_))
                            all_goals first
                              | (refine HL_as (show _ = Value.bool true from bool_eq' (by first | exact decide_eq_true (by omega) | exact decide_eq_false (by omega))) ?_)
                              | (refine HL_as (show _ = Value.bool false from bool_eq' (by first | exact decide_eq_true (by omega) | exact decide_eq_false (by omega))) ?_)
                              | skip
                            all_goals first
                              | (refine HL_r rfl rfl rfl rfl (R_move rfl) ?_)
                              | (refine HL_skip rfl rfl rfl ?_)
                              | (refine HL_case 49 rfl (fun hb43 => ?_) (fun hb43 => ?_) <;> (try simp only [decide_eq_true_eq, decide_eq_false_iff_not, beq_iff_eq, beq_eq_false_iff_ne, bne_iff_ne, bne_eq_false_iff_eq, Bool.not_eq_true', Bool.not_eq_false', ne_eq, Int.not_lt, Int.not_le, ge_iff_le, gt_iff_lt] at hb43) <;> first | (refine HL_r rfl rfl rfl rfl (R_move rfl) ?_) | (refine HL_skip rfl rfl rfl ?_))
                            all_goals first
                              | (refine HL_r rfl rfl rfl rfl (R_move rfl) ?_)
                              | (refine HL_skip rfl rfl rfl ?_)
                              | (refine HL_case 58 rfl (fun hb44 => ?_) (fun hb44 => ?_) <;> (try simp only [decide_eq_true_eq, decide_eq_false_iff_not, beq_iff_eq, beq_eq_false_iff_ne, bne_iff_ne, bne_eq_false_iff_eq, Bool.not_eq_true', Bool.not_eq_false', ne_eq, Int.not_lt, Int.not_le, ge_iff_le, gt_iff_lt] at hb44) <;> first | (refine HL_r rfl rfl rfl rfl (R_move rfl) ?_) | (refine HL_skip rfl rfl rfl ?_))
                            all_goals first
                              | (refine HL_r rfl rfl rfl rfl (R_lenBs rfl rfl) ?_)
                              | (refine HL_r rfl rfl rfl rfl (R_lenSl rfl rfl) ?_)
                              | (refine HL_r rfl rfl rfl rfl (R_lenStr rfl rfl rfl) ?_)
                              | (refine HL_r rfl rfl rfl rfl (R_pure rfl rfl rfl) ?_)
                              | (refine HL_skip rfl rfl rfl ?_)
                              | (refine HL_case 58 rfl (fun hb45 => ?_) (fun hb45 => ?_) <;> (try simp only [decide_eq_true_eq, decide_eq_false_iff_not, beq_iff_eq, beq_eq_false_iff_ne, bne_iff_ne, bne_eq_false_iff_eq, Bool.not_eq_true', Bool.not_eq_false', ne_eq, Int.not_lt, Int.not_le, ge_iff_le, gt_iff_lt] at hb45) <;> first | (refine HL_r rfl rfl rfl rfl (R_lenBs rfl rfl) ?_) | (refine HL_r rfl rfl rfl rfl (R_lenSl rfl rfl) ?_) | (refine HL_r rfl rfl rfl rfl (R_lenStr rfl rfl rfl) ?_) | (refine HL_r rfl rfl rfl rfl (R_pure rfl rfl rfl) ?_) | (refine HL_skip rfl rfl rfl ?_))
                            all_goals first
                              | (refine HL_r rfl rfl rfl rfl (R_move rfl) ?_)
                              | (refine HL_skip rfl rfl rfl ?_)
                              | (refine HL_case 58 rfl (fun hb46 => ?_) (fun hb46 => ?_) <;> (try simp only [decide_eq_true_eq, decide_eq_false_iff_not, beq_iff_eq, beq_eq_false_iff_ne, bne_iff_ne, bne_eq_false_iff_eq, Bool.not_eq_true', Bool.not_eq_false', ne_eq, Int.not_lt, Int.not_le, ge_iff_le, gt_iff_lt] at hb46) <;> first | (refine HL_r rfl rfl rfl rfl (R_move rfl) ?_) | (refine HL_skip rfl rfl rfl ?_))
                            all_goals first
                              | (refine HL_r rfl rfl rfl rfl (R_lenBs rfl rfl) ?_)
                              | (refine HL_r rfl rfl rfl rfl (R_lenSl rfl rfl) ?_)
                              | (refine HL_r rfl rfl rfl rfl (R_lenStr rfl rfl rfl) ?_)
                              | (refine HL_r rfl rfl rfl rfl (R_pure rfl rfl rfl) ?_)
                              | (refine HL_skip rfl rfl rfl ?_)
                              | (refine HL_case 58 rfl (fun hb47 => ?_) (fun hb47 => ?_) <;> (try simp only [decide_eq_true_eq, decide_eq_false_iff_not, beq_iff_eq, beq_eq_false_iff_ne, bne_iff_ne, bne_eq_false_iff_eq, Bool.not_eq_true', Bool.not_eq_false', ne_eq, Int.not_lt, Int.not_le, ge_iff_le, gt_iff_lt] at hb47) <;> first | (refine HL_r rfl rfl rfl rfl (R_lenBs rfl rfl) ?_) | (refine HL_r rfl rfl rfl rfl (R_lenSl rfl rfl) ?_) | (refine HL_r rfl rfl rfl rfl (R_lenStr rfl rfl rfl) ?_) | (refine HL_r rfl rfl rfl rfl (R_pure rfl rfl rfl) ?_) | (refine HL_skip rfl rfl rfl ?_))
                            all_goals first
                              | (refine HL_r rfl rfl rfl rfl (R_pure rfl rfl rfl) ?_)
                              | (refine HL_skip rfl rfl rfl ?_)
                              | (refine HL_case 58 rfl (fun hb48 => ?_) (fun hb48 => ?_) <;> (try simp only [decide_eq_true_eq, decide_eq_false_iff_not, beq_iff_eq, beq_eq_false_iff_ne, bne_iff_ne, bne_eq_false_iff_eq, Bool.not_eq_true', Bool.not_eq_false', ne_eq, Int.not_lt, Int.not_le, ge_iff_le, gt_iff_lt] at hb48) <;> first | (refine HL_r rfl rfl rfl rfl (R_pure rfl rfl rfl) ?_) | (refine HL_skip rfl rfl rfl ?_))
                            all_goals first
                              | (refine HL_as (show _ = Value.bool true from bool_eq' (by first | exact ieqT (by omega) | exact ieqF (by omega))) ?_)
                              | (refine HL_as (show _ = Value.bool false from bool_eq' (by first | exact ieqT (by omega) | exact ieqF (by omega))) ?_)
                              | skip
                            all_goals first
                              | (refine HL_r rfl rfl rfl rfl (R_move rfl) ?_)
                              | (refine HL_skip rfl rfl rfl ?_)
                              | (refine HL_case 58 rfl (fun hb49 => ?_) (fun hb49 => ?_) <;> (try simp only [decide_eq_true_eq, decide_eq_false_iff_not, beq_iff_eq, beq_eq_false_iff_ne, bne_iff_ne, bne_eq_false_iff_eq, Bool.not_eq_true', Bool.not_eq_false', ne_eq, Int.not_lt, Int.not_le, ge_iff_le, gt_iff_lt] at hb49) <;> first | (refine HL_r rfl rfl rfl rfl (R_move rfl) ?_) | (refine HL_skip rfl rfl rfl ?_))
                            all_goals first
                              | (refine HL_r rfl rfl rfl rfl (R_move rfl) ?_)
                              | (refine HL_skip rfl rfl rfl ?_)
                              | (refine HL_case 64 rfl (fun hb50 => ?_) (fun hb50 => ?_) <;> (try simp only [decide_eq_true_eq, decide_eq_false_iff_not, beq_iff_eq, beq_eq_false_iff_ne, bne_iff_ne, bne_eq_false_iff_eq, Bool.not_eq_true', Bool.not_eq_false', ne_eq, Int.not_lt, Int.not_le, ge_iff_le, gt_iff_lt] at hb50) <;> first | (refine HL_r rfl rfl rfl rfl (R_move rfl) ?_) | (refine HL_skip rfl rfl rfl ?_))
                            all_goals first
                              | (refine HL_r rfl rfl rfl rfl (R_move rfl) ?_)
                              | (refine HL_skip rfl rfl rfl ?_)
                              | (refine HL_case 64 rfl (fun hb51 => ?_) (fun hb51 => ?_) <;> (try simp only [decide_eq_true_eq, decide_eq_false_iff_not, beq_iff_eq, beq_eq_false_iff_ne, bne_iff_ne, bne_eq_false_iff_eq, Bool.not_eq_true', Bool.not_eq_false', ne_eq, Int.not_lt, Int.not_le, ge_iff_le, gt_iff_lt] at hb51) <;> first | (refine HL_r rfl rfl rfl rfl (R_move rfl) ?_) | (refine HL_skip rfl rfl rfl ?_))
                            all_goals first
                              | (refine HL_r rfl rfl rfl rfl (R_strLt rfl rfl) ?_)
                              | (refine HL_skip rfl rfl rfl ?_)
                              | (refine HL_case 64 rfl (fun hb52 => ?_) (fun hb52 => ?_) <;> (try simp only [decide_eq_true_eq, decide_eq_false_iff_not, beq_iff_eq, beq_eq_false_iff_ne, bne_iff_ne, bne_eq_false_iff_eq, Bool.not_eq_true', Bool.not_eq_false', ne_eq, Int.not_lt, Int.not_le, ge_iff_le, gt_iff_lt] at hb52) <;> first | (refine HL_r rfl rfl rfl rfl (R_strLt rfl rfl) ?_) | (refine HL_skip rfl rfl rfl ?_))
                            all_goals first
                              | (refine HL_as (show _ = Value.bool true from bool_eq' (hle)) ?_)
                              | (refine HL_as (show _ = Value.bool false from bool_eq' (hle)) ?_)
                              | skip
                            all_goals first
                              | (refine HL_r rfl rfl rfl rfl (R_pickT rfl rfl) ?_)
                              | (refine HL_r rfl rfl rfl rfl (R_pickF rfl rfl) ?_)
                              | (refine HL_skip rfl rfl rfl ?_)
                              | (refine HL_case 58 rfl (fun hb53 => ?_) (fun hb53 => ?_) <;> (try simp only [decide_eq_true_eq, decide_eq_false_iff_not, beq_iff_eq, beq_eq_false_iff_ne, bne_iff_ne, bne_eq_false_iff_eq, Bool.not_eq_true', Bool.not_eq_false', ne_eq, Int.not_lt, Int.not_le, ge_iff_le, gt_iff_lt] at hb53) <;> first | (refine HL_r rfl rfl rfl rfl (R_pickT rfl rfl) ?_) | (refine HL_r rfl rfl rfl rfl (R_pickF rfl rfl) ?_) | (refine HL_skip rfl rfl rfl ?_))
                            all_goals first
                              | (refine HL_r rfl rfl rfl rfl (R_pickT rfl rfl) ?_)
                              | (refine HL_r rfl rfl rfl rfl (R_pickF rfl rfl) ?_)
                              | (refine HL_skip rfl rfl rfl ?_)
                              | (refine HL_case 49 rfl (fun hb54 => ?_) (fun hb54 => ?_) <;> (try simp only [decide_eq_true_eq, decide_eq_false_iff_not, beq_iff_eq, beq_eq_false_iff_ne, bne_iff_ne, bne_eq_false_iff_eq, Bool.not_eq_true', Bool.not_eq_false', ne_eq, Int.not_lt, Int.not_le, ge_iff_le, gt_iff_lt] at hb54) <;> first | (refine HL_r rfl rfl rfl rfl (R_pickT rfl rfl) ?_) | (refine HL_r rfl rfl rfl rfl (R_pickF rfl rfl) ?_) | (refine HL_skip rfl rfl rfl ?_))
                            all_goals first
                              | (refine HL_r rfl rfl rfl rfl (R_pure rfl rfl rfl) ?_)
                              | (refine HL_skip rfl rfl rfl ?_)
                              | (refine HL_case 49 rfl (fun hb55 => ?_) (fun hb55 => ?_) <;> (try simp only [decide_eq_true_eq, decide_eq_false_iff_not, beq_iff_eq, beq_eq_false_iff_ne, bne_iff_ne, bne_eq_false_iff_eq, Bool.not_eq_true', Bool.not_eq_false', ne_eq, Int.not_lt, Int.not_le, ge_iff_le, gt_iff_lt] at hb55) <;> first | (refine HL_r rfl rfl rfl rfl (R_pure rfl rfl rfl) ?_) | (refine HL_skip rfl rfl rfl ?_))
                            all_goals first
                              | (refine HL_as (show _ = Value.bool true from bool_eq' (rfl)) ?_)
                              | (refine HL_as (show _ = Value.bool false from bool_eq' (rfl)) ?_)
                              | skip
                            all_goals first
                              | (refine HL_r rfl rfl rfl rfl (R_pickT rfl rfl) ?_)
                              | (refine HL_r rfl rfl rfl rfl (R_pickF rfl rfl) ?_)
                            all_goals refine HL_r rfl rfl rfl rfl (R_assign rfl) ?_
                            all_goals refine HL_nil ?_
                            all_goals (
                              refine HQ_then ?_
                              refine hK34 _ _ _ _ ?_; clear hK34 K34
                              refine HC_ret ?_
                              refine HQ_post rfl rfl (.cons (res_tmp rfl) .nil) (fun w1 hs1 => ?_)
                              exact ⟨rfl, hs1.keep⟩
                              skip)
                            skip)
                          skip)
                        skip)
                    skip)
                  skip)
                skip)
              skip)
          skip)
        skip)
      skip)
    skip)
end Go.Proofs.YthfinkklgbiaeaaDoor
