import Derived.Test.YtiamhecfkcgldaaLi
namespace Go.Proofs.Ytiamhecfkcgldaa
set_option linter.all false
open Go.SL Go.RowKit Go.Shelf
theorem bool_eq {a b : Bool} (h : a = b) : Value.bool (a == b) = .bool true := by rw [h]; simp
theorem int_eq {a b : Int} (h : a = b) : Value.bool (a == b) = .bool true := by rw [h]; simp
set_option maxRecDepth 10000 in
theorem P_LegalTells (f k v : Int) : Pure Try.prog 3 [.int .i64 f, .int .i64 k, .int .i64 v].toArray (.bool true) := by
  refine pure_of_HC Try.func3 rfl rfl fun w => ?_
  refine HC_seq fun K1 hK1 => ?_
  refine HC_region ?_
  all_goals refine HL_r rfl rfl rfl rfl (R_assign rfl) ?_
  all_goals refine HL_nil ?_
  all_goals (
    refine HQ_then ?_
    refine hK1 _ _ _ _ ?_; clear hK1 K1
    refine HC_seq fun K2 hK2 => ?_
    refine HC_region ?_
    all_goals refine HL_callP rfl rfl rfl (enters_of Try.func7 (by kernel_rfl) rfl) P_works ?_
    all_goals refine HL_r rfl rfl rfl rfl (R_assign rfl) ?_
    all_goals refine HL_nil ?_
    all_goals (
      refine HQ_then ?_
      refine hK2 _ _ _ _ ?_; clear hK2 K2
      refine HC_seq fun K3 hK3 => ?_
      refine HC_seq fun K4 hK4 => ?_
      refine HC_region ?_
      all_goals refine HL_r rfl rfl rfl rfl (R_move rfl) ?_
      all_goals refine HL_r rfl rfl rfl rfl (R_pure rfl rfl rfl) ?_
      all_goals refine HL_nil ?_
      all_goals (
        refine HQ_then ?_
        refine hK4 _ _ _ _ ?_; clear hK4 K4
        refine HC_cond rfl (fun h5 => ?_) (fun h5 => ?_)
        · try exact Bool.noConfusion h5
          all_goals try simp only [decide_eq_true_eq, decide_eq_false_iff_not, beq_iff_eq, beq_eq_false_iff_ne, bne_iff_ne, bne_eq_false_iff_eq, Bool.not_eq_true', Bool.not_eq_false', ne_eq, Int.not_lt, Int.not_le, ge_iff_le, gt_iff_lt] at h5
          all_goals (
            refine HC_seq fun K6 hK6 => ?_
            refine HC_region ?_
            all_goals refine HL_r rfl rfl rfl rfl (R_assign rfl) ?_
            all_goals refine HL_nil ?_
            all_goals (
              refine HQ_then ?_
              refine hK6 _ _ _ _ ?_; clear hK6 K6
              refine HC_ret ?_
              refine HQ_thenR ?_; clear hK3 K3
              refine HQ_post rfl rfl (.cons (res_tmp rfl) .nil) (fun w1 hs1 => ?_)
              exact ⟨rfl, hs1.keep⟩
              skip)
            skip)
        · try exact Bool.noConfusion h5
          all_goals try simp only [decide_eq_true_eq, decide_eq_false_iff_not, beq_iff_eq, beq_eq_false_iff_ne, bne_iff_ne, bne_eq_false_iff_eq, Bool.not_eq_true', Bool.not_eq_false', ne_eq, Int.not_lt, Int.not_le, ge_iff_le, gt_iff_lt] at h5
          all_goals (
            refine HC_skip ?_
            refine HQ_then ?_
            refine hK3 _ _ _ _ ?_; clear hK3 K3
            refine HC_seq fun K7 hK7 => ?_
            refine HC_region ?_
            all_goals refine HL_r rfl rfl rfl rfl (R_move rfl) ?_
            all_goals refine HL_r rfl rfl rfl rfl (R_move rfl) ?_
            all_goals refine HL_callP rfl rfl rfl (enters_of Try.func8 (by kernel_rfl) rfl) (Q_rng ..) ?_
            all_goals refine HL_r rfl rfl rfl rfl (R_move rfl) ?_
            all_goals refine HL_r rfl rfl rfl rfl (R_extract rfl rfl) ?_
            all_goals refine HL_r rfl rfl rfl rfl (R_extract rfl rfl) ?_
            all_goals refine HL_r rfl rfl rfl rfl (R_extract rfl rfl) ?_
            all_goals refine HL_r rfl rfl rfl rfl (R_assign rfl) ?_
            all_goals refine HL_r rfl rfl rfl rfl (R_assign rfl) ?_
            all_goals refine HL_r rfl rfl rfl rfl (R_assign rfl) ?_
            all_goals refine HL_nil ?_
            all_goals (
              refine HQ_then ?_
              refine hK7 _ _ _ _ ?_; clear hK7 K7
              refine HC_seq fun K8 hK8 => ?_
              refine HC_region ?_
              all_goals refine HL_r rfl rfl rfl rfl (R_move rfl) ?_
              all_goals refine HL_r rfl rfl rfl rfl (R_move rfl) ?_
              all_goals refine HL_callP rfl rfl rfl (enters_of Try.func9 (by kernel_rfl) rfl) (Q_rrng ..) ?_
              all_goals refine HL_r rfl rfl rfl rfl (R_move rfl) ?_
              all_goals refine HL_r rfl rfl rfl rfl (R_extract rfl rfl) ?_
              all_goals refine HL_r rfl rfl rfl rfl (R_extract rfl rfl) ?_
              all_goals refine HL_r rfl rfl rfl rfl (R_extract rfl rfl) ?_
              all_goals refine HL_r rfl rfl rfl rfl (R_assign rfl) ?_
              all_goals refine HL_r rfl rfl rfl rfl (R_assign rfl) ?_
              all_goals refine HL_r rfl rfl rfl rfl (R_assign rfl) ?_
              all_goals refine HL_nil ?_
              all_goals (
                refine HQ_then ?_
                refine hK8 _ _ _ _ ?_; clear hK8 K8
                refine HC_seq fun K9 hK9 => ?_
                refine HC_region ?_
                all_goals refine HL_r rfl rfl rfl rfl (R_move rfl) ?_
                all_goals refine HL_r rfl rfl rfl rfl (R_move rfl) ?_
                all_goals refine HL_r rfl rfl rfl rfl (R_move rfl) ?_
                all_goals refine HL_callP rfl rfl rfl (enters_of Try.func10 (by kernel_rfl) rfl) (Q_rleg ..) ?_
                all_goals refine HL_r rfl rfl rfl rfl (R_assign rfl) ?_
                all_goals refine HL_nil ?_
                all_goals (
                  refine HQ_then ?_
                  refine hK9 _ _ _ _ ?_; clear hK9 K9
                  refine HC_seq fun K10 hK10 => ?_
                  refine HC_region ?_
                  all_goals refine HL_r rfl rfl rfl rfl (R_move rfl) ?_
                  all_goals refine HL_r rfl rfl rfl rfl (R_move rfl) ?_
                  all_goals refine HL_callPE rfl rfl rfl (enters_of Try.func12 (by kernel_rfl) rfl) (E_leg f k) fun x1 => ?_
                  all_goals obtain ⟨row1, hrow1⟩ := x1
                  all_goals change HL _ _ ((_, rowV (vl f k).length row1) :: _) (rowL 3 ((vl f k).map (Value.int .i64)) row1 ++ _) _ _ _ _
                  all_goals refine HL_r rfl rfl rfl rfl (R_move rfl) ?_
                  all_goals refine HL_r rfl rfl rfl rfl (R_move rfl) ?_
                  all_goals refine HL_callPE rfl rfl rfl (enters_of Try.func13 (by kernel_rfl) rfl) (E_ref f k) fun x2 => ?_
                  all_goals obtain ⟨row2, hrow2⟩ := x2
                  all_goals change HL _ _ ((_, rowV (vl f k).length row2) :: _) (rowL 3 ((vl f k).map (Value.int .i64)) row2 ++ _) _ _ _ _
                  all_goals refine HL_callR rfl rfl rfl (enters_of Try.func11 (by kernel_rfl) rfl) (R_Ints (vl f k) (vl f k) row1 row2 hrow1 hrow2 (Nat.le_trans (vl_len f k) (by decide))) (fun p hp => .inl (mem_two hp)) ?_
                  all_goals refine HL_as (show _ = Value.bool true from by simp) ?_
                  all_goals refine HL_r rfl rfl rfl rfl (R_assign rfl) ?_
                  all_goals refine HL_nil ?_
                  all_goals (
                    refine HQ_then ?_
                    refine hK10 _ _ _ _ ?_; clear hK10 K10
                    refine HC_seq fun K11 hK11 => ?_
                    refine HC_region ?_
                    all_goals refine HL_r rfl rfl rfl rfl (R_move rfl) ?_
                    all_goals refine HL_r rfl rfl rfl rfl (R_move rfl) ?_
                    all_goals refine HL_callP rfl rfl rfl (enters_of Try.func14 (by kernel_rfl) rfl) (Q_lat ..) ?_
                    all_goals refine HL_r rfl rfl rfl rfl (R_move rfl) ?_
                    all_goals refine HL_r rfl rfl rfl rfl (R_extract rfl rfl) ?_
                    all_goals refine HL_r rfl rfl rfl rfl (R_extract rfl rfl) ?_
                    all_goals refine HL_r rfl rfl rfl rfl (R_assign rfl) ?_
                    all_goals refine HL_r rfl rfl rfl rfl (R_assign rfl) ?_
                    all_goals refine HL_nil ?_
                    all_goals (
                      refine HQ_then ?_
                      refine hK11 _ _ _ _ ?_; clear hK11 K11
                      refine HC_seq fun K12 hK12 => ?_
                      refine HC_region ?_
                      all_goals refine HL_r rfl rfl rfl rfl (R_move rfl) ?_
                      all_goals refine HL_r rfl rfl rfl rfl (R_move rfl) ?_
                      all_goals refine HL_callP rfl rfl rfl (enters_of Try.func15 (by kernel_rfl) rfl) (Q_rlat ..) ?_
                      all_goals refine HL_r rfl rfl rfl rfl (R_move rfl) ?_
                      all_goals refine HL_r rfl rfl rfl rfl (R_extract rfl rfl) ?_
                      all_goals refine HL_r rfl rfl rfl rfl (R_extract rfl rfl) ?_
                      all_goals refine HL_r rfl rfl rfl rfl (R_assign rfl) ?_
                      all_goals refine HL_r rfl rfl rfl rfl (R_assign rfl) ?_
                      all_goals refine HL_nil ?_
                      all_goals (
                        refine HQ_then ?_
                        refine hK12 _ _ _ _ ?_; clear hK12 K12
                        refine HC_seq fun K13 hK13 => ?_
                        refine HC_region ?_
                        all_goals refine HL_r rfl rfl rfl rfl (R_move rfl) ?_
                        all_goals refine HL_r rfl rfl rfl rfl (R_move rfl) ?_
                        all_goals first
                          | (refine HL_r rfl rfl rfl rfl (R_move rfl) ?_)
                          | (refine HL_skip rfl rfl rfl ?_)
                          | (refine HL_case 61 rfl (fun hb14 => ?_) (fun hb14 => ?_) <;> (try simp only [decide_eq_true_eq, decide_eq_false_iff_not, beq_iff_eq, beq_eq_false_iff_ne, bne_iff_ne, bne_eq_false_iff_eq, Bool.not_eq_true', Bool.not_eq_false', ne_eq, Int.not_lt, Int.not_le, ge_iff_le, gt_iff_lt] at hb14) <;> first | (refine HL_r rfl rfl rfl rfl (R_move rfl) ?_) | (refine HL_skip rfl rfl rfl ?_))
                        all_goals first
                          | (refine HL_r rfl rfl rfl rfl (R_move rfl) ?_)
                          | (refine HL_skip rfl rfl rfl ?_)
                          | (refine HL_case 61 rfl (fun hb15 => ?_) (fun hb15 => ?_) <;> (try simp only [decide_eq_true_eq, decide_eq_false_iff_not, beq_iff_eq, beq_eq_false_iff_ne, bne_iff_ne, bne_eq_false_iff_eq, Bool.not_eq_true', Bool.not_eq_false', ne_eq, Int.not_lt, Int.not_le, ge_iff_le, gt_iff_lt] at hb15) <;> first | (refine HL_r rfl rfl rfl rfl (R_move rfl) ?_) | (refine HL_skip rfl rfl rfl ?_))
                        all_goals first
                          | (refine HL_r rfl rfl rfl rfl (R_pure rfl rfl rfl) ?_)
                          | (refine HL_skip rfl rfl rfl ?_)
                          | (refine HL_case 61 rfl (fun hb16 => ?_) (fun hb16 => ?_) <;> (try simp only [decide_eq_true_eq, decide_eq_false_iff_not, beq_iff_eq, beq_eq_false_iff_ne, bne_iff_ne, bne_eq_false_iff_eq, Bool.not_eq_true', Bool.not_eq_false', ne_eq, Int.not_lt, Int.not_le, ge_iff_le, gt_iff_lt] at hb16) <;> first | (refine HL_r rfl rfl rfl rfl (R_pure rfl rfl rfl) ?_) | (refine HL_skip rfl rfl rfl ?_))
                        all_goals refine HL_as (int_eq rfl) ?_
                        all_goals first
                          | (refine HL_r rfl rfl rfl rfl (R_pickT rfl rfl) ?_)
                          | (refine HL_r rfl rfl rfl rfl (R_pickF rfl rfl) ?_)
                        all_goals refine HL_r rfl rfl rfl rfl (R_move rfl) ?_
                        all_goals first
                          | (refine HL_r rfl rfl rfl rfl (R_move rfl) ?_)
                          | (refine HL_skip rfl rfl rfl ?_)
                          | (refine HL_case 66 rfl (fun hb17 => ?_) (fun hb17 => ?_) <;> (try simp only [decide_eq_true_eq, decide_eq_false_iff_not, beq_iff_eq, beq_eq_false_iff_ne, bne_iff_ne, bne_eq_false_iff_eq, Bool.not_eq_true', Bool.not_eq_false', ne_eq, Int.not_lt, Int.not_le, ge_iff_le, gt_iff_lt] at hb17) <;> first | (refine HL_r rfl rfl rfl rfl (R_move rfl) ?_) | (refine HL_skip rfl rfl rfl ?_))
                        all_goals first
                          | (refine HL_r rfl rfl rfl rfl (R_move rfl) ?_)
                          | (refine HL_skip rfl rfl rfl ?_)
                          | (refine HL_case 66 rfl (fun hb18 => ?_) (fun hb18 => ?_) <;> (try simp only [decide_eq_true_eq, decide_eq_false_iff_not, beq_iff_eq, beq_eq_false_iff_ne, bne_iff_ne, bne_eq_false_iff_eq, Bool.not_eq_true', Bool.not_eq_false', ne_eq, Int.not_lt, Int.not_le, ge_iff_le, gt_iff_lt] at hb18) <;> first | (refine HL_r rfl rfl rfl rfl (R_move rfl) ?_) | (refine HL_skip rfl rfl rfl ?_))
                        all_goals first
                          | (refine HL_r rfl rfl rfl rfl (R_pure rfl rfl rfl) ?_)
                          | (refine HL_skip rfl rfl rfl ?_)
                          | (refine HL_case 66 rfl (fun hb19 => ?_) (fun hb19 => ?_) <;> (try simp only [decide_eq_true_eq, decide_eq_false_iff_not, beq_iff_eq, beq_eq_false_iff_ne, bne_iff_ne, bne_eq_false_iff_eq, Bool.not_eq_true', Bool.not_eq_false', ne_eq, Int.not_lt, Int.not_le, ge_iff_le, gt_iff_lt] at hb19) <;> first | (refine HL_r rfl rfl rfl rfl (R_pure rfl rfl rfl) ?_) | (refine HL_skip rfl rfl rfl ?_))
                        all_goals refine HL_as (int_eq rfl) ?_
                        all_goals first
                          | (refine HL_r rfl rfl rfl rfl (R_pickT rfl rfl) ?_)
                          | (refine HL_r rfl rfl rfl rfl (R_pickF rfl rfl) ?_)
                        all_goals refine HL_r rfl rfl rfl rfl (R_move rfl) ?_
                        all_goals first
                          | (refine HL_r rfl rfl rfl rfl (R_move rfl) ?_)
                          | (refine HL_skip rfl rfl rfl ?_)
                          | (refine HL_case 71 rfl (fun hb20 => ?_) (fun hb20 => ?_) <;> (try simp only [decide_eq_true_eq, decide_eq_false_iff_not, beq_iff_eq, beq_eq_false_iff_ne, bne_iff_ne, bne_eq_false_iff_eq, Bool.not_eq_true', Bool.not_eq_false', ne_eq, Int.not_lt, Int.not_le, ge_iff_le, gt_iff_lt] at hb20) <;> first | (refine HL_r rfl rfl rfl rfl (R_move rfl) ?_) | (refine HL_skip rfl rfl rfl ?_))
                        all_goals first
                          | (refine HL_r rfl rfl rfl rfl (R_move rfl) ?_)
                          | (refine HL_skip rfl rfl rfl ?_)
                          | (refine HL_case 71 rfl (fun hb21 => ?_) (fun hb21 => ?_) <;> (try simp only [decide_eq_true_eq, decide_eq_false_iff_not, beq_iff_eq, beq_eq_false_iff_ne, bne_iff_ne, bne_eq_false_iff_eq, Bool.not_eq_true', Bool.not_eq_false', ne_eq, Int.not_lt, Int.not_le, ge_iff_le, gt_iff_lt] at hb21) <;> first | (refine HL_r rfl rfl rfl rfl (R_move rfl) ?_) | (refine HL_skip rfl rfl rfl ?_))
                        all_goals first
                          | (refine HL_r rfl rfl rfl rfl (R_pure rfl rfl rfl) ?_)
                          | (refine HL_skip rfl rfl rfl ?_)
                          | (refine HL_case 71 rfl (fun hb22 => ?_) (fun hb22 => ?_) <;> (try simp only [decide_eq_true_eq, decide_eq_false_iff_not, beq_iff_eq, beq_eq_false_iff_ne, bne_iff_ne, bne_eq_false_iff_eq, Bool.not_eq_true', Bool.not_eq_false', ne_eq, Int.not_lt, Int.not_le, ge_iff_le, gt_iff_lt] at hb22) <;> first | (refine HL_r rfl rfl rfl rfl (R_pure rfl rfl rfl) ?_) | (refine HL_skip rfl rfl rfl ?_))
                        all_goals refine HL_as (int_eq rfl) ?_
                        all_goals first
                          | (refine HL_r rfl rfl rfl rfl (R_pickT rfl rfl) ?_)
                          | (refine HL_r rfl rfl rfl rfl (R_pickF rfl rfl) ?_)
                        all_goals refine HL_r rfl rfl rfl rfl (R_move rfl) ?_
                        all_goals first
                          | (refine HL_r rfl rfl rfl rfl (R_move rfl) ?_)
                          | (refine HL_skip rfl rfl rfl ?_)
                          | (refine HL_case 76 rfl (fun hb23 => ?_) (fun hb23 => ?_) <;> (try simp only [decide_eq_true_eq, decide_eq_false_iff_not, beq_iff_eq, beq_eq_false_iff_ne, bne_iff_ne, bne_eq_false_iff_eq, Bool.not_eq_true', Bool.not_eq_false', ne_eq, Int.not_lt, Int.not_le, ge_iff_le, gt_iff_lt] at hb23) <;> first | (refine HL_r rfl rfl rfl rfl (R_move rfl) ?_) | (refine HL_skip rfl rfl rfl ?_))
                        all_goals first
                          | (refine HL_r rfl rfl rfl rfl (R_move rfl) ?_)
                          | (refine HL_skip rfl rfl rfl ?_)
                          | (refine HL_case 76 rfl (fun hb24 => ?_) (fun hb24 => ?_) <;> (try simp only [decide_eq_true_eq, decide_eq_false_iff_not, beq_iff_eq, beq_eq_false_iff_ne, bne_iff_ne, bne_eq_false_iff_eq, Bool.not_eq_true', Bool.not_eq_false', ne_eq, Int.not_lt, Int.not_le, ge_iff_le, gt_iff_lt] at hb24) <;> first | (refine HL_r rfl rfl rfl rfl (R_move rfl) ?_) | (refine HL_skip rfl rfl rfl ?_))
                        all_goals first
                          | (refine HL_r rfl rfl rfl rfl (R_move rfl) ?_)
                          | (refine HL_skip rfl rfl rfl ?_)
                          | (refine HL_case 76 rfl (fun hb25 => ?_) (fun hb25 => ?_) <;> (try simp only [decide_eq_true_eq, decide_eq_false_iff_not, beq_iff_eq, beq_eq_false_iff_ne, bne_iff_ne, bne_eq_false_iff_eq, Bool.not_eq_true', Bool.not_eq_false', ne_eq, Int.not_lt, Int.not_le, ge_iff_le, gt_iff_lt] at hb25) <;> first | (refine HL_r rfl rfl rfl rfl (R_move rfl) ?_) | (refine HL_skip rfl rfl rfl ?_))
                        all_goals first
                          | (refine HL_callP rfl rfl rfl (enters_of Try.func16 (by kernel_rfl) rfl) (Q_leg ..) ?_)
                          | (refine HL_skip rfl rfl rfl ?_)
                          | (refine HL_case 76 rfl (fun hb26 => ?_) (fun hb26 => ?_) <;> (try simp only [decide_eq_true_eq, decide_eq_false_iff_not, beq_iff_eq, beq_eq_false_iff_ne, bne_iff_ne, bne_eq_false_iff_eq, Bool.not_eq_true', Bool.not_eq_false', ne_eq, Int.not_lt, Int.not_le, ge_iff_le, gt_iff_lt] at hb26) <;> first | (refine HL_callP rfl rfl rfl (enters_of Try.func16 (by kernel_rfl) rfl) (Q_leg ..) ?_) | (refine HL_skip rfl rfl rfl ?_))
                        all_goals first
                          | (refine HL_r rfl rfl rfl rfl (R_move rfl) ?_)
                          | (refine HL_skip rfl rfl rfl ?_)
                          | (refine HL_case 76 rfl (fun hb27 => ?_) (fun hb27 => ?_) <;> (try simp only [decide_eq_true_eq, decide_eq_false_iff_not, beq_iff_eq, beq_eq_false_iff_ne, bne_iff_ne, bne_eq_false_iff_eq, Bool.not_eq_true', Bool.not_eq_false', ne_eq, Int.not_lt, Int.not_le, ge_iff_le, gt_iff_lt] at hb27) <;> first | (refine HL_r rfl rfl rfl rfl (R_move rfl) ?_) | (refine HL_skip rfl rfl rfl ?_))
                        all_goals first
                          | (refine HL_r rfl rfl rfl rfl (R_pure rfl rfl rfl) ?_)
                          | (refine HL_skip rfl rfl rfl ?_)
                          | (refine HL_case 76 rfl (fun hb28 => ?_) (fun hb28 => ?_) <;> (try simp only [decide_eq_true_eq, decide_eq_false_iff_not, beq_iff_eq, beq_eq_false_iff_ne, bne_iff_ne, bne_eq_false_iff_eq, Bool.not_eq_true', Bool.not_eq_false', ne_eq, Int.not_lt, Int.not_le, ge_iff_le, gt_iff_lt] at hb28) <;> first | (refine HL_r rfl rfl rfl rfl (R_pure rfl rfl rfl) ?_) | (refine HL_skip rfl rfl rfl ?_))
                        all_goals refine HL_as (bool_eq rfl) ?_
                        all_goals first
                          | (refine HL_r rfl rfl rfl rfl (R_pickT rfl rfl) ?_)
                          | (refine HL_r rfl rfl rfl rfl (R_pickF rfl rfl) ?_)
                        all_goals refine HL_r rfl rfl rfl rfl (R_move rfl) ?_
                        all_goals first
                          | (refine HL_r rfl rfl rfl rfl (R_move rfl) ?_)
                          | (refine HL_skip rfl rfl rfl ?_)
                          | (refine HL_case 84 rfl (fun hb29 => ?_) (fun hb29 => ?_) <;> (try simp only [decide_eq_true_eq, decide_eq_false_iff_not, beq_iff_eq, beq_eq_false_iff_ne, bne_iff_ne, bne_eq_false_iff_eq, Bool.not_eq_true', Bool.not_eq_false', ne_eq, Int.not_lt, Int.not_le, ge_iff_le, gt_iff_lt] at hb29) <;> first | (refine HL_r rfl rfl rfl rfl (R_move rfl) ?_) | (refine HL_skip rfl rfl rfl ?_))
                        all_goals first
                          | (refine HL_r rfl rfl rfl rfl (R_pickT rfl rfl) ?_)
                          | (refine HL_r rfl rfl rfl rfl (R_pickF rfl rfl) ?_)
                        all_goals refine HL_r rfl rfl rfl rfl (R_move rfl) ?_
                        all_goals first
                          | (refine HL_r rfl rfl rfl rfl (R_move rfl) ?_)
                          | (refine HL_skip rfl rfl rfl ?_)
                          | (refine HL_case 87 rfl (fun hb30 => ?_) (fun hb30 => ?_) <;> (try simp only [decide_eq_true_eq, decide_eq_false_iff_not, beq_iff_eq, beq_eq_false_iff_ne, bne_iff_ne, bne_eq_false_iff_eq, Bool.not_eq_true', Bool.not_eq_false', ne_eq, Int.not_lt, Int.not_le, ge_iff_le, gt_iff_lt] at hb30) <;> first | (refine HL_r rfl rfl rfl rfl (R_move rfl) ?_) | (refine HL_skip rfl rfl rfl ?_))
                        all_goals first
                          | (refine HL_r rfl rfl rfl rfl (R_move rfl) ?_)
                          | (refine HL_skip rfl rfl rfl ?_)
                          | (refine HL_case 87 rfl (fun hb31 => ?_) (fun hb31 => ?_) <;> (try simp only [decide_eq_true_eq, decide_eq_false_iff_not, beq_iff_eq, beq_eq_false_iff_ne, bne_iff_ne, bne_eq_false_iff_eq, Bool.not_eq_true', Bool.not_eq_false', ne_eq, Int.not_lt, Int.not_le, ge_iff_le, gt_iff_lt] at hb31) <;> first | (refine HL_r rfl rfl rfl rfl (R_move rfl) ?_) | (refine HL_skip rfl rfl rfl ?_))
                        all_goals first
                          | (refine HL_r rfl rfl rfl rfl (R_pure rfl rfl rfl) ?_)
                          | (refine HL_skip rfl rfl rfl ?_)
                          | (refine HL_case 87 rfl (fun hb32 => ?_) (fun hb32 => ?_) <;> (try simp only [decide_eq_true_eq, decide_eq_false_iff_not, beq_iff_eq, beq_eq_false_iff_ne, bne_iff_ne, bne_eq_false_iff_eq, Bool.not_eq_true', Bool.not_eq_false', ne_eq, Int.not_lt, Int.not_le, ge_iff_le, gt_iff_lt] at hb32) <;> first | (refine HL_r rfl rfl rfl rfl (R_pure rfl rfl rfl) ?_) | (refine HL_skip rfl rfl rfl ?_))
                        all_goals refine HL_as (int_eq rfl) ?_
                        all_goals first
                          | (refine HL_r rfl rfl rfl rfl (R_pickT rfl rfl) ?_)
                          | (refine HL_r rfl rfl rfl rfl (R_pickF rfl rfl) ?_)
                        all_goals refine HL_r rfl rfl rfl rfl (R_move rfl) ?_
                        all_goals first
                          | (refine HL_r rfl rfl rfl rfl (R_move rfl) ?_)
                          | (refine HL_skip rfl rfl rfl ?_)
                          | (refine HL_case 92 rfl (fun hb33 => ?_) (fun hb33 => ?_) <;> (try simp only [decide_eq_true_eq, decide_eq_false_iff_not, beq_iff_eq, beq_eq_false_iff_ne, bne_iff_ne, bne_eq_false_iff_eq, Bool.not_eq_true', Bool.not_eq_false', ne_eq, Int.not_lt, Int.not_le, ge_iff_le, gt_iff_lt] at hb33) <;> first | (refine HL_r rfl rfl rfl rfl (R_move rfl) ?_) | (refine HL_skip rfl rfl rfl ?_))
                        all_goals first
                          | (refine HL_r rfl rfl rfl rfl (R_move rfl) ?_)
                          | (refine HL_skip rfl rfl rfl ?_)
                          | (refine HL_case 92 rfl (fun hb34 => ?_) (fun hb34 => ?_) <;> (try simp only [decide_eq_true_eq, decide_eq_false_iff_not, beq_iff_eq, beq_eq_false_iff_ne, bne_iff_ne, bne_eq_false_iff_eq, Bool.not_eq_true', Bool.not_eq_false', ne_eq, Int.not_lt, Int.not_le, ge_iff_le, gt_iff_lt] at hb34) <;> first | (refine HL_r rfl rfl rfl rfl (R_move rfl) ?_) | (refine HL_skip rfl rfl rfl ?_))
                        all_goals first
                          | (refine HL_r rfl rfl rfl rfl (R_pure rfl rfl rfl) ?_)
                          | (refine HL_skip rfl rfl rfl ?_)
                          | (refine HL_case 92 rfl (fun hb35 => ?_) (fun hb35 => ?_) <;> (try simp only [decide_eq_true_eq, decide_eq_false_iff_not, beq_iff_eq, beq_eq_false_iff_ne, bne_iff_ne, bne_eq_false_iff_eq, Bool.not_eq_true', Bool.not_eq_false', ne_eq, Int.not_lt, Int.not_le, ge_iff_le, gt_iff_lt] at hb35) <;> first | (refine HL_r rfl rfl rfl rfl (R_pure rfl rfl rfl) ?_) | (refine HL_skip rfl rfl rfl ?_))
                        all_goals refine HL_as (int_eq rfl) ?_
                        all_goals first
                          | (refine HL_r rfl rfl rfl rfl (R_pickT rfl rfl) ?_)
                          | (refine HL_r rfl rfl rfl rfl (R_pickF rfl rfl) ?_)
                        all_goals refine HL_r rfl rfl rfl rfl (R_assign rfl) ?_
                        all_goals refine HL_nil ?_
                        all_goals (
                          refine HQ_then ?_
                          refine hK13 _ _ _ _ ?_; clear hK13 K13
                          refine HC_ret ?_
                          refine HQ_post rfl rfl (.cons (res_tmp rfl) .nil) (fun w1 hs1 => ?_)
                          exact ⟨rfl, hs1.keep⟩
                          skip)
                        skip)
                      skip)
                    skip)
                  skip)
                skip)
              skip)
            skip)
        skip)
      skip)
    skip)
theorem span_ok {k v : Int} (h : okI k v = true) : 0 ≤ loI k v ∧ loI k v ≤ hiI k v ∧ hiI k v ≤ 5 ∧ 1 ≤ k ∧ k ≤ 5 := by
  have h' := h
  unfold loI hiI
  rw [if_pos h, if_pos h]
  unfold okI spanI at h'
  unfold spanI
  by_cases h1 : k = 1
  · subst h1
    by_cases h4 : v = 4 <;> simp [h4]
  by_cases h2 : k = 2
  · subst h2
    by_cases h4 : v = 2
    · simp [h4]
    · simp [h4] at h' ⊢; omega
  by_cases h3 : k = 3
  · subst h3; simp at h' ⊢
    rcases h' with rfl | rfl <;> decide
  by_cases h4 : k = 4
  · subst h4; simp at h' ⊢
    rcases h' with rfl | rfl <;> decide
  by_cases h5 : k = 5
  · subst h5; simp at h' ⊢
    rcases h' with rfl | rfl <;> decide
  simp [h1, h2, h3, h4, h5] at h'
theorem okR_ok {f k v : Int} (h : okI k v = true) : okR f k v = (decide (loI k v ≤ f) && decide (f ≤ hiI k v)) := by
  rw [← okL_eq]; unfold okL; rw [h]; simp
theorem okR_no {f k v : Int} (h : okI k v = false) : okR f k v = false := by
  rw [← okL_eq]; unfold okL; rw [h]; simp
set_option maxRecDepth 10000 in
theorem P_LegalRange0 (f k v : Int) (h : okI k v = false) : Pure Try.prog 4 [.int .i64 f, .int .i64 k, .int .i64 v].toArray (.bool true) := by
  have hR : Pure Try.prog 8 [.int .i64 k, .int .i64 v].toArray (.tuple #[.int .i64 0, .int .i64 0, .int .i64 9]) := by
    have := Q_rng k v; unfold rangeT loI hiI at this; simpa [h] using this
  have hL : Pure Try.prog 16 [.int .i64 f, .int .i64 k, .int .i64 v].toArray (.bool false) := okR_no (f := f) h ▸ Q_leg f k v
  refine pure_of_HC Try.func4 rfl rfl fun w => ?_
  refine HC_seq fun K1 hK1 => ?_
  refine HC_region ?_
  all_goals refine HL_r rfl rfl rfl rfl (R_assign rfl) ?_
  all_goals refine HL_nil ?_
  all_goals (
    refine HQ_then ?_
    refine hK1 _ _ _ _ ?_; clear hK1 K1
    refine HC_seq fun K2 hK2 => ?_
    refine HC_region ?_
    all_goals refine HL_callP rfl rfl rfl (enters_of Try.func7 (by kernel_rfl) rfl) P_works ?_
    all_goals refine HL_r rfl rfl rfl rfl (R_assign rfl) ?_
    all_goals refine HL_nil ?_
    all_goals (
      refine HQ_then ?_
      refine hK2 _ _ _ _ ?_; clear hK2 K2
      refine HC_seq fun K3 hK3 => ?_
      refine HC_seq fun K4 hK4 => ?_
      refine HC_region ?_
      all_goals refine HL_r rfl rfl rfl rfl (R_move rfl) ?_
      all_goals refine HL_r rfl rfl rfl rfl (R_pure rfl rfl rfl) ?_
      all_goals refine HL_nil ?_
      all_goals (
        refine HQ_then ?_
        refine hK4 _ _ _ _ ?_; clear hK4 K4
        refine HC_cond rfl (fun h5 => ?_) (fun h5 => ?_)
        · try exact Bool.noConfusion h5
          all_goals try simp only [decide_eq_true_eq, decide_eq_false_iff_not, beq_iff_eq, beq_eq_false_iff_ne, bne_iff_ne, bne_eq_false_iff_eq, Bool.not_eq_true', Bool.not_eq_false', ne_eq, Int.not_lt, Int.not_le, ge_iff_le, gt_iff_lt] at h5
          all_goals (
            refine HC_seq fun K6 hK6 => ?_
            refine HC_region ?_
            all_goals refine HL_r rfl rfl rfl rfl (R_assign rfl) ?_
            all_goals refine HL_nil ?_
            all_goals (
              refine HQ_then ?_
              refine hK6 _ _ _ _ ?_; clear hK6 K6
              refine HC_ret ?_
              refine HQ_thenR ?_; clear hK3 K3
              refine HQ_post rfl rfl (.cons (res_tmp rfl) .nil) (fun w1 hs1 => ?_)
              exact ⟨rfl, hs1.keep⟩
              skip)
            skip)
        · try exact Bool.noConfusion h5
          all_goals try simp only [decide_eq_true_eq, decide_eq_false_iff_not, beq_iff_eq, beq_eq_false_iff_ne, bne_iff_ne, bne_eq_false_iff_eq, Bool.not_eq_true', Bool.not_eq_false', ne_eq, Int.not_lt, Int.not_le, ge_iff_le, gt_iff_lt] at h5
          all_goals (
            refine HC_skip ?_
            refine HQ_then ?_
            refine hK3 _ _ _ _ ?_; clear hK3 K3
            refine HC_seq fun K7 hK7 => ?_
            refine HC_region ?_
            all_goals refine HL_r rfl rfl rfl rfl (R_move rfl) ?_
            all_goals refine HL_r rfl rfl rfl rfl (R_move rfl) ?_
            all_goals refine HL_callP rfl rfl rfl (enters_of Try.func8 (by kernel_rfl) rfl) hR ?_
            all_goals refine HL_r rfl rfl rfl rfl (R_move rfl) ?_
            all_goals refine HL_r rfl rfl rfl rfl (R_extract rfl rfl) ?_
            all_goals refine HL_r rfl rfl rfl rfl (R_extract rfl rfl) ?_
            all_goals refine HL_r rfl rfl rfl rfl (R_extract rfl rfl) ?_
            all_goals refine HL_r rfl rfl rfl rfl (R_assign rfl) ?_
            all_goals refine HL_r rfl rfl rfl rfl (R_assign rfl) ?_
            all_goals refine HL_r rfl rfl rfl rfl (R_assign rfl) ?_
            all_goals refine HL_nil ?_
            all_goals (
              refine HQ_then ?_
              refine hK7 _ _ _ _ ?_; clear hK7 K7
              refine HC_seq fun K8 hK8 => ?_
              refine HC_region ?_
              all_goals refine HL_r rfl rfl rfl rfl (R_move rfl) ?_
              all_goals refine HL_r rfl rfl rfl rfl (R_move rfl) ?_
              all_goals first
                | (refine HL_r rfl rfl rfl rfl (R_move rfl) ?_)
                | (refine HL_skip rfl rfl rfl ?_)
                | (refine HL_case 22 rfl (fun hb9 => ?_) (fun hb9 => ?_) <;> (try simp only [decide_eq_true_eq, decide_eq_false_iff_not, beq_iff_eq, beq_eq_false_iff_ne, bne_iff_ne, bne_eq_false_iff_eq, Bool.not_eq_true', Bool.not_eq_false', ne_eq, Int.not_lt, Int.not_le, ge_iff_le, gt_iff_lt] at hb9) <;> first | (refine HL_r rfl rfl rfl rfl (R_move rfl) ?_) | (refine HL_skip rfl rfl rfl ?_))
              all_goals first
                | (refine HL_r rfl rfl rfl rfl (R_move rfl) ?_)
                | (refine HL_skip rfl rfl rfl ?_)
                | (refine HL_case 22 rfl (fun hb10 => ?_) (fun hb10 => ?_) <;> (try simp only [decide_eq_true_eq, decide_eq_false_iff_not, beq_iff_eq, beq_eq_false_iff_ne, bne_iff_ne, bne_eq_false_iff_eq, Bool.not_eq_true', Bool.not_eq_false', ne_eq, Int.not_lt, Int.not_le, ge_iff_le, gt_iff_lt] at hb10) <;> first | (refine HL_r rfl rfl rfl rfl (R_move rfl) ?_) | (refine HL_skip rfl rfl rfl ?_))
              all_goals first
                | (refine HL_r rfl rfl rfl rfl (R_move rfl) ?_)
                | (refine HL_skip rfl rfl rfl ?_)
                | (refine HL_case 22 rfl (fun hb11 => ?_) (fun hb11 => ?_) <;> (try simp only [decide_eq_true_eq, decide_eq_false_iff_not, beq_iff_eq, beq_eq_false_iff_ne, bne_iff_ne, bne_eq_false_iff_eq, Bool.not_eq_true', Bool.not_eq_false', ne_eq, Int.not_lt, Int.not_le, ge_iff_le, gt_iff_lt] at hb11) <;> first | (refine HL_r rfl rfl rfl rfl (R_move rfl) ?_) | (refine HL_skip rfl rfl rfl ?_))
              all_goals first
                | (refine HL_callP rfl rfl rfl (enters_of Try.func16 (by kernel_rfl) rfl) hL ?_)
                | (refine HL_skip rfl rfl rfl ?_)
                | (refine HL_case 22 rfl (fun hb12 => ?_) (fun hb12 => ?_) <;> (try simp only [decide_eq_true_eq, decide_eq_false_iff_not, beq_iff_eq, beq_eq_false_iff_ne, bne_iff_ne, bne_eq_false_iff_eq, Bool.not_eq_true', Bool.not_eq_false', ne_eq, Int.not_lt, Int.not_le, ge_iff_le, gt_iff_lt] at hb12) <;> first | (refine HL_callP rfl rfl rfl (enters_of Try.func16 (by kernel_rfl) rfl) hL ?_) | (refine HL_skip rfl rfl rfl ?_))
              all_goals first
                | (refine HL_r rfl rfl rfl rfl (R_move rfl) ?_)
                | (refine HL_skip rfl rfl rfl ?_)
                | (refine HL_case 22 rfl (fun hb13 => ?_) (fun hb13 => ?_) <;> (try simp only [decide_eq_true_eq, decide_eq_false_iff_not, beq_iff_eq, beq_eq_false_iff_ne, bne_iff_ne, bne_eq_false_iff_eq, Bool.not_eq_true', Bool.not_eq_false', ne_eq, Int.not_lt, Int.not_le, ge_iff_le, gt_iff_lt] at hb13) <;> first | (refine HL_r rfl rfl rfl rfl (R_move rfl) ?_) | (refine HL_skip rfl rfl rfl ?_))
              all_goals first
                | (refine HL_r rfl rfl rfl rfl (R_pure rfl rfl rfl) ?_)
                | (refine HL_skip rfl rfl rfl ?_)
                | (refine HL_case 22 rfl (fun hb14 => ?_) (fun hb14 => ?_) <;> (try simp only [decide_eq_true_eq, decide_eq_false_iff_not, beq_iff_eq, beq_eq_false_iff_ne, bne_iff_ne, bne_eq_false_iff_eq, Bool.not_eq_true', Bool.not_eq_false', ne_eq, Int.not_lt, Int.not_le, ge_iff_le, gt_iff_lt] at hb14) <;> first | (refine HL_r rfl rfl rfl rfl (R_pure rfl rfl rfl) ?_) | (refine HL_skip rfl rfl rfl ?_))
              all_goals first
                | (refine HL_r rfl rfl rfl rfl (R_move rfl) ?_)
                | (refine HL_skip rfl rfl rfl ?_)
                | (refine HL_case 22 rfl (fun hb15 => ?_) (fun hb15 => ?_) <;> (try simp only [decide_eq_true_eq, decide_eq_false_iff_not, beq_iff_eq, beq_eq_false_iff_ne, bne_iff_ne, bne_eq_false_iff_eq, Bool.not_eq_true', Bool.not_eq_false', ne_eq, Int.not_lt, Int.not_le, ge_iff_le, gt_iff_lt] at hb15) <;> first | (refine HL_r rfl rfl rfl rfl (R_move rfl) ?_) | (refine HL_skip rfl rfl rfl ?_))
              all_goals first
                | (refine HL_r rfl rfl rfl rfl (R_move rfl) ?_)
                | (refine HL_skip rfl rfl rfl ?_)
                | (refine HL_case 29 rfl (fun hb16 => ?_) (fun hb16 => ?_) <;> (try simp only [decide_eq_true_eq, decide_eq_false_iff_not, beq_iff_eq, beq_eq_false_iff_ne, bne_iff_ne, bne_eq_false_iff_eq, Bool.not_eq_true', Bool.not_eq_false', ne_eq, Int.not_lt, Int.not_le, ge_iff_le, gt_iff_lt] at hb16) <;> first | (refine HL_r rfl rfl rfl rfl (R_move rfl) ?_) | (refine HL_skip rfl rfl rfl ?_))
              all_goals first
                | (refine HL_r rfl rfl rfl rfl (R_move rfl) ?_)
                | (refine HL_skip rfl rfl rfl ?_)
                | (refine HL_case 29 rfl (fun hb17 => ?_) (fun hb17 => ?_) <;> (try simp only [decide_eq_true_eq, decide_eq_false_iff_not, beq_iff_eq, beq_eq_false_iff_ne, bne_iff_ne, bne_eq_false_iff_eq, Bool.not_eq_true', Bool.not_eq_false', ne_eq, Int.not_lt, Int.not_le, ge_iff_le, gt_iff_lt] at hb17) <;> first | (refine HL_r rfl rfl rfl rfl (R_move rfl) ?_) | (refine HL_skip rfl rfl rfl ?_))
              all_goals first
                | (refine HL_r rfl rfl rfl rfl (R_pure rfl rfl rfl) ?_)
                | (refine HL_skip rfl rfl rfl ?_)
                | (refine HL_case 29 rfl (fun hb18 => ?_) (fun hb18 => ?_) <;> (try simp only [decide_eq_true_eq, decide_eq_false_iff_not, beq_iff_eq, beq_eq_false_iff_ne, bne_iff_ne, bne_eq_false_iff_eq, Bool.not_eq_true', Bool.not_eq_false', ne_eq, Int.not_lt, Int.not_le, ge_iff_le, gt_iff_lt] at hb18) <;> first | (refine HL_r rfl rfl rfl rfl (R_pure rfl rfl rfl) ?_) | (refine HL_skip rfl rfl rfl ?_))
              all_goals first
                | (refine HL_r rfl rfl rfl rfl (R_pickT rfl rfl) ?_)
                | (refine HL_r rfl rfl rfl rfl (R_pickF rfl rfl) ?_)
                | (refine HL_skip rfl rfl rfl ?_)
                | (refine HL_case 22 rfl (fun hb19 => ?_) (fun hb19 => ?_) <;> (try simp only [decide_eq_true_eq, decide_eq_false_iff_not, beq_iff_eq, beq_eq_false_iff_ne, bne_iff_ne, bne_eq_false_iff_eq, Bool.not_eq_true', Bool.not_eq_false', ne_eq, Int.not_lt, Int.not_le, ge_iff_le, gt_iff_lt] at hb19) <;> first | (refine HL_r rfl rfl rfl rfl (R_pickT rfl rfl) ?_) | (refine HL_r rfl rfl rfl rfl (R_pickF rfl rfl) ?_) | (refine HL_skip rfl rfl rfl ?_))
              all_goals first
                | (refine HL_r rfl rfl rfl rfl (R_move rfl) ?_)
                | (refine HL_skip rfl rfl rfl ?_)
                | (refine HL_case 22 rfl (fun hb20 => ?_) (fun hb20 => ?_) <;> (try simp only [decide_eq_true_eq, decide_eq_false_iff_not, beq_iff_eq, beq_eq_false_iff_ne, bne_iff_ne, bne_eq_false_iff_eq, Bool.not_eq_true', Bool.not_eq_false', ne_eq, Int.not_lt, Int.not_le, ge_iff_le, gt_iff_lt] at hb20) <;> first | (refine HL_r rfl rfl rfl rfl (R_move rfl) ?_) | (refine HL_skip rfl rfl rfl ?_))
              all_goals first
                | (refine HL_r rfl rfl rfl rfl (R_move rfl) ?_)
                | (refine HL_skip rfl rfl rfl ?_)
                | (refine HL_case 34 rfl (fun hb21 => ?_) (fun hb21 => ?_) <;> (try simp only [decide_eq_true_eq, decide_eq_false_iff_not, beq_iff_eq, beq_eq_false_iff_ne, bne_iff_ne, bne_eq_false_iff_eq, Bool.not_eq_true', Bool.not_eq_false', ne_eq, Int.not_lt, Int.not_le, ge_iff_le, gt_iff_lt] at hb21) <;> first | (refine HL_r rfl rfl rfl rfl (R_move rfl) ?_) | (refine HL_skip rfl rfl rfl ?_))
              all_goals first
                | (refine HL_r rfl rfl rfl rfl (R_move rfl) ?_)
                | (refine HL_skip rfl rfl rfl ?_)
                | (refine HL_case 34 rfl (fun hb22 => ?_) (fun hb22 => ?_) <;> (try simp only [decide_eq_true_eq, decide_eq_false_iff_not, beq_iff_eq, beq_eq_false_iff_ne, bne_iff_ne, bne_eq_false_iff_eq, Bool.not_eq_true', Bool.not_eq_false', ne_eq, Int.not_lt, Int.not_le, ge_iff_le, gt_iff_lt] at hb22) <;> first | (refine HL_r rfl rfl rfl rfl (R_move rfl) ?_) | (refine HL_skip rfl rfl rfl ?_))
              all_goals first
                | (refine HL_r rfl rfl rfl rfl (R_pure rfl rfl rfl) ?_)
                | (refine HL_skip rfl rfl rfl ?_)
                | (refine HL_case 34 rfl (fun hb23 => ?_) (fun hb23 => ?_) <;> (try simp only [decide_eq_true_eq, decide_eq_false_iff_not, beq_iff_eq, beq_eq_false_iff_ne, bne_iff_ne, bne_eq_false_iff_eq, Bool.not_eq_true', Bool.not_eq_false', ne_eq, Int.not_lt, Int.not_le, ge_iff_le, gt_iff_lt] at hb23) <;> first | (refine HL_r rfl rfl rfl rfl (R_pure rfl rfl rfl) ?_) | (refine HL_skip rfl rfl rfl ?_))
              all_goals first
                | (refine HL_r rfl rfl rfl rfl (R_pickT rfl rfl) ?_)
                | (refine HL_r rfl rfl rfl rfl (R_pickF rfl rfl) ?_)
                | (refine HL_skip rfl rfl rfl ?_)
                | (refine HL_case 22 rfl (fun hb24 => ?_) (fun hb24 => ?_) <;> (try simp only [decide_eq_true_eq, decide_eq_false_iff_not, beq_iff_eq, beq_eq_false_iff_ne, bne_iff_ne, bne_eq_false_iff_eq, Bool.not_eq_true', Bool.not_eq_false', ne_eq, Int.not_lt, Int.not_le, ge_iff_le, gt_iff_lt] at hb24) <;> first | (refine HL_r rfl rfl rfl rfl (R_pickT rfl rfl) ?_) | (refine HL_r rfl rfl rfl rfl (R_pickF rfl rfl) ?_) | (refine HL_skip rfl rfl rfl ?_))
              all_goals first
                | (refine HL_r rfl rfl rfl rfl (R_pure rfl rfl rfl) ?_)
                | (refine HL_skip rfl rfl rfl ?_)
                | (refine HL_case 22 rfl (fun hb25 => ?_) (fun hb25 => ?_) <;> (try simp only [decide_eq_true_eq, decide_eq_false_iff_not, beq_iff_eq, beq_eq_false_iff_ne, bne_iff_ne, bne_eq_false_iff_eq, Bool.not_eq_true', Bool.not_eq_false', ne_eq, Int.not_lt, Int.not_le, ge_iff_le, gt_iff_lt] at hb25) <;> first | (refine HL_r rfl rfl rfl rfl (R_pure rfl rfl rfl) ?_) | (refine HL_skip rfl rfl rfl ?_))
              all_goals first
                | (refine HL_r rfl rfl rfl rfl (R_pickT rfl rfl) ?_)
                | (refine HL_r rfl rfl rfl rfl (R_pickF rfl rfl) ?_)
              all_goals refine HL_r rfl rfl rfl rfl (R_move rfl) ?_
              all_goals first
                | (refine HL_r rfl rfl rfl rfl (R_move rfl) ?_)
                | (refine HL_skip rfl rfl rfl ?_)
                | (refine HL_case 41 rfl (fun hb26 => ?_) (fun hb26 => ?_) <;> (try simp only [decide_eq_true_eq, decide_eq_false_iff_not, beq_iff_eq, beq_eq_false_iff_ne, bne_iff_ne, bne_eq_false_iff_eq, Bool.not_eq_true', Bool.not_eq_false', ne_eq, Int.not_lt, Int.not_le, ge_iff_le, gt_iff_lt] at hb26) <;> first | (refine HL_r rfl rfl rfl rfl (R_move rfl) ?_) | (refine HL_skip rfl rfl rfl ?_))
              all_goals first
                | (refine HL_r rfl rfl rfl rfl (R_pure rfl rfl rfl) ?_)
                | (refine HL_skip rfl rfl rfl ?_)
                | (refine HL_case 41 rfl (fun hb27 => ?_) (fun hb27 => ?_) <;> (try simp only [decide_eq_true_eq, decide_eq_false_iff_not, beq_iff_eq, beq_eq_false_iff_ne, bne_iff_ne, bne_eq_false_iff_eq, Bool.not_eq_true', Bool.not_eq_false', ne_eq, Int.not_lt, Int.not_le, ge_iff_le, gt_iff_lt] at hb27) <;> first | (refine HL_r rfl rfl rfl rfl (R_pure rfl rfl rfl) ?_) | (refine HL_skip rfl rfl rfl ?_))
              all_goals first
                | (refine HL_r rfl rfl rfl rfl (R_move rfl) ?_)
                | (refine HL_skip rfl rfl rfl ?_)
                | (refine HL_case 41 rfl (fun hb28 => ?_) (fun hb28 => ?_) <;> (try simp only [decide_eq_true_eq, decide_eq_false_iff_not, beq_iff_eq, beq_eq_false_iff_ne, bne_iff_ne, bne_eq_false_iff_eq, Bool.not_eq_true', Bool.not_eq_false', ne_eq, Int.not_lt, Int.not_le, ge_iff_le, gt_iff_lt] at hb28) <;> first | (refine HL_r rfl rfl rfl rfl (R_move rfl) ?_) | (refine HL_skip rfl rfl rfl ?_))
              all_goals first
                | (refine HL_r rfl rfl rfl rfl (R_move rfl) ?_)
                | (refine HL_skip rfl rfl rfl ?_)
                | (refine HL_case 44 rfl (fun hb29 => ?_) (fun hb29 => ?_) <;> (try simp only [decide_eq_true_eq, decide_eq_false_iff_not, beq_iff_eq, beq_eq_false_iff_ne, bne_iff_ne, bne_eq_false_iff_eq, Bool.not_eq_true', Bool.not_eq_false', ne_eq, Int.not_lt, Int.not_le, ge_iff_le, gt_iff_lt] at hb29) <;> first | (refine HL_r rfl rfl rfl rfl (R_move rfl) ?_) | (refine HL_skip rfl rfl rfl ?_))
              all_goals first
                | (refine HL_r rfl rfl rfl rfl (R_pure rfl rfl rfl) ?_)
                | (refine HL_skip rfl rfl rfl ?_)
                | (refine HL_case 44 rfl (fun hb30 => ?_) (fun hb30 => ?_) <;> (try simp only [decide_eq_true_eq, decide_eq_false_iff_not, beq_iff_eq, beq_eq_false_iff_ne, bne_iff_ne, bne_eq_false_iff_eq, Bool.not_eq_true', Bool.not_eq_false', ne_eq, Int.not_lt, Int.not_le, ge_iff_le, gt_iff_lt] at hb30) <;> first | (refine HL_r rfl rfl rfl rfl (R_pure rfl rfl rfl) ?_) | (refine HL_skip rfl rfl rfl ?_))
              all_goals first
                | (refine HL_r rfl rfl rfl rfl (R_move rfl) ?_)
                | (refine HL_skip rfl rfl rfl ?_)
                | (refine HL_case 44 rfl (fun hb31 => ?_) (fun hb31 => ?_) <;> (try simp only [decide_eq_true_eq, decide_eq_false_iff_not, beq_iff_eq, beq_eq_false_iff_ne, bne_iff_ne, bne_eq_false_iff_eq, Bool.not_eq_true', Bool.not_eq_false', ne_eq, Int.not_lt, Int.not_le, ge_iff_le, gt_iff_lt] at hb31) <;> first | (refine HL_r rfl rfl rfl rfl (R_move rfl) ?_) | (refine HL_skip rfl rfl rfl ?_))
              all_goals first
                | (refine HL_r rfl rfl rfl rfl (R_move rfl) ?_)
                | (refine HL_skip rfl rfl rfl ?_)
                | (refine HL_case 47 rfl (fun hb32 => ?_) (fun hb32 => ?_) <;> (try simp only [decide_eq_true_eq, decide_eq_false_iff_not, beq_iff_eq, beq_eq_false_iff_ne, bne_iff_ne, bne_eq_false_iff_eq, Bool.not_eq_true', Bool.not_eq_false', ne_eq, Int.not_lt, Int.not_le, ge_iff_le, gt_iff_lt] at hb32) <;> first | (refine HL_r rfl rfl rfl rfl (R_move rfl) ?_) | (refine HL_skip rfl rfl rfl ?_))
              all_goals first
                | (refine HL_r rfl rfl rfl rfl (R_move rfl) ?_)
                | (refine HL_skip rfl rfl rfl ?_)
                | (refine HL_case 47 rfl (fun hb33 => ?_) (fun hb33 => ?_) <;> (try simp only [decide_eq_true_eq, decide_eq_false_iff_not, beq_iff_eq, beq_eq_false_iff_ne, bne_iff_ne, bne_eq_false_iff_eq, Bool.not_eq_true', Bool.not_eq_false', ne_eq, Int.not_lt, Int.not_le, ge_iff_le, gt_iff_lt] at hb33) <;> first | (refine HL_r rfl rfl rfl rfl (R_move rfl) ?_) | (refine HL_skip rfl rfl rfl ?_))
              all_goals first
                | (refine HL_r rfl rfl rfl rfl (R_pure rfl rfl rfl) ?_)
                | (refine HL_skip rfl rfl rfl ?_)
                | (refine HL_case 47 rfl (fun hb34 => ?_) (fun hb34 => ?_) <;> (try simp only [decide_eq_true_eq, decide_eq_false_iff_not, beq_iff_eq, beq_eq_false_iff_ne, bne_iff_ne, bne_eq_false_iff_eq, Bool.not_eq_true', Bool.not_eq_false', ne_eq, Int.not_lt, Int.not_le, ge_iff_le, gt_iff_lt] at hb34) <;> first | (refine HL_r rfl rfl rfl rfl (R_pure rfl rfl rfl) ?_) | (refine HL_skip rfl rfl rfl ?_))
              all_goals first
                | (refine HL_r rfl rfl rfl rfl (R_pickT rfl rfl) ?_)
                | (refine HL_r rfl rfl rfl rfl (R_pickF rfl rfl) ?_)
                | (refine HL_skip rfl rfl rfl ?_)
                | (refine HL_case 44 rfl (fun hb35 => ?_) (fun hb35 => ?_) <;> (try simp only [decide_eq_true_eq, decide_eq_false_iff_not, beq_iff_eq, beq_eq_false_iff_ne, bne_iff_ne, bne_eq_false_iff_eq, Bool.not_eq_true', Bool.not_eq_false', ne_eq, Int.not_lt, Int.not_le, ge_iff_le, gt_iff_lt] at hb35) <;> first | (refine HL_r rfl rfl rfl rfl (R_pickT rfl rfl) ?_) | (refine HL_r rfl rfl rfl rfl (R_pickF rfl rfl) ?_) | (refine HL_skip rfl rfl rfl ?_))
              all_goals first
                | (refine HL_r rfl rfl rfl rfl (R_move rfl) ?_)
                | (refine HL_skip rfl rfl rfl ?_)
                | (refine HL_case 44 rfl (fun hb36 => ?_) (fun hb36 => ?_) <;> (try simp only [decide_eq_true_eq, decide_eq_false_iff_not, beq_iff_eq, beq_eq_false_iff_ne, bne_iff_ne, bne_eq_false_iff_eq, Bool.not_eq_true', Bool.not_eq_false', ne_eq, Int.not_lt, Int.not_le, ge_iff_le, gt_iff_lt] at hb36) <;> first | (refine HL_r rfl rfl rfl rfl (R_move rfl) ?_) | (refine HL_skip rfl rfl rfl ?_))
              all_goals first
                | (refine HL_r rfl rfl rfl rfl (R_move rfl) ?_)
                | (refine HL_skip rfl rfl rfl ?_)
                | (refine HL_case 52 rfl (fun hb37 => ?_) (fun hb37 => ?_) <;> (try simp only [decide_eq_true_eq, decide_eq_false_iff_not, beq_iff_eq, beq_eq_false_iff_ne, bne_iff_ne, bne_eq_false_iff_eq, Bool.not_eq_true', Bool.not_eq_false', ne_eq, Int.not_lt, Int.not_le, ge_iff_le, gt_iff_lt] at hb37) <;> first | (refine HL_r rfl rfl rfl rfl (R_move rfl) ?_) | (refine HL_skip rfl rfl rfl ?_))
              all_goals first
                | (refine HL_r rfl rfl rfl rfl (R_pure rfl rfl rfl) ?_)
                | (refine HL_skip rfl rfl rfl ?_)
                | (refine HL_case 52 rfl (fun hb38 => ?_) (fun hb38 => ?_) <;> (try simp only [decide_eq_true_eq, decide_eq_false_iff_not, beq_iff_eq, beq_eq_false_iff_ne, bne_iff_ne, bne_eq_false_iff_eq, Bool.not_eq_true', Bool.not_eq_false', ne_eq, Int.not_lt, Int.not_le, ge_iff_le, gt_iff_lt] at hb38) <;> first | (refine HL_r rfl rfl rfl rfl (R_pure rfl rfl rfl) ?_) | (refine HL_skip rfl rfl rfl ?_))
              all_goals first
                | (refine HL_r rfl rfl rfl rfl (R_pickT rfl rfl) ?_)
                | (refine HL_r rfl rfl rfl rfl (R_pickF rfl rfl) ?_)
                | (refine HL_skip rfl rfl rfl ?_)
                | (refine HL_case 44 rfl (fun hb39 => ?_) (fun hb39 => ?_) <;> (try simp only [decide_eq_true_eq, decide_eq_false_iff_not, beq_iff_eq, beq_eq_false_iff_ne, bne_iff_ne, bne_eq_false_iff_eq, Bool.not_eq_true', Bool.not_eq_false', ne_eq, Int.not_lt, Int.not_le, ge_iff_le, gt_iff_lt] at hb39) <;> first | (refine HL_r rfl rfl rfl rfl (R_pickT rfl rfl) ?_) | (refine HL_r rfl rfl rfl rfl (R_pickF rfl rfl) ?_) | (refine HL_skip rfl rfl rfl ?_))
              all_goals first
                | (refine HL_r rfl rfl rfl rfl (R_pickT rfl rfl) ?_)
                | (refine HL_r rfl rfl rfl rfl (R_pickF rfl rfl) ?_)
                | (refine HL_skip rfl rfl rfl ?_)
                | (refine HL_case 41 rfl (fun hb40 => ?_) (fun hb40 => ?_) <;> (try simp only [decide_eq_true_eq, decide_eq_false_iff_not, beq_iff_eq, beq_eq_false_iff_ne, bne_iff_ne, bne_eq_false_iff_eq, Bool.not_eq_true', Bool.not_eq_false', ne_eq, Int.not_lt, Int.not_le, ge_iff_le, gt_iff_lt] at hb40) <;> first | (refine HL_r rfl rfl rfl rfl (R_pickT rfl rfl) ?_) | (refine HL_r rfl rfl rfl rfl (R_pickF rfl rfl) ?_) | (refine HL_skip rfl rfl rfl ?_))
              all_goals first
                | (refine HL_r rfl rfl rfl rfl (R_pickT rfl rfl) ?_)
                | (refine HL_r rfl rfl rfl rfl (R_pickF rfl rfl) ?_)
              all_goals refine HL_r rfl rfl rfl rfl (R_assign rfl) ?_
              all_goals refine HL_nil ?_
              all_goals (
                refine HQ_then ?_
                refine hK8 _ _ _ _ ?_; clear hK8 K8
                refine HC_ret ?_
                refine HQ_post rfl rfl (.cons (res_tmp rfl) .nil) (fun w1 hs1 => ?_)
                exact ⟨rfl, hs1.keep⟩
                skip)
              skip)
            skip)
        skip)
      skip)
    skip)
set_option maxRecDepth 10000 in
theorem P_LegalRange1 (f k v : Int) (h : okI k v = true) : Pure Try.prog 4 [.int .i64 f, .int .i64 k, .int .i64 v].toArray (.bool true) := by
  have hR : Pure Try.prog 8 [.int .i64 k, .int .i64 v].toArray (.tuple #[.int .i64 (loI k v), .int .i64 (hiI k v), .int .i64 0]) := by
    have := Q_rng k v; unfold rangeT at this; simpa [h] using this
  have hL : Pure Try.prog 16 [.int .i64 f, .int .i64 k, .int .i64 v].toArray (.bool (decide (loI k v ≤ f) && decide (f ≤ hiI k v))) := okR_ok (f := f) h ▸ Q_leg f k v
  obtain ⟨g1, g2, g3, _, _⟩ := span_ok h
  refine pure_of_HC Try.func4 rfl rfl fun w => ?_
  refine HC_seq fun K1 hK1 => ?_
  refine HC_region ?_
  all_goals refine HL_r rfl rfl rfl rfl (R_assign rfl) ?_
  all_goals refine HL_nil ?_
  all_goals (
    refine HQ_then ?_
    refine hK1 _ _ _ _ ?_; clear hK1 K1
    refine HC_seq fun K2 hK2 => ?_
    refine HC_region ?_
    all_goals refine HL_callP rfl rfl rfl (enters_of Try.func7 (by kernel_rfl) rfl) P_works ?_
    all_goals refine HL_r rfl rfl rfl rfl (R_assign rfl) ?_
    all_goals refine HL_nil ?_
    all_goals (
      refine HQ_then ?_
      refine hK2 _ _ _ _ ?_; clear hK2 K2
      refine HC_seq fun K3 hK3 => ?_
      refine HC_seq fun K4 hK4 => ?_
      refine HC_region ?_
      all_goals refine HL_r rfl rfl rfl rfl (R_move rfl) ?_
      all_goals refine HL_r rfl rfl rfl rfl (R_pure rfl rfl rfl) ?_
      all_goals refine HL_nil ?_
      all_goals (
        refine HQ_then ?_
        refine hK4 _ _ _ _ ?_; clear hK4 K4
        refine HC_cond rfl (fun h5 => ?_) (fun h5 => ?_)
        · try exact Bool.noConfusion h5
          all_goals try simp only [decide_eq_true_eq, decide_eq_false_iff_not, beq_iff_eq, beq_eq_false_iff_ne, bne_iff_ne, bne_eq_false_iff_eq, Bool.not_eq_true', Bool.not_eq_false', ne_eq, Int.not_lt, Int.not_le, ge_iff_le, gt_iff_lt] at h5
          all_goals (
            refine HC_seq fun K6 hK6 => ?_
            refine HC_region ?_
            all_goals refine HL_r rfl rfl rfl rfl (R_assign rfl) ?_
            all_goals refine HL_nil ?_
            all_goals (
              refine HQ_then ?_
              refine hK6 _ _ _ _ ?_; clear hK6 K6
              refine HC_ret ?_
              refine HQ_thenR ?_; clear hK3 K3
              refine HQ_post rfl rfl (.cons (res_tmp rfl) .nil) (fun w1 hs1 => ?_)
              exact ⟨rfl, hs1.keep⟩
              skip)
            skip)
        · try exact Bool.noConfusion h5
          all_goals try simp only [decide_eq_true_eq, decide_eq_false_iff_not, beq_iff_eq, beq_eq_false_iff_ne, bne_iff_ne, bne_eq_false_iff_eq, Bool.not_eq_true', Bool.not_eq_false', ne_eq, Int.not_lt, Int.not_le, ge_iff_le, gt_iff_lt] at h5
          all_goals (
            refine HC_skip ?_
            refine HQ_then ?_
            refine hK3 _ _ _ _ ?_; clear hK3 K3
            refine HC_seq fun K7 hK7 => ?_
            refine HC_region ?_
            all_goals refine HL_r rfl rfl rfl rfl (R_move rfl) ?_
            all_goals refine HL_r rfl rfl rfl rfl (R_move rfl) ?_
            all_goals refine HL_callP rfl rfl rfl (enters_of Try.func8 (by kernel_rfl) rfl) hR ?_
            all_goals refine HL_r rfl rfl rfl rfl (R_move rfl) ?_
            all_goals refine HL_r rfl rfl rfl rfl (R_extract rfl rfl) ?_
            all_goals refine HL_r rfl rfl rfl rfl (R_extract rfl rfl) ?_
            all_goals refine HL_r rfl rfl rfl rfl (R_extract rfl rfl) ?_
            all_goals refine HL_r rfl rfl rfl rfl (R_assign rfl) ?_
            all_goals refine HL_r rfl rfl rfl rfl (R_assign rfl) ?_
            all_goals refine HL_r rfl rfl rfl rfl (R_assign rfl) ?_
            all_goals refine HL_nil ?_
            all_goals (
              refine HQ_then ?_
              refine hK7 _ _ _ _ ?_; clear hK7 K7
              refine HC_seq fun K8 hK8 => ?_
              refine HC_region ?_
              all_goals refine HL_r rfl rfl rfl rfl (R_move rfl) ?_
              all_goals refine HL_r rfl rfl rfl rfl (R_move rfl) ?_
              all_goals first
                | (refine HL_r rfl rfl rfl rfl (R_move rfl) ?_)
                | (refine HL_skip rfl rfl rfl ?_)
                | (refine HL_case 22 rfl (fun hb9 => ?_) (fun hb9 => ?_) <;> (try simp only [decide_eq_true_eq, decide_eq_false_iff_not, beq_iff_eq, beq_eq_false_iff_ne, bne_iff_ne, bne_eq_false_iff_eq, Bool.not_eq_true', Bool.not_eq_false', ne_eq, Int.not_lt, Int.not_le, ge_iff_le, gt_iff_lt] at hb9) <;> first | (refine HL_r rfl rfl rfl rfl (R_move rfl) ?_) | (refine HL_skip rfl rfl rfl ?_))
              all_goals first
                | (refine HL_r rfl rfl rfl rfl (R_move rfl) ?_)
                | (refine HL_skip rfl rfl rfl ?_)
                | (refine HL_case 22 rfl (fun hb10 => ?_) (fun hb10 => ?_) <;> (try simp only [decide_eq_true_eq, decide_eq_false_iff_not, beq_iff_eq, beq_eq_false_iff_ne, bne_iff_ne, bne_eq_false_iff_eq, Bool.not_eq_true', Bool.not_eq_false', ne_eq, Int.not_lt, Int.not_le, ge_iff_le, gt_iff_lt] at hb10) <;> first | (refine HL_r rfl rfl rfl rfl (R_move rfl) ?_) | (refine HL_skip rfl rfl rfl ?_))
              all_goals first
                | (refine HL_r rfl rfl rfl rfl (R_move rfl) ?_)
                | (refine HL_skip rfl rfl rfl ?_)
                | (refine HL_case 22 rfl (fun hb11 => ?_) (fun hb11 => ?_) <;> (try simp only [decide_eq_true_eq, decide_eq_false_iff_not, beq_iff_eq, beq_eq_false_iff_ne, bne_iff_ne, bne_eq_false_iff_eq, Bool.not_eq_true', Bool.not_eq_false', ne_eq, Int.not_lt, Int.not_le, ge_iff_le, gt_iff_lt] at hb11) <;> first | (refine HL_r rfl rfl rfl rfl (R_move rfl) ?_) | (refine HL_skip rfl rfl rfl ?_))
              all_goals first
                | (refine HL_callP rfl rfl rfl (enters_of Try.func16 (by kernel_rfl) rfl) hL ?_)
                | (refine HL_skip rfl rfl rfl ?_)
                | (refine HL_case 22 rfl (fun hb12 => ?_) (fun hb12 => ?_) <;> (try simp only [decide_eq_true_eq, decide_eq_false_iff_not, beq_iff_eq, beq_eq_false_iff_ne, bne_iff_ne, bne_eq_false_iff_eq, Bool.not_eq_true', Bool.not_eq_false', ne_eq, Int.not_lt, Int.not_le, ge_iff_le, gt_iff_lt] at hb12) <;> first | (refine HL_callP rfl rfl rfl (enters_of Try.func16 (by kernel_rfl) rfl) hL ?_) | (refine HL_skip rfl rfl rfl ?_))
              all_goals first
                | (refine HL_r rfl rfl rfl rfl (R_move rfl) ?_)
                | (refine HL_skip rfl rfl rfl ?_)
                | (refine HL_case 22 rfl (fun hb13 => ?_) (fun hb13 => ?_) <;> (try simp only [decide_eq_true_eq, decide_eq_false_iff_not, beq_iff_eq, beq_eq_false_iff_ne, bne_iff_ne, bne_eq_false_iff_eq, Bool.not_eq_true', Bool.not_eq_false', ne_eq, Int.not_lt, Int.not_le, ge_iff_le, gt_iff_lt] at hb13) <;> first | (refine HL_r rfl rfl rfl rfl (R_move rfl) ?_) | (refine HL_skip rfl rfl rfl ?_))
              all_goals first
                | (refine HL_r rfl rfl rfl rfl (R_pure rfl rfl rfl) ?_)
                | (refine HL_skip rfl rfl rfl ?_)
                | (refine HL_case 22 rfl (fun hb14 => ?_) (fun hb14 => ?_) <;> (try simp only [decide_eq_true_eq, decide_eq_false_iff_not, beq_iff_eq, beq_eq_false_iff_ne, bne_iff_ne, bne_eq_false_iff_eq, Bool.not_eq_true', Bool.not_eq_false', ne_eq, Int.not_lt, Int.not_le, ge_iff_le, gt_iff_lt] at hb14) <;> first | (refine HL_r rfl rfl rfl rfl (R_pure rfl rfl rfl) ?_) | (refine HL_skip rfl rfl rfl ?_))
              all_goals first
                | (refine HL_r rfl rfl rfl rfl (R_move rfl) ?_)
                | (refine HL_skip rfl rfl rfl ?_)
                | (refine HL_case 22 rfl (fun hb15 => ?_) (fun hb15 => ?_) <;> (try simp only [decide_eq_true_eq, decide_eq_false_iff_not, beq_iff_eq, beq_eq_false_iff_ne, bne_iff_ne, bne_eq_false_iff_eq, Bool.not_eq_true', Bool.not_eq_false', ne_eq, Int.not_lt, Int.not_le, ge_iff_le, gt_iff_lt] at hb15) <;> first | (refine HL_r rfl rfl rfl rfl (R_move rfl) ?_) | (refine HL_skip rfl rfl rfl ?_))
              all_goals first
                | (refine HL_r rfl rfl rfl rfl (R_move rfl) ?_)
                | (refine HL_skip rfl rfl rfl ?_)
                | (refine HL_case 29 rfl (fun hb16 => ?_) (fun hb16 => ?_) <;> (try simp only [decide_eq_true_eq, decide_eq_false_iff_not, beq_iff_eq, beq_eq_false_iff_ne, bne_iff_ne, bne_eq_false_iff_eq, Bool.not_eq_true', Bool.not_eq_false', ne_eq, Int.not_lt, Int.not_le, ge_iff_le, gt_iff_lt] at hb16) <;> first | (refine HL_r rfl rfl rfl rfl (R_move rfl) ?_) | (refine HL_skip rfl rfl rfl ?_))
              all_goals first
                | (refine HL_r rfl rfl rfl rfl (R_move rfl) ?_)
                | (refine HL_skip rfl rfl rfl ?_)
                | (refine HL_case 29 rfl (fun hb17 => ?_) (fun hb17 => ?_) <;> (try simp only [decide_eq_true_eq, decide_eq_false_iff_not, beq_iff_eq, beq_eq_false_iff_ne, bne_iff_ne, bne_eq_false_iff_eq, Bool.not_eq_true', Bool.not_eq_false', ne_eq, Int.not_lt, Int.not_le, ge_iff_le, gt_iff_lt] at hb17) <;> first | (refine HL_r rfl rfl rfl rfl (R_move rfl) ?_) | (refine HL_skip rfl rfl rfl ?_))
              all_goals first
                | (refine HL_r rfl rfl rfl rfl (R_pure rfl rfl rfl) ?_)
                | (refine HL_skip rfl rfl rfl ?_)
                | (refine HL_case 29 rfl (fun hb18 => ?_) (fun hb18 => ?_) <;> (try simp only [decide_eq_true_eq, decide_eq_false_iff_not, beq_iff_eq, beq_eq_false_iff_ne, bne_iff_ne, bne_eq_false_iff_eq, Bool.not_eq_true', Bool.not_eq_false', ne_eq, Int.not_lt, Int.not_le, ge_iff_le, gt_iff_lt] at hb18) <;> first | (refine HL_r rfl rfl rfl rfl (R_pure rfl rfl rfl) ?_) | (refine HL_skip rfl rfl rfl ?_))
              all_goals first
                | (refine HL_r rfl rfl rfl rfl (R_pickT rfl rfl) ?_)
                | (refine HL_r rfl rfl rfl rfl (R_pickF rfl rfl) ?_)
                | (refine HL_skip rfl rfl rfl ?_)
                | (refine HL_case 22 rfl (fun hb19 => ?_) (fun hb19 => ?_) <;> (try simp only [decide_eq_true_eq, decide_eq_false_iff_not, beq_iff_eq, beq_eq_false_iff_ne, bne_iff_ne, bne_eq_false_iff_eq, Bool.not_eq_true', Bool.not_eq_false', ne_eq, Int.not_lt, Int.not_le, ge_iff_le, gt_iff_lt] at hb19) <;> first | (refine HL_r rfl rfl rfl rfl (R_pickT rfl rfl) ?_) | (refine HL_r rfl rfl rfl rfl (R_pickF rfl rfl) ?_) | (refine HL_skip rfl rfl rfl ?_))
              all_goals first
                | (refine HL_r rfl rfl rfl rfl (R_move rfl) ?_)
                | (refine HL_skip rfl rfl rfl ?_)
                | (refine HL_case 22 rfl (fun hb20 => ?_) (fun hb20 => ?_) <;> (try simp only [decide_eq_true_eq, decide_eq_false_iff_not, beq_iff_eq, beq_eq_false_iff_ne, bne_iff_ne, bne_eq_false_iff_eq, Bool.not_eq_true', Bool.not_eq_false', ne_eq, Int.not_lt, Int.not_le, ge_iff_le, gt_iff_lt] at hb20) <;> first | (refine HL_r rfl rfl rfl rfl (R_move rfl) ?_) | (refine HL_skip rfl rfl rfl ?_))
              all_goals first
                | (refine HL_r rfl rfl rfl rfl (R_move rfl) ?_)
                | (refine HL_skip rfl rfl rfl ?_)
                | (refine HL_case 34 rfl (fun hb21 => ?_) (fun hb21 => ?_) <;> (try simp only [decide_eq_true_eq, decide_eq_false_iff_not, beq_iff_eq, beq_eq_false_iff_ne, bne_iff_ne, bne_eq_false_iff_eq, Bool.not_eq_true', Bool.not_eq_false', ne_eq, Int.not_lt, Int.not_le, ge_iff_le, gt_iff_lt] at hb21) <;> first | (refine HL_r rfl rfl rfl rfl (R_move rfl) ?_) | (refine HL_skip rfl rfl rfl ?_))
              all_goals first
                | (refine HL_r rfl rfl rfl rfl (R_move rfl) ?_)
                | (refine HL_skip rfl rfl rfl ?_)
                | (refine HL_case 34 rfl (fun hb22 => ?_) (fun hb22 => ?_) <;> (try simp only [decide_eq_true_eq, decide_eq_false_iff_not, beq_iff_eq, beq_eq_false_iff_ne, bne_iff_ne, bne_eq_false_iff_eq, Bool.not_eq_true', Bool.not_eq_false', ne_eq, Int.not_lt, Int.not_le, ge_iff_le, gt_iff_lt] at hb22) <;> first | (refine HL_r rfl rfl rfl rfl (R_move rfl) ?_) | (refine HL_skip rfl rfl rfl ?_))
              all_goals first
                | (refine HL_r rfl rfl rfl rfl (R_pure rfl rfl rfl) ?_)
                | (refine HL_skip rfl rfl rfl ?_)
                | (refine HL_case 34 rfl (fun hb23 => ?_) (fun hb23 => ?_) <;> (try simp only [decide_eq_true_eq, decide_eq_false_iff_not, beq_iff_eq, beq_eq_false_iff_ne, bne_iff_ne, bne_eq_false_iff_eq, Bool.not_eq_true', Bool.not_eq_false', ne_eq, Int.not_lt, Int.not_le, ge_iff_le, gt_iff_lt] at hb23) <;> first | (refine HL_r rfl rfl rfl rfl (R_pure rfl rfl rfl) ?_) | (refine HL_skip rfl rfl rfl ?_))
              all_goals first
                | (refine HL_r rfl rfl rfl rfl (R_pickT rfl rfl) ?_)
                | (refine HL_r rfl rfl rfl rfl (R_pickF rfl rfl) ?_)
                | (refine HL_skip rfl rfl rfl ?_)
                | (refine HL_case 22 rfl (fun hb24 => ?_) (fun hb24 => ?_) <;> (try simp only [decide_eq_true_eq, decide_eq_false_iff_not, beq_iff_eq, beq_eq_false_iff_ne, bne_iff_ne, bne_eq_false_iff_eq, Bool.not_eq_true', Bool.not_eq_false', ne_eq, Int.not_lt, Int.not_le, ge_iff_le, gt_iff_lt] at hb24) <;> first | (refine HL_r rfl rfl rfl rfl (R_pickT rfl rfl) ?_) | (refine HL_r rfl rfl rfl rfl (R_pickF rfl rfl) ?_) | (refine HL_skip rfl rfl rfl ?_))
              all_goals first
                | (refine HL_r rfl rfl rfl rfl (R_pure rfl rfl rfl) ?_)
                | (refine HL_skip rfl rfl rfl ?_)
                | (refine HL_case 22 rfl (fun hb25 => ?_) (fun hb25 => ?_) <;> (try simp only [decide_eq_true_eq, decide_eq_false_iff_not, beq_iff_eq, beq_eq_false_iff_ne, bne_iff_ne, bne_eq_false_iff_eq, Bool.not_eq_true', Bool.not_eq_false', ne_eq, Int.not_lt, Int.not_le, ge_iff_le, gt_iff_lt] at hb25) <;> first | (refine HL_r rfl rfl rfl rfl (R_pure rfl rfl rfl) ?_) | (refine HL_skip rfl rfl rfl ?_))
              all_goals refine HL_as (bool_eq (by first | (simp_all; done) | (simp_all; omega) | (simp; omega))) ?_
              all_goals first
                | (refine HL_r rfl rfl rfl rfl (R_pickT rfl rfl) ?_)
                | (refine HL_r rfl rfl rfl rfl (R_pickF rfl rfl) ?_)
              all_goals refine HL_r rfl rfl rfl rfl (R_move rfl) ?_
              all_goals first
                | (refine HL_r rfl rfl rfl rfl (R_move rfl) ?_)
                | (refine HL_skip rfl rfl rfl ?_)
                | (refine HL_case 41 rfl (fun hb26 => ?_) (fun hb26 => ?_) <;> (try simp only [decide_eq_true_eq, decide_eq_false_iff_not, beq_iff_eq, beq_eq_false_iff_ne, bne_iff_ne, bne_eq_false_iff_eq, Bool.not_eq_true', Bool.not_eq_false', ne_eq, Int.not_lt, Int.not_le, ge_iff_le, gt_iff_lt] at hb26) <;> first | (refine HL_r rfl rfl rfl rfl (R_move rfl) ?_) | (refine HL_skip rfl rfl rfl ?_))
              all_goals first
                | (refine HL_r rfl rfl rfl rfl (R_pure rfl rfl rfl) ?_)
                | (refine HL_skip rfl rfl rfl ?_)
                | (refine HL_case 41 rfl (fun hb27 => ?_) (fun hb27 => ?_) <;> (try simp only [decide_eq_true_eq, decide_eq_false_iff_not, beq_iff_eq, beq_eq_false_iff_ne, bne_iff_ne, bne_eq_false_iff_eq, Bool.not_eq_true', Bool.not_eq_false', ne_eq, Int.not_lt, Int.not_le, ge_iff_le, gt_iff_lt] at hb27) <;> first | (refine HL_r rfl rfl rfl rfl (R_pure rfl rfl rfl) ?_) | (refine HL_skip rfl rfl rfl ?_))
              all_goals first
                | (refine HL_r rfl rfl rfl rfl (R_move rfl) ?_)
                | (refine HL_skip rfl rfl rfl ?_)
                | (refine HL_case 41 rfl (fun hb28 => ?_) (fun hb28 => ?_) <;> (try simp only [decide_eq_true_eq, decide_eq_false_iff_not, beq_iff_eq, beq_eq_false_iff_ne, bne_iff_ne, bne_eq_false_iff_eq, Bool.not_eq_true', Bool.not_eq_false', ne_eq, Int.not_lt, Int.not_le, ge_iff_le, gt_iff_lt] at hb28) <;> first | (refine HL_r rfl rfl rfl rfl (R_move rfl) ?_) | (refine HL_skip rfl rfl rfl ?_))
              all_goals first
                | (refine HL_r rfl rfl rfl rfl (R_move rfl) ?_)
                | (refine HL_skip rfl rfl rfl ?_)
                | (refine HL_case 44 rfl (fun hb29 => ?_) (fun hb29 => ?_) <;> (try simp only [decide_eq_true_eq, decide_eq_false_iff_not, beq_iff_eq, beq_eq_false_iff_ne, bne_iff_ne, bne_eq_false_iff_eq, Bool.not_eq_true', Bool.not_eq_false', ne_eq, Int.not_lt, Int.not_le, ge_iff_le, gt_iff_lt] at hb29) <;> first | (refine HL_r rfl rfl rfl rfl (R_move rfl) ?_) | (refine HL_skip rfl rfl rfl ?_))
              all_goals first
                | (refine HL_r rfl rfl rfl rfl (R_pure rfl rfl rfl) ?_)
                | (refine HL_skip rfl rfl rfl ?_)
                | (refine HL_case 44 rfl (fun hb30 => ?_) (fun hb30 => ?_) <;> (try simp only [decide_eq_true_eq, decide_eq_false_iff_not, beq_iff_eq, beq_eq_false_iff_ne, bne_iff_ne, bne_eq_false_iff_eq, Bool.not_eq_true', Bool.not_eq_false', ne_eq, Int.not_lt, Int.not_le, ge_iff_le, gt_iff_lt] at hb30) <;> first | (refine HL_r rfl rfl rfl rfl (R_pure rfl rfl rfl) ?_) | (refine HL_skip rfl rfl rfl ?_))
              all_goals refine HL_as (show _ = Value.bool true from by simp; omega) ?_
              all_goals first
                | (refine HL_r rfl rfl rfl rfl (R_move rfl) ?_)
                | (refine HL_skip rfl rfl rfl ?_)
                | (refine HL_case 44 rfl (fun hb31 => ?_) (fun hb31 => ?_) <;> (try simp only [decide_eq_true_eq, decide_eq_false_iff_not, beq_iff_eq, beq_eq_false_iff_ne, bne_iff_ne, bne_eq_false_iff_eq, Bool.not_eq_true', Bool.not_eq_false', ne_eq, Int.not_lt, Int.not_le, ge_iff_le, gt_iff_lt] at hb31) <;> first | (refine HL_r rfl rfl rfl rfl (R_move rfl) ?_) | (refine HL_skip rfl rfl rfl ?_))
              all_goals first
                | (refine HL_r rfl rfl rfl rfl (R_move rfl) ?_)
                | (refine HL_skip rfl rfl rfl ?_)
                | (refine HL_case 47 rfl (fun hb32 => ?_) (fun hb32 => ?_) <;> (try simp only [decide_eq_true_eq, decide_eq_false_iff_not, beq_iff_eq, beq_eq_false_iff_ne, bne_iff_ne, bne_eq_false_iff_eq, Bool.not_eq_true', Bool.not_eq_false', ne_eq, Int.not_lt, Int.not_le, ge_iff_le, gt_iff_lt] at hb32) <;> first | (refine HL_r rfl rfl rfl rfl (R_move rfl) ?_) | (refine HL_skip rfl rfl rfl ?_))
              all_goals first
                | (refine HL_r rfl rfl rfl rfl (R_move rfl) ?_)
                | (refine HL_skip rfl rfl rfl ?_)
                | (refine HL_case 47 rfl (fun hb33 => ?_) (fun hb33 => ?_) <;> (try simp only [decide_eq_true_eq, decide_eq_false_iff_not, beq_iff_eq, beq_eq_false_iff_ne, bne_iff_ne, bne_eq_false_iff_eq, Bool.not_eq_true', Bool.not_eq_false', ne_eq, Int.not_lt, Int.not_le, ge_iff_le, gt_iff_lt] at hb33) <;> first | (refine HL_r rfl rfl rfl rfl (R_move rfl) ?_) | (refine HL_skip rfl rfl rfl ?_))
              all_goals first
                | (refine HL_r rfl rfl rfl rfl (R_pure rfl rfl rfl) ?_)
                | (refine HL_skip rfl rfl rfl ?_)
                | (refine HL_case 47 rfl (fun hb34 => ?_) (fun hb34 => ?_) <;> (try simp only [decide_eq_true_eq, decide_eq_false_iff_not, beq_iff_eq, beq_eq_false_iff_ne, bne_iff_ne, bne_eq_false_iff_eq, Bool.not_eq_true', Bool.not_eq_false', ne_eq, Int.not_lt, Int.not_le, ge_iff_le, gt_iff_lt] at hb34) <;> first | (refine HL_r rfl rfl rfl rfl (R_pure rfl rfl rfl) ?_) | (refine HL_skip rfl rfl rfl ?_))
              all_goals refine HL_as (show _ = Value.bool true from by simp; omega) ?_
              all_goals first
                | (refine HL_r rfl rfl rfl rfl (R_pickT rfl rfl) ?_)
                | (refine HL_r rfl rfl rfl rfl (R_pickF rfl rfl) ?_)
                | (refine HL_skip rfl rfl rfl ?_)
                | (refine HL_case 44 rfl (fun hb35 => ?_) (fun hb35 => ?_) <;> (try simp only [decide_eq_true_eq, decide_eq_false_iff_not, beq_iff_eq, beq_eq_false_iff_ne, bne_iff_ne, bne_eq_false_iff_eq, Bool.not_eq_true', Bool.not_eq_false', ne_eq, Int.not_lt, Int.not_le, ge_iff_le, gt_iff_lt] at hb35) <;> first | (refine HL_r rfl rfl rfl rfl (R_pickT rfl rfl) ?_) | (refine HL_r rfl rfl rfl rfl (R_pickF rfl rfl) ?_) | (refine HL_skip rfl rfl rfl ?_))
              all_goals first
                | (refine HL_r rfl rfl rfl rfl (R_move rfl) ?_)
                | (refine HL_skip rfl rfl rfl ?_)
                | (refine HL_case 44 rfl (fun hb36 => ?_) (fun hb36 => ?_) <;> (try simp only [decide_eq_true_eq, decide_eq_false_iff_not, beq_iff_eq, beq_eq_false_iff_ne, bne_iff_ne, bne_eq_false_iff_eq, Bool.not_eq_true', Bool.not_eq_false', ne_eq, Int.not_lt, Int.not_le, ge_iff_le, gt_iff_lt] at hb36) <;> first | (refine HL_r rfl rfl rfl rfl (R_move rfl) ?_) | (refine HL_skip rfl rfl rfl ?_))
              all_goals first
                | (refine HL_r rfl rfl rfl rfl (R_move rfl) ?_)
                | (refine HL_skip rfl rfl rfl ?_)
                | (refine HL_case 52 rfl (fun hb37 => ?_) (fun hb37 => ?_) <;> (try simp only [decide_eq_true_eq, decide_eq_false_iff_not, beq_iff_eq, beq_eq_false_iff_ne, bne_iff_ne, bne_eq_false_iff_eq, Bool.not_eq_true', Bool.not_eq_false', ne_eq, Int.not_lt, Int.not_le, ge_iff_le, gt_iff_lt] at hb37) <;> first | (refine HL_r rfl rfl rfl rfl (R_move rfl) ?_) | (refine HL_skip rfl rfl rfl ?_))
              all_goals first
                | (refine HL_r rfl rfl rfl rfl (R_pure rfl rfl rfl) ?_)
                | (refine HL_skip rfl rfl rfl ?_)
                | (refine HL_case 52 rfl (fun hb38 => ?_) (fun hb38 => ?_) <;> (try simp only [decide_eq_true_eq, decide_eq_false_iff_not, beq_iff_eq, beq_eq_false_iff_ne, bne_iff_ne, bne_eq_false_iff_eq, Bool.not_eq_true', Bool.not_eq_false', ne_eq, Int.not_lt, Int.not_le, ge_iff_le, gt_iff_lt] at hb38) <;> first | (refine HL_r rfl rfl rfl rfl (R_pure rfl rfl rfl) ?_) | (refine HL_skip rfl rfl rfl ?_))
              all_goals refine HL_as (show _ = Value.bool true from by simp; omega) ?_
              all_goals first
                | (refine HL_r rfl rfl rfl rfl (R_pickT rfl rfl) ?_)
                | (refine HL_r rfl rfl rfl rfl (R_pickF rfl rfl) ?_)
                | (refine HL_skip rfl rfl rfl ?_)
                | (refine HL_case 44 rfl (fun hb39 => ?_) (fun hb39 => ?_) <;> (try simp only [decide_eq_true_eq, decide_eq_false_iff_not, beq_iff_eq, beq_eq_false_iff_ne, bne_iff_ne, bne_eq_false_iff_eq, Bool.not_eq_true', Bool.not_eq_false', ne_eq, Int.not_lt, Int.not_le, ge_iff_le, gt_iff_lt] at hb39) <;> first | (refine HL_r rfl rfl rfl rfl (R_pickT rfl rfl) ?_) | (refine HL_r rfl rfl rfl rfl (R_pickF rfl rfl) ?_) | (refine HL_skip rfl rfl rfl ?_))
              all_goals first
                | (refine HL_r rfl rfl rfl rfl (R_pickT rfl rfl) ?_)
                | (refine HL_r rfl rfl rfl rfl (R_pickF rfl rfl) ?_)
                | (refine HL_skip rfl rfl rfl ?_)
                | (refine HL_case 41 rfl (fun hb40 => ?_) (fun hb40 => ?_) <;> (try simp only [decide_eq_true_eq, decide_eq_false_iff_not, beq_iff_eq, beq_eq_false_iff_ne, bne_iff_ne, bne_eq_false_iff_eq, Bool.not_eq_true', Bool.not_eq_false', ne_eq, Int.not_lt, Int.not_le, ge_iff_le, gt_iff_lt] at hb40) <;> first | (refine HL_r rfl rfl rfl rfl (R_pickT rfl rfl) ?_) | (refine HL_r rfl rfl rfl rfl (R_pickF rfl rfl) ?_) | (refine HL_skip rfl rfl rfl ?_))
              all_goals first
                | (refine HL_r rfl rfl rfl rfl (R_pickT rfl rfl) ?_)
                | (refine HL_r rfl rfl rfl rfl (R_pickF rfl rfl) ?_)
              all_goals refine HL_r rfl rfl rfl rfl (R_assign rfl) ?_
              all_goals refine HL_nil ?_
              all_goals (
                refine HQ_then ?_
                refine hK8 _ _ _ _ ?_; clear hK8 K8
                refine HC_ret ?_
                refine HQ_post rfl rfl (.cons (res_tmp rfl) .nil) (fun w1 hs1 => ?_)
                exact ⟨rfl, hs1.keep⟩
                skip)
              skip)
            skip)
        skip)
      skip)
    skip)
theorem P_LegalRange (f k v : Int) : Pure Try.prog 4 [.int .i64 f, .int .i64 k, .int .i64 v].toArray (.bool true) := by
  cases h : okI k v with
  | false => exact P_LegalRange0 f k v h
  | true => exact P_LegalRange1 f k v h
end Go.Proofs.Ytiamhecfkcgldaa
