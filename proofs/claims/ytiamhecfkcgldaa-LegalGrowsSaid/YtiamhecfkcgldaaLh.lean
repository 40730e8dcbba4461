import Derived.Test.YtiamhecfkcgldaaLg
namespace Go.Proofs.Ytiamhecfkcgldaa
set_option linter.all false
open Go.SL Go.RowKit Go.Shelf
theorem take_step {xs ys : List Int} {j : Nat} (hx : j < xs.length) (hy : j < ys.length) (h : xs.take j = ys.take j) (he : xs.getD j 0 = ys.getD j 0) : xs.take (j + 1) = ys.take (j + 1) := by
  rw [List.take_add_one, List.take_add_one, h]
  simp only [List.getD_eq_getElem?_getD, hx, hy, List.getElem?_eq_getElem, Option.getD_some] at he
  simp [hx, hy, he]
set_option maxRecDepth 10000 in
theorem R_Ints (xs ys : List Int) (rx ry : Row) (hx : rowOk 1 xs.length (xs.map (Value.int .i64)) rx) (hy : rowOk 1 ys.length (ys.map (Value.int .i64)) ry) (hlx : xs.length ≤ 4611686018427387903) :
    PureR Try.prog 11 [rowV xs.length rx, rowV ys.length ry].toArray (.bool (decide (xs = ys))) (rowL 3 (xs.map (Value.int .i64)) rx ++ rowL 3 (ys.map (Value.int .i64)) ry) := by
  refine pureR_of_HC Try.func11 rfl rfl fun w => ?_
  refine HC_seq fun K1 hK1 => ?_
  refine HC_region ?_
  all_goals refine HL_r rfl rfl rfl rfl (R_assign rfl) ?_
  all_goals refine HL_nil ?_
  all_goals (
    refine HQ_then ?_
    refine hK1 _ _ _ _ ?_; clear hK1 K1
    refine HC_seq fun K2 hK2 => ?_
    refine HC_seq fun K3 hK3 => ?_
    refine HC_region ?_
    all_goals refine HL_r rfl rfl rfl rfl (R_move rfl) ?_
    all_goals refine HL_r rfl rfl rfl rfl (R_lenRow (n := xs.length) (row := rx) rfl hx.zero rfl) ?_
    all_goals refine HL_r rfl rfl rfl rfl (R_move rfl) ?_
    all_goals refine HL_r rfl rfl rfl rfl (R_lenRow (n := ys.length) (row := ry) rfl hy.zero rfl) ?_
    all_goals refine HL_r rfl rfl rfl rfl (R_pure rfl rfl rfl) ?_
    all_goals refine HL_nil ?_
    all_goals (
      refine HQ_then ?_
      refine hK3 _ _ _ _ ?_; clear hK3 K3
      refine HC_cond rfl (fun h4 => ?_) (fun h4 => ?_)
      · try exact Bool.noConfusion h4
        all_goals try simp only [decide_eq_true_eq, decide_eq_false_iff_not, beq_iff_eq, beq_eq_false_iff_ne, bne_iff_ne, bne_eq_false_iff_eq, Bool.not_eq_true', Bool.not_eq_false', ne_eq, Int.not_lt, Int.not_le, ge_iff_le, gt_iff_lt] at h4
        all_goals (
          refine HC_seq fun K5 hK5 => ?_
          refine HC_region ?_
          all_goals refine HL_r rfl rfl rfl rfl (R_assign rfl) ?_
          all_goals refine HL_nil ?_
          all_goals (
            refine HQ_then ?_
            refine hK5 _ _ _ _ ?_; clear hK5 K5
            refine HC_ret ?_
            refine HQ_thenR ?_; clear hK2 K2
            refine HQ_post rfl rfl (.cons (res_tmp rfl) .nil) (fun w1 hs1 => ?_)
            refine ⟨?_, hs1.keep⟩
            first
              | (have hne : xs ≠ ys := fun h => by subst h; simp_all
                 simp [resVal, hne]; done)
              | (have he : xs = ys := by
                   rw [List.take_of_length_le (by omega), List.take_of_length_le (by omega)] at htk; exact htk
                 simp [resVal, he])
            skip)
          skip)
      · try exact Bool.noConfusion h4
        all_goals try simp only [decide_eq_true_eq, decide_eq_false_iff_not, beq_iff_eq, beq_eq_false_iff_ne, bne_iff_ne, bne_eq_false_iff_eq, Bool.not_eq_true', Bool.not_eq_false', ne_eq, Int.not_lt, Int.not_le, ge_iff_le, gt_iff_lt] at h4
        all_goals (
          refine HC_skip ?_
          refine HQ_then ?_
          refine hK2 _ _ _ _ ?_; clear hK2 K2
          refine HC_seq fun K6 hK6 => ?_
          refine HC_seq fun K7 hK7 => ?_
          refine HC_region ?_
          all_goals refine HL_r rfl rfl rfl rfl (R_assign rfl) ?_
          all_goals refine HL_nil ?_
          all_goals (
            refine HQ_then ?_
            refine hK7 _ _ _ _ ?_; clear hK7 K7
            refine HC_block ?_
            refine HC_loop (σ := Nat) (fun j => j ≤ xs.length ∧ xs.take j = ys.take j) (fun j => [(0, rowV xs.length rx), (1, rowV ys.length ry), (5, .int .i64 (j : Int))]) (fun _ => []) (fun _ _ _ => True) (fun j => xs.length - j) 0 ⟨by omega, rfl⟩ (.cons rfl (.cons rfl (.cons rfl .nil))) (List.nil_sublist _) (fun _ _ h => h) ?_
            rintro j ⟨hj, htk⟩
            refine HC_seq fun K8 hK8 => ?_
            refine HC_seq fun K9 hK9 => ?_
            refine HC_region ?_
            all_goals refine HL_r rfl rfl rfl rfl (R_move rfl) ?_
            all_goals refine HL_r rfl rfl rfl rfl (R_move rfl) ?_
            all_goals refine HL_r rfl rfl rfl rfl (R_lenRow (n := xs.length) (row := rx) rfl hx.zero rfl) ?_
            all_goals refine HL_r rfl rfl rfl rfl (R_pure rfl rfl rfl) ?_
            all_goals refine HL_nil ?_
            all_goals (
              refine HQ_then ?_
              refine hK9 _ _ _ _ ?_; clear hK9 K9
              refine HC_cond rfl (fun h10 => ?_) (fun h10 => ?_)
              · try exact Bool.noConfusion h10
                all_goals try simp only [decide_eq_true_eq, decide_eq_false_iff_not, beq_iff_eq, beq_eq_false_iff_ne, bne_iff_ne, bne_eq_false_iff_eq, Bool.not_eq_true', Bool.not_eq_false', ne_eq, Int.not_lt, Int.not_le, ge_iff_le, gt_iff_lt] at h10
                all_goals (
                  refine HC_skip ?_
                  refine HQ_then ?_
                  refine hK8 _ _ _ _ ?_; clear hK8 K8
                  refine HC_seq fun K11 hK11 => ?_
                  refine HC_block ?_
                  refine HC_seq fun K12 hK12 => ?_
                  refine HC_draw 9 (by kernel_rfl) (by kernel_rfl) ?_
                  all_goals refine HD_r rfl rfl rfl (R_move rfl) ?_
                  all_goals refine HD_r rfl rfl rfl (R_move rfl) ?_
                  all_goals refine HD_r rfl rfl rfl (R_indexRow (m := 1) (n := xs.length) (row := rx) (off' := j) rfl hx rfl rfl rfl rfl (by omega) (by omega)) ?_
                  all_goals refine HD_r rfl rfl rfl (R_loadRow (row := rx) rfl hx (fun p hp => .inr (List.mem_append_left _ hp)) rfl (map_get (by omega))) ?_
                  all_goals refine HD_r rfl rfl rfl (R_move rfl) ?_
                  all_goals refine HD_r rfl rfl rfl (R_move rfl) ?_
                  all_goals refine HD_r rfl rfl rfl (R_indexRow (m := 1) (n := ys.length) (row := ry) (off' := j) rfl hy rfl rfl rfl rfl (by omega) (by omega)) ?_
                  all_goals refine HD_r rfl rfl rfl (R_loadRow (row := ry) rfl hy (fun p hp => .inr (List.mem_append_right _ hp)) rfl (map_get (by omega))) ?_
                  all_goals refine HD_r rfl rfl rfl (R_pure rfl rfl rfl) ?_
                  all_goals refine HD_end ?_
                  all_goals refine HL_nil ?_
                  all_goals (
                    refine HQ_then ?_
                    refine hK12 _ _ _ _ ?_; clear hK12 K12
                    refine HC_cond rfl (fun h13 => ?_) (fun h13 => ?_)
                    · try exact Bool.noConfusion h13
                      all_goals try simp only [decide_eq_true_eq, decide_eq_false_iff_not, beq_iff_eq, beq_eq_false_iff_ne, bne_iff_ne, bne_eq_false_iff_eq, Bool.not_eq_true', Bool.not_eq_false', ne_eq, Int.not_lt, Int.not_le, ge_iff_le, gt_iff_lt] at h13
                      all_goals (
                        refine HC_seq fun K14 hK14 => ?_
                        refine HC_region ?_
                        all_goals refine HL_r rfl rfl rfl rfl (R_assign rfl) ?_
                        all_goals refine HL_nil ?_
                        all_goals (
                          refine HQ_then ?_
                          refine hK14 _ _ _ _ ?_; clear hK14 K14
                          refine HC_ret ?_
                          refine HQ_blockR ?_
                          refine HQ_thenR ?_; clear hK11 K11
                          refine HQ_thenR ?_
                          refine HQ_blockR ?_
                          refine HQ_thenR ?_; clear hK6 K6
                          refine HQ_post rfl rfl (.cons (res_tmp rfl) .nil) (fun w1 hs1 => ?_)
                          refine ⟨?_, hs1.keep⟩
                          first
                            | (have hne : xs ≠ ys := fun h => by subst h; simp_all
                               simp [resVal, hne]; done)
                            | (have he : xs = ys := by
                                 rw [List.take_of_length_le (by omega), List.take_of_length_le (by omega)] at htk; exact htk
                               simp [resVal, he])
                          skip)
                        skip)
                    · try exact Bool.noConfusion h13
                      all_goals try simp only [decide_eq_true_eq, decide_eq_false_iff_not, beq_iff_eq, beq_eq_false_iff_ne, bne_iff_ne, bne_eq_false_iff_eq, Bool.not_eq_true', Bool.not_eq_false', ne_eq, Int.not_lt, Int.not_le, ge_iff_le, gt_iff_lt] at h13
                      all_goals (
                        refine HC_skip ?_
                        refine HQ_blockN ?_
                        refine HQ_then ?_
                        refine hK11 _ _ _ _ ?_; clear hK11 K11
                        refine HC_region ?_
                        all_goals refine HL_r rfl rfl rfl rfl (R_move rfl) ?_
                        all_goals first
                          | (refine HL_r rfl rfl rfl rfl (R_pure rfl rfl rfl) ?_; refine HL_wrap_i64 (by omega) (by omega) ?_)
                          | (refine HL_r rfl rfl rfl rfl (R_pure rfl rfl rfl) ?_)
                        all_goals refine HL_r rfl rfl rfl rfl (R_assign rfl) ?_
                        all_goals refine HL_nil ?_
                        all_goals (
                          refine HQ_then ?_
                          exact HQ_again (j + 1) ⟨by omega, take_step (by omega) (by omega) htk (by assumption)⟩ (by omega) (.cons rfl (.cons rfl (.cons rfl .nil))) (List.nil_sublist _) (fun _ _ h => h)
                          skip)
                        skip)
                    skip)
                  skip)
              · try exact Bool.noConfusion h10
                all_goals try simp only [decide_eq_true_eq, decide_eq_false_iff_not, beq_iff_eq, beq_eq_false_iff_ne, bne_iff_ne, bne_eq_false_iff_eq, Bool.not_eq_true', Bool.not_eq_false', ne_eq, Int.not_lt, Int.not_le, ge_iff_le, gt_iff_lt] at h10
                all_goals (
                  refine HC_exit ?_
                  refine HQ_thenE ?_; clear hK8 K8
                  refine HQ_thenE ?_
                  refine HQ_blockE ?_
                  refine HQ_then ?_
                  refine hK6 _ _ _ _ ?_; clear hK6 K6
                  refine HC_seq fun K15 hK15 => ?_
                  refine HC_region ?_
                  all_goals refine HL_r rfl rfl rfl rfl (R_assign rfl) ?_
                  all_goals refine HL_nil ?_
                  all_goals (
                    refine HQ_then ?_
                    refine hK15 _ _ _ _ ?_; clear hK15 K15
                    refine HC_ret ?_
                    refine HQ_post rfl rfl (.cons (res_tmp rfl) .nil) (fun w1 hs1 => ?_)
                    refine ⟨?_, hs1.keep⟩
                    first
                      | (have hne : xs ≠ ys := fun h => by subst h; simp_all
                         simp [resVal, hne]; done)
                      | (have he : xs = ys := by
                           rw [List.take_of_length_le (by omega), List.take_of_length_le (by omega)] at htk; exact htk
                         simp [resVal, he])
                    skip)
                  skip)
              skip)
            skip)
          skip)
      skip)
    skip)
end Go.Proofs.Ytiamhecfkcgldaa
