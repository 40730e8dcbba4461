import Derived.Test.YthfinkklgbiaeaaDoorWe
namespace Go.Proofs.YthfinkklgbiaeaaDoor
set_option linter.all false
open Go.SL Go.RowKit Go.Shelf
set_option maxRecDepth 10000 in
theorem P_word_Small {l : List Nat} (hl : WOk l) : Pure Tryd.prog 36 [wV l].toArray (smallV l) := by
  refine pure_of_HC Tryd.func36 rfl rfl fun w => ?_
  refine HC_seq fun K1 hK1 => ?_
  refine HC_region ?_
  all_goals refine HL_box (cs := (l.map uV).toArray) rfl rfl rfl rfl fun r1 => ?_
  all_goals refine HL_r rfl rfl rfl rfl (R_assign rfl) ?_
  all_goals refine HL_r rfl rfl rfl rfl (R_assign rfl) ?_
  all_goals refine HL_nil ?_
  all_goals (
    refine HQ_then ?_
    refine hK1 _ _ _ _ ?_; clear hK1 K1
    refine HC_seq fun K2 hK2 => ?_
    refine HC_seq fun K3 hK3 => ?_
    refine HC_draw 5 (by kernel_rfl) (by kernel_rfl) ?_
    all_goals refine HD_r rfl rfl rfl (R_loadArr (xs := l.map uV) (n := 4) rfl (known_L (k := 0) rfl) rfl rfl (by rw [List.length_map, hl.1])) ?_
    all_goals refine HD_r rfl rfl rfl (R_indexA (j := 0) rfl rfl rfl rfl rfl (by first | decide | omega) (by first | (simp only [Nat.zero_add, Nat.reduceAdd, Nat.reduceMul, Nat.zero_mul, Nat.mul_one, Nat.add_zero]; exact rfl) | exact rfl)) ?_
    all_goals refine HD_r rfl rfl rfl (R_loadAt rfl (known_L (k := 0) rfl) rfl (mapU_get (by rw [hl.1]; omega))) ?_
    all_goals refine HD_callP rfl rfl rfl (enters_of Tryd.func32 (by kernel_rfl) rfl) (P_word_Of (l.getD 0 0)) ?_
    all_goals refine HD_r rfl rfl rfl (R_neArr (xs := l.map uV) (ys := [l.getD 0 0, 0, 0, 0].map uV) (n := 4) rfl rfl rfl rfl rfl (by kernel_rfl) (by rw [List.length_map, hl.1]) rfl (scal_mapU rfl _) (scal_mapU rfl _)) ?_; refine HD_as (show _ = Value.bool (!smallB l) from congrArg (fun z => Value.bool (!z)) (eq_mapU (by rw [hl.1]; rfl))) ?_
    all_goals refine HD_end ?_
    all_goals refine HL_nil ?_
    all_goals (
      refine HQ_then ?_
      refine hK3 _ _ _ _ ?_; clear hK3 K3
      refine HC_cond rfl (fun h4 => ?_) (fun h4 => ?_)
      · try exact Bool.noConfusion h4
        all_goals try simp only [decide_eq_true_eq, decide_eq_false_iff_not, beq_iff_eq, beq_eq_false_iff_ne, bne_iff_ne, bne_eq_false_iff_eq, Bool.not_eq_true', Bool.not_eq_false', ne_eq, Int.not_lt, Int.not_le, ge_iff_le, gt_iff_lt] at h4
        all_goals (
          refine HC_seq fun K5 hK5 => ?_
          refine HC_region ?_
          all_goals refine HL_r rfl rfl rfl rfl (R_assign rfl) ?_
          all_goals refine HL_r rfl rfl rfl rfl (R_assign rfl) ?_
          all_goals refine HL_nil ?_
          all_goals (
            refine HQ_then ?_
            refine hK5 _ _ _ _ ?_; clear hK5 K5
            refine HC_ret ?_
            refine HQ_thenR ?_; clear hK2 K2
            refine HQ_post rfl rfl (.cons (res_tmp rfl) (.cons (res_tmp rfl) .nil)) (fun w1 hs1 => ?_)
            refine ⟨?_, hs1.keep⟩
            first
              | (have hsm : smallB l = true := by assumption
                 unfold smallV; simp [resVal, hsm, uV]; done)
              | (have hsm : smallB l = false := by assumption
                 unfold smallV; simp [resVal, hsm, uV])
            skip)
          skip)
      · try exact Bool.noConfusion h4
        all_goals try simp only [decide_eq_true_eq, decide_eq_false_iff_not, beq_iff_eq, beq_eq_false_iff_ne, bne_iff_ne, bne_eq_false_iff_eq, Bool.not_eq_true', Bool.not_eq_false', ne_eq, Int.not_lt, Int.not_le, ge_iff_le, gt_iff_lt] at h4
        all_goals (
          refine HC_skip ?_
          refine HQ_then ?_
          refine hK2 _ _ _ _ ?_; clear hK2 K2
          refine HC_seq fun K6 hK6 => ?_
          refine HC_region ?_
          all_goals refine HL_r rfl rfl rfl rfl (R_indexA (j := 0) rfl rfl rfl rfl rfl (by first | decide | omega) (by first | (simp only [Nat.zero_add, Nat.reduceAdd, Nat.reduceMul, Nat.zero_mul, Nat.mul_one, Nat.add_zero]; exact rfl) | exact rfl)) ?_
          all_goals refine HL_r rfl rfl rfl rfl (R_loadAt rfl (known_L (k := 0) rfl) rfl (mapU_get (by rw [hl.1]; omega))) ?_
          all_goals refine HL_r rfl rfl rfl rfl (R_assign rfl) ?_
          all_goals refine HL_r rfl rfl rfl rfl (R_assign rfl) ?_
          all_goals refine HL_nil ?_
          all_goals (
            refine HQ_then ?_
            refine hK6 _ _ _ _ ?_; clear hK6 K6
            refine HC_ret ?_
            refine HQ_post rfl rfl (.cons (res_tmp rfl) (.cons (res_tmp rfl) .nil)) (fun w1 hs1 => ?_)
            refine ⟨?_, hs1.keep⟩
            first
              | (have hsm : smallB l = true := by assumption
                 unfold smallV; simp [resVal, hsm, uV]; done)
              | (have hsm : smallB l = false := by assumption
                 unfold smallV; simp [resVal, hsm, uV])
            skip)
          skip)
      skip)
    skip)
end Go.Proofs.YthfinkklgbiaeaaDoor
