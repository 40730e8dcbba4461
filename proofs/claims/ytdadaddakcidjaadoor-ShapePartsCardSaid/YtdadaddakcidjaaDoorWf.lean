import Derived.Test.YtdadaddakcidjaaDoorWe
namespace Go.Proofs.YtdadaddakcidjaaDoor
set_option linter.all false
open Go.SL Go.RowKit Go.Shelf
set_option maxRecDepth 10000 in
theorem P_word_Less {a b : List Nat} (ha : WOk a) (hb : WOk b) : Pure Tryd.prog 52 [wV a, wV b].toArray (.bool (lessB a b)) := by
  refine pure_of_HC Tryd.func52 rfl rfl fun w => ?_
  refine HC_seq fun K1 hK1 => ?_
  refine HC_region ?_
  all_goals refine HL_box (cs := (a.map uV).toArray) rfl rfl rfl rfl fun r1 => ?_
  all_goals refine HL_box (cs := (b.map uV).toArray) rfl rfl rfl rfl fun r2 => ?_
  all_goals refine HL_r rfl rfl rfl rfl (R_assign rfl) ?_
  all_goals refine HL_nil ?_
  all_goals (
    refine HQ_then ?_
    refine hK1 _ _ _ _ ?_; clear hK1 K1
    refine HC_seq fun K2 hK2 => ?_
    refine HC_seq fun K3 hK3 => ?_
    refine HC_region ?_
    all_goals refine HL_r rfl rfl rfl rfl (R_loadArr (xs := a.map uV) (n := 4) rfl (known_L (k := 1) rfl) rfl rfl (by rw [List.length_map, ha.1])) ?_
    all_goals refine HL_r rfl rfl rfl rfl (R_loadArr (xs := b.map uV) (n := 4) rfl (known_L (k := 0) rfl) rfl rfl (by rw [List.length_map, hb.1])) ?_
    all_goals refine HL_r rfl rfl rfl rfl (R_eqArr (xs := a.map uV) (ys := b.map uV) (n := 4) rfl rfl rfl rfl rfl (by kernel_rfl) (by rw [List.length_map, ha.1]) (by rw [List.length_map, hb.1]) (scal_mapU rfl a) (scal_mapU rfl b)) ?_; refine HL_as (congrArg Value.bool (eq_mapU (ha.1.trans hb.1.symm))) ?_
    all_goals refine HL_nil ?_
    all_goals (
      refine HQ_then ?_
      refine hK3 _ _ _ _ ?_; clear hK3 K3
      refine HC_cond rfl (fun h4 => ?_) (fun h4 => ?_)
      · try exact Bool.noConfusion h4
        all_goals try simp only [decide_eq_true_eq, decide_eq_false_iff_not, beq_iff_eq, beq_eq_false_iff_ne, bne_iff_ne, bne_eq_false_iff_eq, Bool.not_eq_true', Bool.not_eq_false', ne_eq, Int.not_lt, Int.not_le, ge_iff_le, gt_iff_lt] at h4
        all_goals (
          refine HC_seq fun K5 hK5 => ?_
          refine HC_region ?_
          all_goals refine HL_r rfl rfl rfl rfl (R_assign rfl) ?_
          all_goals refine HL_nil ?_
          all_goals (
            refine HQ_then ?_
            refine hK5 _ _ _ _ ?_; clear hK5 K5
            refine HC_ret ?_
            refine HQ_thenR ?_; clear hK2 K2
            refine HQ_post rfl rfl (.cons (res_tmp rfl) .nil) (fun w1 hs1 => ?_)
            refine ⟨?_, hs1.keep⟩
            first
              | (have hab : a = b := by assumption
                 unfold lessB; simp [resVal, hab]; done)
              | (have hab : ¬ a = b := by assumption
                 unfold lessB; simp [resVal, hab])
            skip)
          skip)
      · try exact Bool.noConfusion h4
        all_goals try simp only [decide_eq_true_eq, decide_eq_false_iff_not, beq_iff_eq, beq_eq_false_iff_ne, bne_iff_ne, bne_eq_false_iff_eq, Bool.not_eq_true', Bool.not_eq_false', ne_eq, Int.not_lt, Int.not_le, ge_iff_le, gt_iff_lt] at h4
        all_goals (
          refine HC_skip ?_
          refine HQ_then ?_
          refine hK2 _ _ _ _ ?_; clear hK2 K2
          refine HC_seq fun K6 hK6 => ?_
          refine HC_region ?_
          all_goals refine HL_r rfl rfl rfl rfl (R_loadArr (xs := a.map uV) (n := 4) rfl (known_L (k := 1) rfl) rfl rfl (by rw [List.length_map, ha.1])) ?_
          all_goals refine HL_r rfl rfl rfl rfl (R_loadArr (xs := b.map uV) (n := 4) rfl (known_L (k := 0) rfl) rfl rfl (by rw [List.length_map, hb.1])) ?_
          all_goals refine HL_callP rfl rfl rfl (enters_of Tryd.func85 (by kernel_rfl) rfl) (P_word_Sub ha hb) ?_
          all_goals refine HL_r rfl rfl rfl rfl (R_move rfl) ?_
          all_goals refine HL_r rfl rfl rfl rfl (R_extract rfl rfl) ?_
          all_goals refine HL_r rfl rfl rfl rfl (R_extract rfl rfl) ?_
          all_goals refine HL_alloc (cs := (zW.map uV).toArray) rfl rfl rfl rfl fun r3 => ?_
          all_goals refine HL_storeArr (k := 0) (n := 4) (ys := (subR a b).1.map uV) rfl rfl rfl rfl rfl (by rw [List.length_map]; exact crR_len) rfl (mapU_one _) rfl ?_
          all_goals refine HL_r rfl rfl rfl rfl (R_assign rfl) ?_
          all_goals refine HL_nil ?_
          all_goals (
            refine HQ_then ?_
            refine hK6 _ _ _ _ ?_; clear hK6 K6
            refine HC_seq fun K7 hK7 => ?_
            refine HC_region ?_
            all_goals refine HL_r rfl rfl rfl rfl (R_move rfl) ?_
            all_goals refine HL_r rfl rfl rfl rfl (R_pure rfl rfl rfl) ?_
            all_goals refine HL_r rfl rfl rfl rfl (R_assign rfl) ?_
            all_goals refine HL_nil ?_
            all_goals (
              refine HQ_then ?_
              refine hK7 _ _ _ _ ?_; clear hK7 K7
              refine HC_ret ?_
              refine HQ_post rfl rfl (.cons (res_tmp rfl) .nil) (fun w1 hs1 => ?_)
              refine ⟨?_, hs1.keep⟩
              first
                | (have hab : a = b := by assumption
                   unfold lessB; simp [resVal, hab]; done)
                | (have hab : ¬ a = b := by assumption
                   unfold lessB; simp [resVal, hab])
              skip)
            skip)
          skip)
      skip)
    skip)
end Go.Proofs.YtdadaddakcidjaaDoor
