import Derived.Test.YtpognifhchikgaaDoorWj
namespace Go.Proofs.YtpognifhchikgaaDoor
set_option linter.all false
open Go.SL Go.RowKit Go.Shelf
theorem pre_zero {s : List UInt8} : Lib.hasPrefix s [0] = true ↔ 0 < s.length ∧ ((s.getD 0 0).toNat : Int) = 0 := by
  cases s with
  | nil => simp [Lib.hasPrefix]
  | cons x s =>
    have : (x = 0) ↔ x.toNat = 0 := ⟨fun h => by rw [h]; rfl, fun h => UInt8.toNat_inj.1 h⟩
    simp only [Lib.hasPrefix, List.isPrefixOf, Bool.and_true, beq_iff_eq, List.length_cons, List.getD_cons_zero]
    constructor
    · intro h; exact ⟨by omega, by rw [← h]; rfl⟩
    · rintro ⟨_, h⟩; exact (this.2 (by omega)).symm
set_option maxRecDepth 10000 in
theorem P_ref_Parse (s : List UInt8) : Pure Tryd.prog 23 [.string (bs s)].toArray (resW (parseR s)) := by
  refine pure_of_HC Tryd.func23 rfl rfl fun w => ?_
  refine HC_seq fun K1 hK1 => ?_
  refine HC_region ?_
  all_goals refine HL_alloc (cs := #[_, _, _, _]) rfl rfl rfl rfl fun r1 => ?_
  all_goals refine HL_r rfl rfl rfl rfl (R_assign rfl) ?_
  all_goals refine HL_nil ?_
  all_goals (
    refine HQ_then ?_
    refine hK1 _ _ _ _ ?_; clear hK1 K1
    refine HC_seq fun K2 hK2 => ?_
    refine HC_seq fun K3 hK3 => ?_
    refine HC_region ?_
    all_goals refine HL_r rfl rfl rfl rfl (R_move rfl) ?_
    all_goals first
      | (refine HL_r rfl rfl rfl rfl (R_lenBs rfl rfl) ?_)
      | (refine HL_r rfl rfl rfl rfl (R_lenSl rfl rfl) ?_)
      | (refine HL_r rfl rfl rfl rfl (R_lenStr rfl rfl rfl) ?_)
      | (refine HL_r rfl rfl rfl rfl (R_pure rfl rfl rfl) ?_)
    all_goals refine HL_r rfl rfl rfl rfl (R_pure rfl rfl rfl) ?_
    all_goals refine HL_nil ?_
    all_goals (
      refine HQ_then ?_
      refine hK3 _ _ _ _ ?_; clear hK3 K3
      refine HC_cond rfl (fun h4 => ?_) (fun h4 => ?_)
      · try exact Bool.noConfusion h4
        all_goals try simp only [decide_eq_true_eq, decide_eq_false_iff_not, beq_iff_eq, beq_eq_false_iff_ne, bne_iff_ne, bne_eq_false_iff_eq, Bool.not_eq_true', Bool.not_eq_false', ne_eq, Int.not_lt, Int.not_le, ge_iff_le, gt_iff_lt] at h4
        all_goals (
          refine HC_seq fun K5 hK5 => ?_
          refine HC_region ?_
          all_goals refine HL_r rfl rfl rfl rfl (R_build (r := [_, _, _, _]) rfl rfl) ?_
          all_goals first
            | (refine HL_storeA (k := 0) (n := 4) (cs' := #[_, _, _, _]) (vs := #[_, _, _, _]) rfl rfl rfl rfl rfl rfl rfl (by exact Nat.le_of_ble_eq_true rfl) rfl (by first | (simp only [List.set_cons_zero, List.set_cons_succ]; exact rfl) | exact rfl) ?_)
            | (refine HL_storeA (k := 1) (n := 4) (cs' := #[_, _, _, _]) (vs := #[_, _, _, _]) rfl rfl rfl rfl rfl rfl rfl (by exact Nat.le_of_ble_eq_true rfl) rfl (by first | (simp only [List.set_cons_zero, List.set_cons_succ]; exact rfl) | exact rfl) ?_)
            | (refine HL_storeA (k := 2) (n := 4) (cs' := #[_, _, _, _]) (vs := #[_, _, _, _]) rfl rfl rfl rfl rfl rfl rfl (by exact Nat.le_of_ble_eq_true rfl) rfl (by first | (simp only [List.set_cons_zero, List.set_cons_succ]; exact rfl) | exact rfl) ?_)
            | (refine HL_storeA (k := 3) (n := 4) (cs' := #[_, _, _, _]) (vs := #[_, _, _, _]) rfl rfl rfl rfl rfl rfl rfl (by exact Nat.le_of_ble_eq_true rfl) rfl (by first | (simp only [List.set_cons_zero, List.set_cons_succ]; exact rfl) | exact rfl) ?_)
            | (refine HL_storeA (k := 4) (n := 4) (cs' := #[_, _, _, _]) (vs := #[_, _, _, _]) rfl rfl rfl rfl rfl rfl rfl (by exact Nat.le_of_ble_eq_true rfl) rfl (by first | (simp only [List.set_cons_zero, List.set_cons_succ]; exact rfl) | exact rfl) ?_)
            | (refine HL_storeA (k := 5) (n := 4) (cs' := #[_, _, _, _]) (vs := #[_, _, _, _]) rfl rfl rfl rfl rfl rfl rfl (by exact Nat.le_of_ble_eq_true rfl) rfl (by first | (simp only [List.set_cons_zero, List.set_cons_succ]; exact rfl) | exact rfl) ?_)
            | (refine HL_storeA (k := 0) (n := 4) (vs := #[_, _, _, _]) rfl rfl rfl rfl rfl rfl rfl (by exact Nat.le_of_ble_eq_true rfl) (by first | (simp only [List.take_zero, List.nil_append, Array.toList_toArray, List.drop_succ_cons, List.drop_zero, List.take_succ_cons, List.cons_append, Nat.zero_add, Nat.reduceAdd, List.append_nil, List.drop_nil]; exact rfl) | exact rfl) (by first | (simp only [List.set_cons_zero, List.set_cons_succ]; exact rfl) | exact rfl) ?_)
            | (refine HL_storeA (k := 1) (n := 4) (vs := #[_, _, _, _]) rfl rfl rfl rfl rfl rfl rfl (by exact Nat.le_of_ble_eq_true rfl) (by first | (simp only [List.take_zero, List.nil_append, Array.toList_toArray, List.drop_succ_cons, List.drop_zero, List.take_succ_cons, List.cons_append, Nat.zero_add, Nat.reduceAdd, List.append_nil, List.drop_nil]; exact rfl) | exact rfl) (by first | (simp only [List.set_cons_zero, List.set_cons_succ]; exact rfl) | exact rfl) ?_)
            | (refine HL_storeA (k := 2) (n := 4) (vs := #[_, _, _, _]) rfl rfl rfl rfl rfl rfl rfl (by exact Nat.le_of_ble_eq_true rfl) (by first | (simp only [List.take_zero, List.nil_append, Array.toList_toArray, List.drop_succ_cons, List.drop_zero, List.take_succ_cons, List.cons_append, Nat.zero_add, Nat.reduceAdd, List.append_nil, List.drop_nil]; exact rfl) | exact rfl) (by first | (simp only [List.set_cons_zero, List.set_cons_succ]; exact rfl) | exact rfl) ?_)
            | (refine HL_storeA (k := 3) (n := 4) (vs := #[_, _, _, _]) rfl rfl rfl rfl rfl rfl rfl (by exact Nat.le_of_ble_eq_true rfl) (by first | (simp only [List.take_zero, List.nil_append, Array.toList_toArray, List.drop_succ_cons, List.drop_zero, List.take_succ_cons, List.cons_append, Nat.zero_add, Nat.reduceAdd, List.append_nil, List.drop_nil]; exact rfl) | exact rfl) (by first | (simp only [List.set_cons_zero, List.set_cons_succ]; exact rfl) | exact rfl) ?_)
            | (refine HL_storeA (k := 4) (n := 4) (vs := #[_, _, _, _]) rfl rfl rfl rfl rfl rfl rfl (by exact Nat.le_of_ble_eq_true rfl) (by first | (simp only [List.take_zero, List.nil_append, Array.toList_toArray, List.drop_succ_cons, List.drop_zero, List.take_succ_cons, List.cons_append, Nat.zero_add, Nat.reduceAdd, List.append_nil, List.drop_nil]; exact rfl) | exact rfl) (by first | (simp only [List.set_cons_zero, List.set_cons_succ]; exact rfl) | exact rfl) ?_)
            | (refine HL_storeA (k := 5) (n := 4) (vs := #[_, _, _, _]) rfl rfl rfl rfl rfl rfl rfl (by exact Nat.le_of_ble_eq_true rfl) (by first | (simp only [List.take_zero, List.nil_append, Array.toList_toArray, List.drop_succ_cons, List.drop_zero, List.take_succ_cons, List.cons_append, Nat.zero_add, Nat.reduceAdd, List.append_nil, List.drop_nil]; exact rfl) | exact rfl) (by first | (simp only [List.set_cons_zero, List.set_cons_succ]; exact rfl) | exact rfl) ?_)
          all_goals refine HL_r rfl rfl rfl rfl (R_assign rfl) ?_
          all_goals refine HL_nil ?_
          all_goals (
            refine HQ_then ?_
            refine hK5 _ _ _ _ ?_; clear hK5 K5
            refine HC_ret ?_
            refine HQ_thenR ?_; clear hK2 K2
            first
              | refine HQ_post rfl rfl (.cons (res_cellA (vs := [_, _, _, _]) rfl (known_L (k := 0) rfl) rfl rfl) (.cons (res_tmp rfl) .nil)) (fun w1 hs1 => ?_)
              | refine HQ_post rfl rfl (.cons (res_cellA (vs := [_, _, _, _]) rfl (known_L (k := 1) rfl) rfl rfl) (.cons (res_tmp rfl) .nil)) (fun w1 hs1 => ?_)
              | refine HQ_post rfl rfl (.cons (res_cellA (vs := [_, _, _, _]) rfl (known_L (k := 2) rfl) rfl rfl) (.cons (res_tmp rfl) .nil)) (fun w1 hs1 => ?_)
              | refine HQ_post rfl rfl (.cons (res_cellA (vs := [_, _, _, _]) rfl (known_L (k := 3) rfl) rfl rfl) (.cons (res_tmp rfl) .nil)) (fun w1 hs1 => ?_)
              | refine HQ_post rfl rfl (.cons (res_cellA (vs := [_, _, _, _]) rfl (known_L (k := 4) rfl) rfl rfl) (.cons (res_tmp rfl) .nil)) (fun w1 hs1 => ?_)
              | refine HQ_post rfl rfl (.cons (res_cellA (vs := [_, _, _, _]) rfl (known_L (k := 5) rfl) rfl rfl) (.cons (res_tmp rfl) .nil)) (fun w1 hs1 => ?_)
            refine ⟨?_, hs1.keep⟩
            first
              | (rw [show parseR s = (zW, 5) from by unfold parseR; rw [if_pos (by omega)]]; rfl)
              | (rw [show parseR s = (zW, 8) from by unfold parseR; rw [if_neg (by omega), if_pos (pre_zero.2 ⟨by omega, by assumption⟩)]]; rfl)
              | (have hno : ¬ Lib.hasPrefix s [0] = true := fun h => by have := pre_zero.1 h; omega
                 rw [show parseR s = (unfW (List.replicate (32 - s.length) 0 ++ s), 0) from by unfold parseR; rw [if_neg (by omega), if_neg hno]]; rfl)
            skip)
          skip)
      · try exact Bool.noConfusion h4
        all_goals try simp only [decide_eq_true_eq, decide_eq_false_iff_not, beq_iff_eq, beq_eq_false_iff_ne, bne_iff_ne, bne_eq_false_iff_eq, Bool.not_eq_true', Bool.not_eq_false', ne_eq, Int.not_lt, Int.not_le, ge_iff_le, gt_iff_lt] at h4
        all_goals (
          refine HC_skip ?_
          refine HQ_then ?_
          refine hK2 _ _ _ _ ?_; clear hK2 K2
          refine HC_seq fun K6 hK6 => ?_
          refine HC_seq fun K7 hK7 => ?_
          refine HC_region ?_
          all_goals refine HL_r rfl rfl rfl rfl (R_move rfl) ?_
          all_goals first
            | (refine HL_r rfl rfl rfl rfl (R_lenBs rfl rfl) ?_)
            | (refine HL_r rfl rfl rfl rfl (R_lenSl rfl rfl) ?_)
            | (refine HL_r rfl rfl rfl rfl (R_lenStr rfl rfl rfl) ?_)
            | (refine HL_r rfl rfl rfl rfl (R_pure rfl rfl rfl) ?_)
          all_goals refine HL_r rfl rfl rfl rfl (R_pure rfl rfl rfl) ?_
          all_goals refine HL_r rfl rfl rfl rfl (R_move rfl) ?_
          all_goals first
            | (refine HL_r rfl rfl rfl rfl (R_move rfl) ?_)
            | (refine HL_skip rfl rfl rfl ?_)
            | (refine HL_case 11 rfl (fun hb8 => ?_) (fun hb8 => ?_) <;> (try simp only [decide_eq_true_eq, decide_eq_false_iff_not, beq_iff_eq, beq_eq_false_iff_ne, bne_iff_ne, bne_eq_false_iff_eq, Bool.not_eq_true', Bool.not_eq_false', ne_eq, Int.not_lt, Int.not_le, ge_iff_le, gt_iff_lt] at hb8) <;> first | (refine HL_r rfl rfl rfl rfl (R_move rfl) ?_) | (refine HL_skip rfl rfl rfl ?_))
          all_goals first | refine HL_r rfl rfl rfl rfl (R_indexBs (j := 0) rfl rfl rfl rfl (by omega) rfl) ?_ | refine HL_skip rfl rfl rfl ?_
          all_goals first
            | (refine HL_r rfl rfl rfl rfl (R_pure rfl rfl rfl) ?_)
            | (refine HL_skip rfl rfl rfl ?_)
            | (refine HL_case 11 rfl (fun hb9 => ?_) (fun hb9 => ?_) <;> (try simp only [decide_eq_true_eq, decide_eq_false_iff_not, beq_iff_eq, beq_eq_false_iff_ne, bne_iff_ne, bne_eq_false_iff_eq, Bool.not_eq_true', Bool.not_eq_false', ne_eq, Int.not_lt, Int.not_le, ge_iff_le, gt_iff_lt] at hb9) <;> first | (refine HL_r rfl rfl rfl rfl (R_pure rfl rfl rfl) ?_) | (refine HL_skip rfl rfl rfl ?_))
          all_goals first
            | (refine HL_r rfl rfl rfl rfl (R_pickT rfl rfl) ?_)
            | (refine HL_r rfl rfl rfl rfl (R_pickF rfl rfl) ?_)
          all_goals refine HL_nil ?_
          all_goals (
            refine HQ_then ?_
            refine hK7 _ _ _ _ ?_; clear hK7 K7
            refine HC_cond rfl (fun h10 => ?_) (fun h10 => ?_)
            · try exact Bool.noConfusion h10
              all_goals try simp only [decide_eq_true_eq, decide_eq_false_iff_not, beq_iff_eq, beq_eq_false_iff_ne, bne_iff_ne, bne_eq_false_iff_eq, Bool.not_eq_true', Bool.not_eq_false', ne_eq, Int.not_lt, Int.not_le, ge_iff_le, gt_iff_lt] at h10
              all_goals (
                refine HC_seq fun K11 hK11 => ?_
                refine HC_region ?_
                all_goals refine HL_r rfl rfl rfl rfl (R_build (r := [_, _, _, _]) rfl rfl) ?_
                all_goals first
                  | (refine HL_storeA (k := 0) (n := 4) (cs' := #[_, _, _, _]) (vs := #[_, _, _, _]) rfl rfl rfl rfl rfl rfl rfl (by exact Nat.le_of_ble_eq_true rfl) rfl (by first | (simp only [List.set_cons_zero, List.set_cons_succ]; exact rfl) | exact rfl) ?_)
                  | (refine HL_storeA (k := 1) (n := 4) (cs' := #[_, _, _, _]) (vs := #[_, _, _, _]) rfl rfl rfl rfl rfl rfl rfl (by exact Nat.le_of_ble_eq_true rfl) rfl (by first | (simp only [List.set_cons_zero, List.set_cons_succ]; exact rfl) | exact rfl) ?_)
                  | (refine HL_storeA (k := 2) (n := 4) (cs' := #[_, _, _, _]) (vs := #[_, _, _, _]) rfl rfl rfl rfl rfl rfl rfl (by exact Nat.le_of_ble_eq_true rfl) rfl (by first | (simp only [List.set_cons_zero, List.set_cons_succ]; exact rfl) | exact rfl) ?_)
                  | (refine HL_storeA (k := 3) (n := 4) (cs' := #[_, _, _, _]) (vs := #[_, _, _, _]) rfl rfl rfl rfl rfl rfl rfl (by exact Nat.le_of_ble_eq_true rfl) rfl (by first | (simp only [List.set_cons_zero, List.set_cons_succ]; exact rfl) | exact rfl) ?_)
                  | (refine HL_storeA (k := 4) (n := 4) (cs' := #[_, _, _, _]) (vs := #[_, _, _, _]) rfl rfl rfl rfl rfl rfl rfl (by exact Nat.le_of_ble_eq_true rfl) rfl (by first | (simp only [List.set_cons_zero, List.set_cons_succ]; exact rfl) | exact rfl) ?_)
                  | (refine HL_storeA (k := 5) (n := 4) (cs' := #[_, _, _, _]) (vs := #[_, _, _, _]) rfl rfl rfl rfl rfl rfl rfl (by exact Nat.le_of_ble_eq_true rfl) rfl (by first | (simp only [List.set_cons_zero, List.set_cons_succ]; exact rfl) | exact rfl) ?_)
                  | (refine HL_storeA (k := 0) (n := 4) (vs := #[_, _, _, _]) rfl rfl rfl rfl rfl rfl rfl (by exact Nat.le_of_ble_eq_true rfl) (by first | (simp only [List.take_zero, List.nil_append, Array.toList_toArray, List.drop_succ_cons, List.drop_zero, List.take_succ_cons, List.cons_append, Nat.zero_add, Nat.reduceAdd, List.append_nil, List.drop_nil]; exact rfl) | exact rfl) (by first | (simp only [List.set_cons_zero, List.set_cons_succ]; exact rfl) | exact rfl) ?_)
                  | (refine HL_storeA (k := 1) (n := 4) (vs := #[_, _, _, _]) rfl rfl rfl rfl rfl rfl rfl (by exact Nat.le_of_ble_eq_true rfl) (by first | (simp only [List.take_zero, List.nil_append, Array.toList_toArray, List.drop_succ_cons, List.drop_zero, List.take_succ_cons, List.cons_append, Nat.zero_add, Nat.reduceAdd, List.append_nil, List.drop_nil]; exact rfl) | exact rfl) (by first | (simp only [List.set_cons_zero, List.set_cons_succ]; exact rfl) | exact rfl) ?_)
                  | (refine HL_storeA (k := 2) (n := 4) (vs := #[_, _, _, _]) rfl rfl rfl rfl rfl rfl rfl (by exact Nat.le_of_ble_eq_true rfl) (by first | (simp only [List.take_zero, List.nil_append, Array.toList_toArray, List.drop_succ_cons, List.drop_zero, List.take_succ_cons, List.cons_append, Nat.zero_add, Nat.reduceAdd, List.append_nil, List.drop_nil]; exact rfl) | exact rfl) (by first | (simp only [List.set_cons_zero, List.set_cons_succ]; exact rfl) | exact rfl) ?_)
                  | (refine HL_storeA (k := 3) (n := 4) (vs := #[_, _, _, _]) rfl rfl rfl rfl rfl rfl rfl (by exact Nat.le_of_ble_eq_true rfl) (by first | (simp only [List.take_zero, List.nil_append, Array.toList_toArray, List.drop_succ_cons, List.drop_zero, List.take_succ_cons, List.cons_append, Nat.zero_add, Nat.reduceAdd, List.append_nil, List.drop_nil]; exact rfl) | exact rfl) (by first | (simp only [List.set_cons_zero, List.set_cons_succ]; exact rfl) | exact rfl) ?_)
                  | (refine HL_storeA (k := 4) (n := 4) (vs := #[_, _, _, _]) rfl rfl rfl rfl rfl rfl rfl (by exact Nat.le_of_ble_eq_true rfl) (by first | (simp only [List.take_zero, List.nil_append, Array.toList_toArray, List.drop_succ_cons, List.drop_zero, List.take_succ_cons, List.cons_append, Nat.zero_add, Nat.reduceAdd, List.append_nil, List.drop_nil]; exact rfl) | exact rfl) (by first | (simp only [List.set_cons_zero, List.set_cons_succ]; exact rfl) | exact rfl) ?_)
                  | (refine HL_storeA (k := 5) (n := 4) (vs := #[_, _, _, _]) rfl rfl rfl rfl rfl rfl rfl (by exact Nat.le_of_ble_eq_true rfl) (by first | (simp only [List.take_zero, List.nil_append, Array.toList_toArray, List.drop_succ_cons, List.drop_zero, List.take_succ_cons, List.cons_append, Nat.zero_add, Nat.reduceAdd, List.append_nil, List.drop_nil]; exact rfl) | exact rfl) (by first | (simp only [List.set_cons_zero, List.set_cons_succ]; exact rfl) | exact rfl) ?_)
                all_goals refine HL_r rfl rfl rfl rfl (R_assign rfl) ?_
                all_goals refine HL_nil ?_
                all_goals (
                  refine HQ_then ?_
                  refine hK11 _ _ _ _ ?_; clear hK11 K11
                  refine HC_ret ?_
                  refine HQ_thenR ?_; clear hK6 K6
                  first
                    | refine HQ_post rfl rfl (.cons (res_cellA (vs := [_, _, _, _]) rfl (known_L (k := 0) rfl) rfl rfl) (.cons (res_tmp rfl) .nil)) (fun w1 hs1 => ?_)
                    | refine HQ_post rfl rfl (.cons (res_cellA (vs := [_, _, _, _]) rfl (known_L (k := 1) rfl) rfl rfl) (.cons (res_tmp rfl) .nil)) (fun w1 hs1 => ?_)
                    | refine HQ_post rfl rfl (.cons (res_cellA (vs := [_, _, _, _]) rfl (known_L (k := 2) rfl) rfl rfl) (.cons (res_tmp rfl) .nil)) (fun w1 hs1 => ?_)
                    | refine HQ_post rfl rfl (.cons (res_cellA (vs := [_, _, _, _]) rfl (known_L (k := 3) rfl) rfl rfl) (.cons (res_tmp rfl) .nil)) (fun w1 hs1 => ?_)
                    | refine HQ_post rfl rfl (.cons (res_cellA (vs := [_, _, _, _]) rfl (known_L (k := 4) rfl) rfl rfl) (.cons (res_tmp rfl) .nil)) (fun w1 hs1 => ?_)
                    | refine HQ_post rfl rfl (.cons (res_cellA (vs := [_, _, _, _]) rfl (known_L (k := 5) rfl) rfl rfl) (.cons (res_tmp rfl) .nil)) (fun w1 hs1 => ?_)
                  refine ⟨?_, hs1.keep⟩
                  first
                    | (rw [show parseR s = (zW, 5) from by unfold parseR; rw [if_pos (by omega)]]; rfl)
                    | (rw [show parseR s = (zW, 8) from by unfold parseR; rw [if_neg (by omega), if_pos (pre_zero.2 ⟨by omega, by assumption⟩)]]; rfl)
                    | (have hno : ¬ Lib.hasPrefix s [0] = true := fun h => by have := pre_zero.1 h; omega
                       rw [show parseR s = (unfW (List.replicate (32 - s.length) 0 ++ s), 0) from by unfold parseR; rw [if_neg (by omega), if_neg hno]]; rfl)
                  skip)
                skip)
            · try exact Bool.noConfusion h10
              all_goals try simp only [decide_eq_true_eq, decide_eq_false_iff_not, beq_iff_eq, beq_eq_false_iff_ne, bne_iff_ne, bne_eq_false_iff_eq, Bool.not_eq_true', Bool.not_eq_false', ne_eq, Int.not_lt, Int.not_le, ge_iff_le, gt_iff_lt] at h10
              all_goals (
                refine HC_skip ?_
                refine HQ_then ?_
                refine hK6 _ _ _ _ ?_; clear hK6 K6
                refine HC_seq fun K12 hK12 => ?_
                refine HC_region ?_
                all_goals refine HL_r rfl rfl rfl rfl (R_move rfl) ?_
                all_goals first
                  | (refine HL_r rfl rfl rfl rfl (R_lenBs rfl rfl) ?_)
                  | (refine HL_r rfl rfl rfl rfl (R_lenSl rfl rfl) ?_)
                  | (refine HL_r rfl rfl rfl rfl (R_lenStr rfl rfl rfl) ?_)
                  | (refine HL_r rfl rfl rfl rfl (R_pure rfl rfl rfl) ?_)
                all_goals refine HL_r rfl rfl rfl rfl (R_pure rfl rfl rfl) ?_; refine HL_as (show _ = Value.int .i64 ((32 - s.length : Nat) : Int) from congrArg (Value.int .i64) (by rw [wrap_i64 (by omega) (by omega)]; omega)) ?_
                all_goals refine HL_make (n := 32 - s.length) (b := 1) rfl rfl rfl rfl rfl rfl rfl rfl rfl (by omega) (by omega) fun r2 => ?_
                all_goals refine HL_r rfl rfl rfl rfl (R_bytesStr (b := List.replicate (32 - s.length) 0) (row := some (r2, 32 - s.length, [])) (e := 5) (show _ = some (rowV (List.replicate (32 - s.length) (0 : UInt8)).length (some (r2, 32 - s.length, []))) from by rw [List.length_replicate]; rfl) ⟨by simp, by simp⟩ (fun p hp => .inl (by rw [List.mem_singleton.1 hp]; simp [bV])) rfl rfl rfl) ?_
                all_goals refine HL_r rfl rfl rfl rfl (R_move rfl) ?_
                all_goals refine HL_r rfl rfl rfl rfl (R_concat rfl rfl (by simp; omega)) ?_
                all_goals refine HL_callP rfl rfl rfl (enters_of Tryd.func25 (by kernel_rfl) rfl) (P_ref_Unfixed (List.replicate (32 - s.length) 0 ++ s)) ?_; refine HL_as (congrArg resW (unfR_pad (by omega))) ?_
                all_goals refine HL_r rfl rfl rfl rfl (R_extract rfl rfl) ?_
                all_goals refine HL_r rfl rfl rfl rfl (R_extract rfl rfl) ?_
                all_goals refine HL_storeArr (k := 1) (n := 4) (ys := (unfW (List.replicate (32 - s.length) 0 ++ s)).map uV) rfl rfl rfl rfl rfl rfl rfl (mapU_one _) rfl ?_
                all_goals refine HL_r rfl rfl rfl rfl (R_assign rfl) ?_
                all_goals refine HL_nil ?_
                all_goals (
                  refine HQ_then ?_
                  refine hK12 _ _ _ _ ?_; clear hK12 K12
                  refine HC_ret ?_
                  first
                    | refine HQ_post rfl rfl (.cons (res_cellA (vs := [_, _, _, _]) rfl (known_L (k := 0) rfl) rfl rfl) (.cons (res_tmp rfl) .nil)) (fun w1 hs1 => ?_)
                    | refine HQ_post rfl rfl (.cons (res_cellA (vs := [_, _, _, _]) rfl (known_L (k := 1) rfl) rfl rfl) (.cons (res_tmp rfl) .nil)) (fun w1 hs1 => ?_)
                    | refine HQ_post rfl rfl (.cons (res_cellA (vs := [_, _, _, _]) rfl (known_L (k := 2) rfl) rfl rfl) (.cons (res_tmp rfl) .nil)) (fun w1 hs1 => ?_)
                    | refine HQ_post rfl rfl (.cons (res_cellA (vs := [_, _, _, _]) rfl (known_L (k := 3) rfl) rfl rfl) (.cons (res_tmp rfl) .nil)) (fun w1 hs1 => ?_)
                    | refine HQ_post rfl rfl (.cons (res_cellA (vs := [_, _, _, _]) rfl (known_L (k := 4) rfl) rfl rfl) (.cons (res_tmp rfl) .nil)) (fun w1 hs1 => ?_)
                    | refine HQ_post rfl rfl (.cons (res_cellA (vs := [_, _, _, _]) rfl (known_L (k := 5) rfl) rfl rfl) (.cons (res_tmp rfl) .nil)) (fun w1 hs1 => ?_)
                  refine ⟨?_, hs1.keep⟩
                  first
                    | (rw [show parseR s = (zW, 5) from by unfold parseR; rw [if_pos (by omega)]]; rfl)
                    | (rw [show parseR s = (zW, 8) from by unfold parseR; rw [if_neg (by omega), if_pos (pre_zero.2 ⟨by omega, by assumption⟩)]]; rfl)
                    | (have hno : ¬ Lib.hasPrefix s [0] = true := fun h => by have := pre_zero.1 h; omega
                       rw [show parseR s = (unfW (List.replicate (32 - s.length) 0 ++ s), 0) from by unfold parseR; rw [if_neg (by omega), if_neg hno]]; rfl)
                  skip)
                skip)
            skip)
          skip)
      skip)
    skip)
end Go.Proofs.YtpognifhchikgaaDoor
