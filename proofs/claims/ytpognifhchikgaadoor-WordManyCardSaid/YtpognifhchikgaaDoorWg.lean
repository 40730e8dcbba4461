import Derived.Test.YtpognifhchikgaaDoorWf
namespace Go.Proofs.YtpognifhchikgaaDoor
set_option linter.all false
open Go.SL Go.RowKit Go.Shelf
set_option maxRecDepth 10000 in
theorem P_ref_Sub {a b : List Nat} (ha : WOk a) (hb : WOk b) : Pure Tryd.prog 14 [wV a, wV b].toArray (resW (subR a b)) := by
  rw [← sub_eq ha hb]
  refine pure_of_HC Tryd.func14 rfl rfl fun w => ?_
  refine HC_seq fun K1 hK1 => ?_
  refine HC_region ?_
  all_goals refine HL_box (cs := (a.map uV).toArray) rfl rfl rfl rfl fun r1 => ?_
  all_goals refine HL_box (cs := (b.map uV).toArray) rfl rfl rfl rfl fun r2 => ?_
  all_goals refine HL_alloc (cs := (zW.map uV).toArray) rfl rfl rfl rfl fun r3 => ?_
  all_goals refine HL_r rfl rfl rfl rfl (R_assign rfl) ?_
  all_goals refine HL_nil ?_
  all_goals (
    refine HQ_then ?_
    refine hK1 _ _ _ _ ?_; clear hK1 K1
    refine HC_seq fun K2 hK2 => ?_
    refine HC_region ?_
    all_goals refine HL_r rfl rfl rfl rfl (R_assign rfl) ?_
    all_goals refine HL_nil ?_
    all_goals (
      refine HQ_then ?_
      refine hK2 _ _ _ _ ?_; clear hK2 K2
      refine HC_seq fun K3 hK3 => ?_
      refine HC_region ?_
      all_goals refine HL_r rfl rfl rfl rfl (R_assign rfl) ?_
      all_goals refine HL_nil ?_
      all_goals (
        refine HQ_then ?_
        refine hK3 _ _ _ _ ?_; clear hK3 K3
        refine HC_seq fun K4 hK4 => ?_
        refine HC_seq fun K5 hK5 => ?_
        refine HC_region ?_
        all_goals refine HL_r rfl rfl rfl rfl (R_assign rfl) ?_
        all_goals refine HL_nil ?_
        all_goals (
          refine HQ_then ?_
          refine hK5 _ _ _ _ ?_; clear hK5 K5
          refine HC_block ?_
          refine HC_loop (σ := Nat × List Value × Row) (fun q => q.1 ≤ 32 ∧ q.2.1 = (dsOf (subD a b) q.1).map iV ∧ rowOk 1 q.1 q.2.1 q.2.2) (fun q => [(2, .pointer (some ⟨r1, 0, none⟩)), (3, .pointer (some ⟨r2, 0, none⟩)), (4, .pointer (some ⟨r3, 0, none⟩)), (6, rowV q.1 q.2.2), (7, .int .i64 ((subC a b q.1 : Nat) : Int)), (8, .int .i64 (q.1 : Int))]) (fun q => (r3, .cells (zW.map uV).toArray 24 (0, 0)) :: (r2, .cells (b.map uV).toArray 24 (0, 0)) :: (r1, .cells (a.map uV).toArray 24 (0, 0)) :: rowL 3 q.2.1 q.2.2) (fun _ _ _ => True) (fun q => 32 - q.1) (0, [], none) ⟨by decide, rfl, ⟨rfl, rfl⟩⟩ (.cons rfl (.cons rfl (.cons rfl (.cons rfl (.cons rfl (.cons rfl .nil)))))) (List.Sublist.refl _) (fun _ _ h => h) ?_
          rintro ⟨i, xs, row⟩ ⟨hi, hxs, hrow⟩
          simp only at hi hxs hrow ⊢
          have d1 := dg_lt a i
          have d2 := dg_lt b i
          have d3 := subC_le a b i
          have hD := (subD_lt a b i).2
          have hC : subC a b (i + 1) = if dg a i < dg b i + subC a b i then 1 else 0 := rfl
          refine HC_seq fun K6 hK6 => ?_
          refine HC_seq fun K7 hK7 => ?_
          refine HC_region ?_
          all_goals refine HL_r rfl rfl rfl rfl (R_move rfl) ?_
          all_goals refine HL_r rfl rfl rfl rfl (R_pure rfl rfl rfl) ?_
          all_goals refine HL_nil ?_
          all_goals (
            refine HQ_then ?_
            refine hK7 _ _ _ _ ?_; clear hK7 K7
            refine HC_cond rfl (fun h8 => ?_) (fun h8 => ?_)
            · try exact Bool.noConfusion h8
              all_goals try simp only [decide_eq_true_eq, decide_eq_false_iff_not, beq_iff_eq, beq_eq_false_iff_ne, bne_iff_ne, bne_eq_false_iff_eq, Bool.not_eq_true', Bool.not_eq_false', ne_eq, Int.not_lt, Int.not_le, ge_iff_le, gt_iff_lt] at h8
              all_goals (
                refine HC_skip ?_
                refine HQ_then ?_
                refine hK6 _ _ _ _ ?_; clear hK6 K6
                refine HC_seq fun K9 hK9 => ?_
                refine HC_block ?_
                refine HC_seq fun K10 hK10 => ?_
                refine HC_draw 10 (by kernel_rfl) (by kernel_rfl) ?_
                all_goals refine HD_r rfl rfl rfl (R_loadArr (xs := a.map uV) (n := 4) rfl (known_L (k := 2) rfl) rfl rfl (by rw [List.length_map, ha.1])) ?_
                all_goals refine HD_r rfl rfl rfl (R_move rfl) ?_
                all_goals refine HD_callP rfl rfl rfl (enters_of Tryd.func30 (by kernel_rfl) rfl) (P_digit ha (i := i) (by omega)) ?_
                all_goals refine HD_r rfl rfl rfl (R_loadArr (xs := b.map uV) (n := 4) rfl (known_L (k := 1) rfl) rfl rfl (by rw [List.length_map, hb.1])) ?_
                all_goals refine HD_r rfl rfl rfl (R_move rfl) ?_
                all_goals refine HD_callP rfl rfl rfl (enters_of Tryd.func30 (by kernel_rfl) rfl) (P_digit hb (i := i) (by omega)) ?_
                all_goals first
                  | (refine HD_r rfl rfl rfl (R_pure rfl rfl rfl) ?_; refine HD_wrap_i64 (by omega) (by omega) ?_)
                  | (refine HD_r rfl rfl rfl (R_pure rfl rfl rfl) ?_)
                all_goals refine HD_r rfl rfl rfl (R_move rfl) ?_
                all_goals first
                  | (refine HD_r rfl rfl rfl (R_pure rfl rfl rfl) ?_; refine HD_wrap_i64 (by omega) (by omega) ?_)
                  | (refine HD_r rfl rfl rfl (R_pure rfl rfl rfl) ?_)
                all_goals refine HD_r rfl rfl rfl (R_assign rfl) ?_
                all_goals refine HD_end ?_
                all_goals refine HL_nil ?_
                all_goals (
                  refine HQ_then ?_
                  refine hK10 _ _ _ _ ?_; clear hK10 K10
                  refine HC_seq fun K11 hK11 => ?_
                  refine HC_region ?_
                  all_goals refine HL_r rfl rfl rfl rfl (R_assign rfl) ?_
                  all_goals refine HL_nil ?_
                  all_goals (
                    refine HQ_then ?_
                    refine hK11 _ _ _ _ ?_; clear hK11 K11
                    refine HC_seq fun K12 hK12 => ?_
                    refine HC_seq fun K13 hK13 => ?_
                    refine HC_region ?_
                    all_goals refine HL_r rfl rfl rfl rfl (R_move rfl) ?_
                    all_goals refine HL_r rfl rfl rfl rfl (R_pure rfl rfl rfl) ?_
                    all_goals refine HL_nil ?_
                    all_goals (
                      refine HQ_then ?_
                      refine hK13 _ _ _ _ ?_; clear hK13 K13
                      refine HC_cond rfl (fun h14 => ?_) (fun h14 => ?_)
                      · try exact Bool.noConfusion h14
                        all_goals try simp only [decide_eq_true_eq, decide_eq_false_iff_not, beq_iff_eq, beq_eq_false_iff_ne, bne_iff_ne, bne_eq_false_iff_eq, Bool.not_eq_true', Bool.not_eq_false', ne_eq, Int.not_lt, Int.not_le, ge_iff_le, gt_iff_lt] at h14
                        all_goals (
                          refine HC_seq fun K15 hK15 => ?_
                          refine HC_region ?_
                          all_goals refine HL_r rfl rfl rfl rfl (R_move rfl) ?_
                          all_goals first
                            | (refine HL_r rfl rfl rfl rfl (R_pure rfl rfl rfl) ?_; refine HL_wrap_i64 (by omega) (by omega) ?_)
                            | (refine HL_r rfl rfl rfl rfl (R_pure rfl rfl rfl) ?_)
                          all_goals refine HL_r rfl rfl rfl rfl (R_assign rfl) ?_
                          all_goals refine HL_nil ?_
                          all_goals (
                            refine HQ_then ?_
                            refine hK15 _ _ _ _ ?_; clear hK15 K15
                            refine HC_region ?_
                            all_goals refine HL_r rfl rfl rfl rfl (R_assign rfl) ?_
                            all_goals refine HL_nil ?_
                            all_goals (
                              refine HQ_then ?_
                              refine hK12 _ _ _ _ ?_; clear hK12 K12
                              refine HC_region ?_
                              all_goals refine HL_r rfl rfl rfl rfl (R_move rfl) ?_
                              all_goals refine HL_r rfl rfl rfl rfl (R_move rfl) ?_; refine HL_as (show _ = Value.int .i64 ((subD a b i : Nat) : Int) from congrArg (Value.int .i64) (by rw [hC] at hD; split at hD <;> omega)) ?_
                              all_goals refine HL_buildSlice (vs := [_]) (zs := [_]) (r := [_]) rfl rfl rfl rfl rfl rfl rfl rfl rfl (by show (madeCells #[_] _).toList = _; rw [made_one]; exact rfl) rfl fun r1 => ?_
                              all_goals refine HL_appendRow (L0 := [_, _, _, _]) (xs := xs) (row := row) (n := i) (sz := 1) (b := 8) (news := [_]) (List.perm_append_comm (l₁ := [_, _, _, _])) rfl rfl rfl rfl (known_L (k := 0) rfl) rfl rfl rfl rfl rfl (by decide) rfl rfl rfl (by decide) hrow (by omega) (by omega) fun ra cap sp hra => ?_
                              all_goals refine HL_r rfl rfl rfl rfl (R_assign rfl) ?_
                              all_goals refine HL_nil ?_
                              all_goals (
                                refine HQ_blockN ?_
                                refine HQ_then ?_
                                refine hK9 _ _ _ _ ?_; clear hK9 K9
                                refine HC_region ?_
                                all_goals refine HL_r rfl rfl rfl rfl (R_move rfl) ?_
                                all_goals first
                                  | (refine HL_r rfl rfl rfl rfl (R_pure rfl rfl rfl) ?_; refine HL_wrap_i64 (by omega) (by omega) ?_)
                                  | (refine HL_r rfl rfl rfl rfl (R_pure rfl rfl rfl) ?_)
                                all_goals refine HL_r rfl rfl rfl rfl (R_assign rfl) ?_
                                all_goals refine HL_nil ?_
                                all_goals (
                                  refine HQ_then ?_
                                  refine HQ_sel [2, 3, 4, 0] (L' := [_, _, _, _]) (by decide) rfl ?_
                                  exact HQ_again (i + 1, xs ++ [Value.int .i64 ((subD a b i : Nat) : Int)], some (ra, cap, sp)) ⟨by simp only; omega, by simp only; rw [dsOf_succ, hxs], hra⟩ (by simp only; omega) (.cons rfl (.cons rfl (.cons rfl (.cons rfl (.cons (congrArg (fun z => some (Value.int .i64 z)) (by simp only; rw [hC]; split <;> omega)) (.cons rfl .nil)))))) (List.Sublist.refl _) (fun _ _ h => h)
                                  skip)
                                skip)
                              skip)
                            skip)
                          skip)
                      · try exact Bool.noConfusion h14
                        all_goals try simp only [decide_eq_true_eq, decide_eq_false_iff_not, beq_iff_eq, beq_eq_false_iff_ne, bne_iff_ne, bne_eq_false_iff_eq, Bool.not_eq_true', Bool.not_eq_false', ne_eq, Int.not_lt, Int.not_le, ge_iff_le, gt_iff_lt] at h14
                        all_goals (
                          refine HC_skip ?_
                          refine HQ_then ?_
                          refine hK12 _ _ _ _ ?_; clear hK12 K12
                          refine HC_region ?_
                          all_goals refine HL_r rfl rfl rfl rfl (R_move rfl) ?_
                          all_goals refine HL_r rfl rfl rfl rfl (R_move rfl) ?_; refine HL_as (show _ = Value.int .i64 ((subD a b i : Nat) : Int) from congrArg (Value.int .i64) (by rw [hC] at hD; split at hD <;> omega)) ?_
                          all_goals refine HL_buildSlice (vs := [_]) (zs := [_]) (r := [_]) rfl rfl rfl rfl rfl rfl rfl rfl rfl (by show (madeCells #[_] _).toList = _; rw [made_one]; exact rfl) rfl fun r2 => ?_
                          all_goals refine HL_appendRow (L0 := [_, _, _, _]) (xs := xs) (row := row) (n := i) (sz := 1) (b := 8) (news := [_]) (List.perm_append_comm (l₁ := [_, _, _, _])) rfl rfl rfl rfl (known_L (k := 0) rfl) rfl rfl rfl rfl rfl (by decide) rfl rfl rfl (by decide) hrow (by omega) (by omega) fun ra cap sp hra => ?_
                          all_goals refine HL_r rfl rfl rfl rfl (R_assign rfl) ?_
                          all_goals refine HL_nil ?_
                          all_goals (
                            refine HQ_blockN ?_
                            refine HQ_then ?_
                            refine hK9 _ _ _ _ ?_; clear hK9 K9
                            refine HC_region ?_
                            all_goals refine HL_r rfl rfl rfl rfl (R_move rfl) ?_
                            all_goals first
                              | (refine HL_r rfl rfl rfl rfl (R_pure rfl rfl rfl) ?_; refine HL_wrap_i64 (by omega) (by omega) ?_)
                              | (refine HL_r rfl rfl rfl rfl (R_pure rfl rfl rfl) ?_)
                            all_goals refine HL_r rfl rfl rfl rfl (R_assign rfl) ?_
                            all_goals refine HL_nil ?_
                            all_goals (
                              refine HQ_then ?_
                              refine HQ_sel [2, 3, 4, 0] (L' := [_, _, _, _]) (by decide) rfl ?_
                              exact HQ_again (i + 1, xs ++ [Value.int .i64 ((subD a b i : Nat) : Int)], some (ra, cap, sp)) ⟨by simp only; omega, by simp only; rw [dsOf_succ, hxs], hra⟩ (by simp only; omega) (.cons rfl (.cons rfl (.cons rfl (.cons rfl (.cons (congrArg (fun z => some (Value.int .i64 z)) (by simp only; rw [hC]; split <;> omega)) (.cons rfl .nil)))))) (List.Sublist.refl _) (fun _ _ h => h)
                              skip)
                            skip)
                          skip)
                      skip)
                    skip)
                  skip)
                skip)
            · try exact Bool.noConfusion h8
              all_goals try simp only [decide_eq_true_eq, decide_eq_false_iff_not, beq_iff_eq, beq_eq_false_iff_ne, bne_iff_ne, bne_eq_false_iff_eq, Bool.not_eq_true', Bool.not_eq_false', ne_eq, Int.not_lt, Int.not_le, ge_iff_le, gt_iff_lt] at h8
              all_goals (
                refine HC_exit ?_
                refine HQ_thenE ?_; clear hK6 K6
                refine HQ_thenE ?_
                refine HQ_blockE ?_
                refine HQ_then ?_
                refine hK4 _ _ _ _ ?_; clear hK4 K4
                refine HC_seq fun K16 hK16 => ?_
                refine HC_seq fun K17 hK17 => ?_
                have hi32 : i = 32 := by omega
                subst hi32
                subst hxs
                clear hC hD
                generalize hsc : subC a b 32 = sc
                refine HC_region ?_
                all_goals refine HL_r rfl rfl rfl rfl (R_move rfl) ?_
                all_goals refine HL_r rfl rfl rfl rfl (R_pure rfl rfl rfl) ?_
                all_goals refine HL_nil ?_
                all_goals (
                  refine HQ_then ?_
                  refine hK17 _ _ _ _ ?_; clear hK17 K17
                  refine HC_cond rfl (fun h18 => ?_) (fun h18 => ?_)
                  · try exact Bool.noConfusion h18
                    all_goals try simp only [decide_eq_true_eq, decide_eq_false_iff_not, beq_iff_eq, beq_eq_false_iff_ne, bne_iff_ne, bne_eq_false_iff_eq, Bool.not_eq_true', Bool.not_eq_false', ne_eq, Int.not_lt, Int.not_le, ge_iff_le, gt_iff_lt] at h18
                    all_goals (
                      refine HC_seq fun K19 hK19 => ?_
                      refine HC_region ?_
                      all_goals refine HL_r rfl rfl rfl rfl (R_build (r := [_, _, _, _]) rfl rfl) ?_
                      all_goals first
                        | (refine HL_storeA (k := 0) (n := 4) (cs' := #[_, _, _, _]) (vs := #[_, _, _, _]) rfl rfl rfl rfl rfl rfl rfl (by exact Nat.le_of_ble_eq_true rfl) rfl (by first | (simp only [List.set_cons_zero, List.set_cons_succ]; exact rfl) | exact rfl) ?_)
                        | (refine HL_storeA (k := 1) (n := 4) (cs' := #[_, _, _, _]) (vs := #[_, _, _, _]) rfl rfl rfl rfl rfl rfl rfl (by exact Nat.le_of_ble_eq_true rfl) rfl (by first | (simp only [List.set_cons_zero, List.set_cons_succ]; exact rfl) | exact rfl) ?_)
                        | (refine HL_storeA (k := 2) (n := 4) (cs' := #[_, _, _, _]) (vs := #[_, _, _, _]) rfl rfl rfl rfl rfl rfl rfl (by exact Nat.le_of_ble_eq_true rfl) rfl (by first | (simp only [List.set_cons_zero, List.set_cons_succ]; exact rfl) | exact rfl) ?_)
                        | (refine HL_storeA (k := 3) (n := 4) (cs' := #[_, _, _, _]) (vs := #[_, _, _, _]) rfl rfl rfl rfl rfl rfl rfl (by exact Nat.le_of_ble_eq_true rfl) rfl (by first | (simp only [List.set_cons_zero, List.set_cons_succ]; exact rfl) | exact rfl) ?_)
                        | (refine HL_storeA (k := 4) (n := 4) (cs' := #[_, _, _, _]) (vs := #[_, _, _, _]) rfl rfl rfl rfl rfl rfl rfl (by exact Nat.le_of_ble_eq_true rfl) rfl (by first | (simp only [List.set_cons_zero, List.set_cons_succ]; exact rfl) | exact rfl) ?_)
                        | (refine HL_storeA (k := 5) (n := 4) (cs' := #[_, _, _, _]) (vs := #[_, _, _, _]) rfl rfl rfl rfl rfl rfl rfl (by exact Nat.le_of_ble_eq_true rfl) rfl (by first | (simp only [List.set_cons_zero, List.set_cons_succ]; exact rfl) | exact rfl) ?_)
                        | (refine HL_storeA (k := 0) (n := 4) (vs := #[_, _, _, _]) rfl rfl rfl rfl rfl rfl rfl (by exact Nat.le_of_ble_eq_true rfl) (by first | (simp only [List.take_zero, List.nil_append, Array.toList_toArray, List.drop_succ_cons, List.drop_zero, List.take_succ_cons, List.cons_append, Nat.zero_add, Nat.reduceAdd, List.append_nil, List.drop_nil]; exact rfl) | exact rfl) (by first | (simp only [List.set_cons_zero, List.set_cons_succ]; exact rfl) | exact rfl) ?_)
                        | (refine HL_storeA (k := 1) (n := 4) (vs := #[_, _, _, _]) rfl rfl rfl rfl rfl rfl rfl (by exact Nat.le_of_ble_eq_true rfl) (by first | (simp only [List.take_zero, List.nil_append, Array.toList_toArray, List.drop_succ_cons, List.drop_zero, List.take_succ_cons, List.cons_append, Nat.zero_add, Nat.reduceAdd, List.append_nil, List.drop_nil]; exact rfl) | exact rfl) (by first | (simp only [List.set_cons_zero, List.set_cons_succ]; exact rfl) | exact rfl) ?_)
                        | (refine HL_storeA (k := 2) (n := 4) (vs := #[_, _, _, _]) rfl rfl rfl rfl rfl rfl rfl (by exact Nat.le_of_ble_eq_true rfl) (by first | (simp only [List.take_zero, List.nil_append, Array.toList_toArray, List.drop_succ_cons, List.drop_zero, List.take_succ_cons, List.cons_append, Nat.zero_add, Nat.reduceAdd, List.append_nil, List.drop_nil]; exact rfl) | exact rfl) (by first | (simp only [List.set_cons_zero, List.set_cons_succ]; exact rfl) | exact rfl) ?_)
                        | (refine HL_storeA (k := 3) (n := 4) (vs := #[_, _, _, _]) rfl rfl rfl rfl rfl rfl rfl (by exact Nat.le_of_ble_eq_true rfl) (by first | (simp only [List.take_zero, List.nil_append, Array.toList_toArray, List.drop_succ_cons, List.drop_zero, List.take_succ_cons, List.cons_append, Nat.zero_add, Nat.reduceAdd, List.append_nil, List.drop_nil]; exact rfl) | exact rfl) (by first | (simp only [List.set_cons_zero, List.set_cons_succ]; exact rfl) | exact rfl) ?_)
                        | (refine HL_storeA (k := 4) (n := 4) (vs := #[_, _, _, _]) rfl rfl rfl rfl rfl rfl rfl (by exact Nat.le_of_ble_eq_true rfl) (by first | (simp only [List.take_zero, List.nil_append, Array.toList_toArray, List.drop_succ_cons, List.drop_zero, List.take_succ_cons, List.cons_append, Nat.zero_add, Nat.reduceAdd, List.append_nil, List.drop_nil]; exact rfl) | exact rfl) (by first | (simp only [List.set_cons_zero, List.set_cons_succ]; exact rfl) | exact rfl) ?_)
                        | (refine HL_storeA (k := 5) (n := 4) (vs := #[_, _, _, _]) rfl rfl rfl rfl rfl rfl rfl (by exact Nat.le_of_ble_eq_true rfl) (by first | (simp only [List.take_zero, List.nil_append, Array.toList_toArray, List.drop_succ_cons, List.drop_zero, List.take_succ_cons, List.cons_append, Nat.zero_add, Nat.reduceAdd, List.append_nil, List.drop_nil]; exact rfl) | exact rfl) (by first | (simp only [List.set_cons_zero, List.set_cons_succ]; exact rfl) | exact rfl) ?_)
                      all_goals refine HL_r rfl rfl rfl rfl (R_assign rfl) ?_
                      all_goals refine HL_nil ?_
                      all_goals (
                        refine HQ_then ?_
                        refine hK19 _ _ _ _ ?_; clear hK19 K19
                        refine HC_ret ?_
                        refine HQ_thenR ?_; clear hK16 K16
                        first
                          | refine HQ_post rfl rfl (.cons (res_cellA (vs := [_, _, _, _]) rfl (known_L (k := 0) rfl) rfl rfl) (.cons (res_tmp rfl) .nil)) (fun w1 hs1 => ?_)
                          | refine HQ_post rfl rfl (.cons (res_cellA (vs := [_, _, _, _]) rfl (known_L (k := 1) rfl) rfl rfl) (.cons (res_tmp rfl) .nil)) (fun w1 hs1 => ?_)
                          | refine HQ_post rfl rfl (.cons (res_cellA (vs := [_, _, _, _]) rfl (known_L (k := 2) rfl) rfl rfl) (.cons (res_tmp rfl) .nil)) (fun w1 hs1 => ?_)
                          | refine HQ_post rfl rfl (.cons (res_cellA (vs := [_, _, _, _]) rfl (known_L (k := 3) rfl) rfl rfl) (.cons (res_tmp rfl) .nil)) (fun w1 hs1 => ?_)
                          | refine HQ_post rfl rfl (.cons (res_cellA (vs := [_, _, _, _]) rfl (known_L (k := 4) rfl) rfl rfl) (.cons (res_tmp rfl) .nil)) (fun w1 hs1 => ?_)
                          | refine HQ_post rfl rfl (.cons (res_cellA (vs := [_, _, _, _]) rfl (known_L (k := 5) rfl) rfl rfl) (.cons (res_tmp rfl) .nil)) (fun w1 hs1 => ?_)
                        refine ⟨?_, hs1.keep⟩
                        first
                          | (rw [show refSubR a b = (zW, 6) from by unfold refSubR; rw [hsc, if_neg (by omega)]]; rfl)
                          | (rw [show refSubR a b = (stW (subD a b) 32, 0) from by unfold refSubR; rw [hsc, if_pos (by omega)]]; rfl)
                        skip)
                      skip)
                  · try exact Bool.noConfusion h18
                    all_goals try simp only [decide_eq_true_eq, decide_eq_false_iff_not, beq_iff_eq, beq_eq_false_iff_ne, bne_iff_ne, bne_eq_false_iff_eq, Bool.not_eq_true', Bool.not_eq_false', ne_eq, Int.not_lt, Int.not_le, ge_iff_le, gt_iff_lt] at h18
                    all_goals (
                      refine HC_skip ?_
                      refine HQ_then ?_
                      refine hK16 _ _ _ _ ?_; clear hK16 K16
                      refine HC_seq fun K20 hK20 => ?_
                      refine HC_region ?_
                      all_goals refine HL_r rfl rfl rfl rfl (R_move rfl) ?_
                      all_goals refine HL_callR rfl rfl rfl (enters_of Tryd.func31 (by kernel_rfl) rfl) (R_of (ns := dsOf (subD a b) 32) (dsOf_lt (fun i => (subD_lt a b i).1) 32) rfl hrow) (fun p hp => .inl (List.mem_cons_of_mem _ (List.mem_cons_of_mem _ (List.mem_cons_of_mem _ hp)))) ?_; refine HL_as (congrArg wV (dsOf_st (subD a b))) ?_
                      all_goals refine HL_storeArr (k := 0) (n := 4) (ys := (stW (subD a b) 32).map uV) rfl rfl rfl rfl rfl rfl rfl (mapU_one _) rfl ?_
                      all_goals refine HL_r rfl rfl rfl rfl (R_assign rfl) ?_
                      all_goals refine HL_nil ?_
                      all_goals (
                        refine HQ_then ?_
                        refine hK20 _ _ _ _ ?_; clear hK20 K20
                        refine HC_ret ?_
                        first
                          | refine HQ_post rfl rfl (.cons (res_cellA (vs := [_, _, _, _]) rfl (known_L (k := 0) rfl) rfl rfl) (.cons (res_tmp rfl) .nil)) (fun w1 hs1 => ?_)
                          | refine HQ_post rfl rfl (.cons (res_cellA (vs := [_, _, _, _]) rfl (known_L (k := 1) rfl) rfl rfl) (.cons (res_tmp rfl) .nil)) (fun w1 hs1 => ?_)
                          | refine HQ_post rfl rfl (.cons (res_cellA (vs := [_, _, _, _]) rfl (known_L (k := 2) rfl) rfl rfl) (.cons (res_tmp rfl) .nil)) (fun w1 hs1 => ?_)
                          | refine HQ_post rfl rfl (.cons (res_cellA (vs := [_, _, _, _]) rfl (known_L (k := 3) rfl) rfl rfl) (.cons (res_tmp rfl) .nil)) (fun w1 hs1 => ?_)
                          | refine HQ_post rfl rfl (.cons (res_cellA (vs := [_, _, _, _]) rfl (known_L (k := 4) rfl) rfl rfl) (.cons (res_tmp rfl) .nil)) (fun w1 hs1 => ?_)
                          | refine HQ_post rfl rfl (.cons (res_cellA (vs := [_, _, _, _]) rfl (known_L (k := 5) rfl) rfl rfl) (.cons (res_tmp rfl) .nil)) (fun w1 hs1 => ?_)
                        refine ⟨?_, hs1.keep⟩
                        first
                          | (rw [show refSubR a b = (zW, 6) from by unfold refSubR; rw [hsc, if_neg (by omega)]]; rfl)
                          | (rw [show refSubR a b = (stW (subD a b) 32, 0) from by unfold refSubR; rw [hsc, if_pos (by omega)]]; rfl)
                        skip)
                      skip)
                  skip)
                skip)
            skip)
          skip)
        skip)
      skip)
    skip)
set_option maxRecDepth 10000 in
theorem P_ref_Less {a b : List Nat} (ha : WOk a) (hb : WOk b) : Pure Tryd.prog 15 [wV a, wV b].toArray (.bool (lessB a b)) := by
  rw [lessB_eq ha hb]
  refine pure_of_HC Tryd.func15 rfl rfl fun w => ?_
  refine HC_seq fun K1 hK1 => ?_
  refine HC_region ?_
  all_goals refine HL_box (cs := (a.map uV).toArray) rfl rfl rfl rfl fun r1 => ?_
  all_goals refine HL_box (cs := (b.map uV).toArray) rfl rfl rfl rfl fun r2 => ?_
  all_goals refine HL_r rfl rfl rfl rfl (R_assign rfl) ?_
  all_goals refine HL_nil ?_
  all_goals (
    refine HQ_then ?_
    refine hK1 _ _ _ _ ?_; clear hK1 K1
    refine HC_seq fun K2 hK2 => ?_
    refine HC_seq fun K3 hK3 => ?_
    refine HC_region ?_
    all_goals refine HL_r rfl rfl rfl rfl (R_assign rfl) ?_
    all_goals refine HL_nil ?_
    all_goals (
      refine HQ_then ?_
      refine hK3 _ _ _ _ ?_; clear hK3 K3
      refine HC_block ?_
      refine HC_loop (σ := Nat) (fun m => m ≤ 32 ∧ ∀ t, 32 - m ≤ t → t < 32 → dg a t = dg b t) (fun m => [(2, .pointer (some ⟨r1, 0, none⟩)), (3, .pointer (some ⟨r2, 0, none⟩)), (5, .int .i64 (31 - (m : Int)))]) (fun _ => [(r2, .cells (b.map uV).toArray 24 (0, 0)), (r1, .cells (a.map uV).toArray 24 (0, 0))]) (fun _ _ _ => True) (fun m => 32 - m) 0 ⟨by decide, fun t h1 h2 => by omega⟩ (.cons rfl (.cons rfl (.cons rfl .nil))) (List.Sublist.refl _) (fun _ _ h => h) ?_
      rintro m ⟨hm, hsame⟩
      refine HC_seq fun K4 hK4 => ?_
      refine HC_seq fun K5 hK5 => ?_
      refine HC_region ?_
      all_goals refine HL_r rfl rfl rfl rfl (R_move rfl) ?_
      all_goals refine HL_r rfl rfl rfl rfl (R_pure rfl rfl rfl) ?_
      all_goals refine HL_nil ?_
      all_goals (
        refine HQ_then ?_
        refine hK5 _ _ _ _ ?_; clear hK5 K5
        refine HC_cond rfl (fun h6 => ?_) (fun h6 => ?_)
        · try exact Bool.noConfusion h6
          all_goals try simp only [decide_eq_true_eq, decide_eq_false_iff_not, beq_iff_eq, beq_eq_false_iff_ne, bne_iff_ne, bne_eq_false_iff_eq, Bool.not_eq_true', Bool.not_eq_false', ne_eq, Int.not_lt, Int.not_le, ge_iff_le, gt_iff_lt] at h6
          all_goals (
            refine HC_skip ?_
            refine HQ_then ?_
            refine hK4 _ _ _ _ ?_; clear hK4 K4
            refine HC_seq fun K7 hK7 => ?_
            refine HC_block ?_
            refine HC_seq fun K8 hK8 => ?_
            refine HC_draw 7 (by kernel_rfl) (by kernel_rfl) ?_
            all_goals refine HD_r rfl rfl rfl (R_loadArr (xs := a.map uV) (n := 4) rfl (known_L (k := 1) rfl) rfl rfl (by rw [List.length_map, ha.1])) ?_
            all_goals refine HD_r rfl rfl rfl (R_move rfl) ?_; refine HD_as (show _ = Value.int .i64 ((31 - m : Nat) : Int) from congrArg (Value.int .i64) (by omega)) ?_
            all_goals refine HD_callP rfl rfl rfl (enters_of Tryd.func30 (by kernel_rfl) rfl) (P_digit ha (i := 31 - m) (by omega)) ?_
            all_goals refine HD_r rfl rfl rfl (R_loadArr (xs := b.map uV) (n := 4) rfl (known_L (k := 0) rfl) rfl rfl (by rw [List.length_map, hb.1])) ?_
            all_goals refine HD_r rfl rfl rfl (R_move rfl) ?_; refine HD_as (show _ = Value.int .i64 ((31 - m : Nat) : Int) from congrArg (Value.int .i64) (by omega)) ?_
            all_goals refine HD_callP rfl rfl rfl (enters_of Tryd.func30 (by kernel_rfl) rfl) (P_digit hb (i := 31 - m) (by omega)) ?_
            all_goals refine HD_r rfl rfl rfl (R_pure rfl rfl rfl) ?_
            all_goals refine HD_end ?_
            all_goals refine HL_nil ?_
            all_goals (
              refine HQ_then ?_
              refine hK8 _ _ _ _ ?_; clear hK8 K8
              refine HC_cond rfl (fun h9 => ?_) (fun h9 => ?_)
              · try exact Bool.noConfusion h9
                all_goals try simp only [decide_eq_true_eq, decide_eq_false_iff_not, beq_iff_eq, beq_eq_false_iff_ne, bne_iff_ne, bne_eq_false_iff_eq, Bool.not_eq_true', Bool.not_eq_false', ne_eq, Int.not_lt, Int.not_le, ge_iff_le, gt_iff_lt] at h9
                all_goals (
                  refine HC_seq fun K10 hK10 => ?_
                  refine HC_draw 8 (by kernel_rfl) (by kernel_rfl) ?_
                  all_goals refine HD_r rfl rfl rfl (R_loadArr (xs := a.map uV) (n := 4) rfl (known_L (k := 1) rfl) rfl rfl (by rw [List.length_map, ha.1])) ?_
                  all_goals refine HD_r rfl rfl rfl (R_move rfl) ?_; refine HD_as (show _ = Value.int .i64 ((31 - m : Nat) : Int) from congrArg (Value.int .i64) (by omega)) ?_
                  all_goals refine HD_callP rfl rfl rfl (enters_of Tryd.func30 (by kernel_rfl) rfl) (P_digit ha (i := 31 - m) (by omega)) ?_
                  all_goals refine HD_r rfl rfl rfl (R_loadArr (xs := b.map uV) (n := 4) rfl (known_L (k := 0) rfl) rfl rfl (by rw [List.length_map, hb.1])) ?_
                  all_goals refine HD_r rfl rfl rfl (R_move rfl) ?_; refine HD_as (show _ = Value.int .i64 ((31 - m : Nat) : Int) from congrArg (Value.int .i64) (by omega)) ?_
                  all_goals refine HD_callP rfl rfl rfl (enters_of Tryd.func30 (by kernel_rfl) rfl) (P_digit hb (i := 31 - m) (by omega)) ?_
                  all_goals refine HD_r rfl rfl rfl (R_pure rfl rfl rfl) ?_
                  all_goals refine HD_r rfl rfl rfl (R_assign rfl) ?_
                  all_goals refine HD_end ?_
                  all_goals refine HL_nil ?_
                  all_goals (
                    refine HQ_then ?_
                    refine hK10 _ _ _ _ ?_; clear hK10 K10
                    refine HC_ret ?_
                    refine HQ_blockR ?_
                    refine HQ_thenR ?_; clear hK7 K7
                    refine HQ_thenR ?_
                    refine HQ_blockR ?_
                    refine HQ_thenR ?_; clear hK2 K2
                    refine HQ_post rfl rfl (.cons (res_tmp rfl) .nil) (fun w1 hs1 => ?_)
                    refine ⟨?_, hs1.keep⟩
                    first
                      | (rw [less_at ha hb (i := 31 - m) (by omega) (fun t h1 h2 => hsame t (by omega) h2) (by omega)]; simp [resVal]; done)
                      | (have hab : a = b := same_digits ha hb fun t h => hsame t (by omega) h
                         subst hab; simp [resVal])
                    skip)
                  skip)
              · try exact Bool.noConfusion h9
                all_goals try simp only [decide_eq_true_eq, decide_eq_false_iff_not, beq_iff_eq, beq_eq_false_iff_ne, bne_iff_ne, bne_eq_false_iff_eq, Bool.not_eq_true', Bool.not_eq_false', ne_eq, Int.not_lt, Int.not_le, ge_iff_le, gt_iff_lt] at h9
                all_goals (
                  refine HC_skip ?_
                  refine HQ_blockN ?_
                  refine HQ_then ?_
                  refine hK7 _ _ _ _ ?_; clear hK7 K7
                  refine HC_region ?_
                  all_goals refine HL_r rfl rfl rfl rfl (R_move rfl) ?_
                  all_goals first
                    | (refine HL_r rfl rfl rfl rfl (R_pure rfl rfl rfl) ?_; refine HL_wrap_i64 (by omega) (by omega) ?_)
                    | (refine HL_r rfl rfl rfl rfl (R_pure rfl rfl rfl) ?_)
                  all_goals refine HL_r rfl rfl rfl rfl (R_assign rfl) ?_
                  all_goals refine HL_nil ?_
                  all_goals (
                    refine HQ_then ?_
                    exact HQ_again (m + 1) ⟨by omega, fun t h1 h2 => by
                        by_cases e : t = 31 - m
                        · subst e; omega
                        · exact hsame t (by omega) h2⟩ (by omega) (.cons rfl (.cons rfl (.cons (congrArg (fun z => some (Value.int .i64 z)) (by omega)) .nil))) (List.Sublist.refl _) (fun _ _ h => h)
                    skip)
                  skip)
              skip)
            skip)
        · try exact Bool.noConfusion h6
          all_goals try simp only [decide_eq_true_eq, decide_eq_false_iff_not, beq_iff_eq, beq_eq_false_iff_ne, bne_iff_ne, bne_eq_false_iff_eq, Bool.not_eq_true', Bool.not_eq_false', ne_eq, Int.not_lt, Int.not_le, ge_iff_le, gt_iff_lt] at h6
          all_goals (
            refine HC_exit ?_
            refine HQ_thenE ?_; clear hK4 K4
            refine HQ_thenE ?_
            refine HQ_blockE ?_
            refine HQ_then ?_
            refine hK2 _ _ _ _ ?_; clear hK2 K2
            refine HC_seq fun K11 hK11 => ?_
            refine HC_region ?_
            all_goals refine HL_r rfl rfl rfl rfl (R_assign rfl) ?_
            all_goals refine HL_nil ?_
            all_goals (
              refine HQ_then ?_
              refine hK11 _ _ _ _ ?_; clear hK11 K11
              refine HC_ret ?_
              refine HQ_post rfl rfl (.cons (res_tmp rfl) .nil) (fun w1 hs1 => ?_)
              refine ⟨?_, hs1.keep⟩
              first
                | (rw [less_at ha hb (i := 31 - m) (by omega) (fun t h1 h2 => hsame t (by omega) h2) (by omega)]; simp [resVal]; done)
                | (have hab : a = b := same_digits ha hb fun t h => hsame t (by omega) h
                   subst hab; simp [resVal])
              skip)
            skip)
        skip)
      skip)
    skip)
end Go.Proofs.YtpognifhchikgaaDoor
