import Derived.Test.YthfinkklgbiaeaaDoorWb
namespace Go.Proofs.YthfinkklgbiaeaaDoor
set_option linter.all false
open Go.SL Go.RowKit Go.Shelf
set_option maxRecDepth 10000 in
theorem P_ref_Unfixed (s : List UInt8) : Pure Tryd.prog 38 [.string (bs s)].toArray (resW (unfR s)) := by
  refine pure_of_HC Tryd.func38 rfl rfl fun w => ?_
  refine HC_seq fun K1 hK1 => ?_
  refine HC_region ?_
  all_goals refine HL_alloc (cs := #[_, _, _, _]) rfl rfl rfl rfl fun r1 => ?_
  all_goals refine HL_r rfl rfl rfl rfl (R_assign rfl) ?_
  all_goals refine HL_nil ?_
  all_goals (
    refine HQ_then ?_
    refine hK1 _ _ _ _ ?_; clear hK1 K1
    refine HC_seq fun K2 hK2 => ?_
    refine HC_seq fun K3 hK3 => ?_
    refine HC_region ?_
    all_goals refine HL_r rfl rfl rfl rfl (R_move rfl) ?_
    all_goals first
      | (refine HL_r rfl rfl rfl rfl (R_lenBs rfl rfl) ?_)
      | (refine HL_r rfl rfl rfl rfl (R_lenSl rfl rfl) ?_)
      | (refine HL_r rfl rfl rfl rfl (R_lenStr rfl rfl rfl) ?_)
      | (refine HL_r rfl rfl rfl rfl (R_pure rfl rfl rfl) ?_)
    all_goals refine HL_r rfl rfl rfl rfl (R_pure rfl rfl rfl) ?_
    all_goals refine HL_nil ?_
    all_goals (
      refine HQ_then ?_
      refine hK3 _ _ _ _ ?_; clear hK3 K3
      refine HC_cond rfl (fun h4 => ?_) (fun h4 => ?_)
      · try exact Bool.noConfusion h4
        all_goals try simp only [decide_eq_true_eq, decide_eq_false_iff_not, beq_iff_eq, beq_eq_false_iff_ne, bne_iff_ne, bne_eq_false_iff_eq, Bool.not_eq_true', Bool.not_eq_false', ne_eq, Int.not_lt, Int.not_le, ge_iff_le, gt_iff_lt] at h4
        all_goals (
          refine HC_seq fun K5 hK5 => ?_
          refine HC_region ?_
          all_goals refine HL_r rfl rfl rfl rfl (R_build (r := [_, _, _, _]) rfl rfl) ?_
          all_goals first
            | (refine HL_storeA (k := 0) (n := 4) (cs' := #[_, _, _, _]) (vs := #[_, _, _, _]) rfl rfl rfl rfl rfl rfl rfl (by exact Nat.le_of_ble_eq_true rfl) rfl (by first | (simp only [List.set_cons_zero, List.set_cons_succ]; exact rfl) | exact rfl) ?_)
            | (refine HL_storeA (k := 1) (n := 4) (cs' := #[_, _, _, _]) (vs := #[_, _, _, _]) rfl rfl rfl rfl rfl rfl rfl (by exact Nat.le_of_ble_eq_true rfl) rfl (by first | (simp only [List.set_cons_zero, List.set_cons_succ]; exact rfl) | exact rfl) ?_)
            | (refine HL_storeA (k := 2) (n := 4) (cs' := #[_, _, _, _]) (vs := #[_, _, _, _]) rfl rfl rfl rfl rfl rfl rfl (by exact Nat.le_of_ble_eq_true rfl) rfl (by first | (simp only [List.set_cons_zero, List.set_cons_succ]; exact rfl) | exact rfl) ?_)
            | (refine HL_storeA (k := 3) (n := 4) (cs' := #[_, _, _, _]) (vs := #[_, _, _, _]) rfl rfl rfl rfl rfl rfl rfl (by exact Nat.le_of_ble_eq_true rfl) rfl (by first | (simp only [List.set_cons_zero, List.set_cons_succ]; exact rfl) | exact rfl) ?_)
            | (refine HL_storeA (k := 4) (n := 4) (cs' := #[_, _, _, _]) (vs := #[_, _, _, _]) rfl rfl rfl rfl rfl rfl rfl (by exact Nat.le_of_ble_eq_true rfl) rfl (by first | (simp only [List.set_cons_zero, List.set_cons_succ]; exact rfl) | exact rfl) ?_)
            | (refine HL_storeA (k := 5) (n := 4) (cs' := #[_, _, _, _]) (vs := #[_, _, _, _]) rfl rfl rfl rfl rfl rfl rfl (by exact Nat.le_of_ble_eq_true rfl) rfl (by first | (simp only [List.set_cons_zero, List.set_cons_succ]; exact rfl) | exact rfl) ?_)
            | (refine HL_storeA (k := 0) (n := 4) (vs := #[_, _, _, _]) rfl rfl rfl rfl rfl rfl rfl (by exact Nat.le_of_ble_eq_true rfl) (by first | (simp only [List.take_zero, List.nil_append, Array.toList_toArray, List.drop_succ_cons, List.drop_zero, List.take_succ_cons, List.cons_append, Nat.zero_add, Nat.reduceAdd, List.append_nil, List.drop_nil]; exact rfl) | exact rfl) (by first | (simp only [List.set_cons_zero, List.set_cons_succ]; exact rfl) | exact rfl) ?_)
            | (refine HL_storeA (k := 1) (n := 4) (vs := #[_, _, _, _]) rfl rfl rfl rfl rfl rfl rfl (by exact Nat.le_of_ble_eq_true rfl) (by first | (simp only [List.take_zero, List.nil_append, Array.toList_toArray, List.drop_succ_cons, List.drop_zero, List.take_succ_cons, List.cons_append, Nat.zero_add, Nat.reduceAdd, List.append_nil, List.drop_nil]; exact rfl) | exact rfl) (by first | (simp only [List.set_cons_zero, List.set_cons_succ]; exact rfl) | exact rfl) ?_)
            | (refine HL_storeA (k := 2) (n := 4) (vs := #[_, _, _, _]) rfl rfl rfl rfl rfl rfl rfl (by exact Nat.le_of_ble_eq_true rfl) (by first | (simp only [List.take_zero, List.nil_append, Array.toList_toArray, List.drop_succ_cons, List.drop_zero, List.take_succ_cons, List.cons_append, Nat.zero_add, Nat.reduceAdd, List.append_nil, List.drop_nil]; exact rfl) | exact rfl) (by first | (simp only [List.set_cons_zero, List.set_cons_succ]; exact rfl) | exact rfl) ?_)
            | (refine HL_storeA (k := 3) (n := 4) (vs := #[_, _, _, _]) rfl rfl rfl rfl rfl rfl rfl (by exact Nat.le_of_ble_eq_true rfl) (by first | (simp only [List.take_zero, List.nil_append, Array.toList_toArray, List.drop_succ_cons, List.drop_zero, List.take_succ_cons, List.cons_append, Nat.zero_add, Nat.reduceAdd, List.append_nil, List.drop_nil]; exact rfl) | exact rfl) (by first | (simp only [List.set_cons_zero, List.set_cons_succ]; exact rfl) | exact rfl) ?_)
            | (refine HL_storeA (k := 4) (n := 4) (vs := #[_, _, _, _]) rfl rfl rfl rfl rfl rfl rfl (by exact Nat.le_of_ble_eq_true rfl) (by first | (simp only [List.take_zero, List.nil_append, Array.toList_toArray, List.drop_succ_cons, List.drop_zero, List.take_succ_cons, List.cons_append, Nat.zero_add, Nat.reduceAdd, List.append_nil, List.drop_nil]; exact rfl) | exact rfl) (by first | (simp only [List.set_cons_zero, List.set_cons_succ]; exact rfl) | exact rfl) ?_)
            | (refine HL_storeA (k := 5) (n := 4) (vs := #[_, _, _, _]) rfl rfl rfl rfl rfl rfl rfl (by exact Nat.le_of_ble_eq_true rfl) (by first | (simp only [List.take_zero, List.nil_append, Array.toList_toArray, List.drop_succ_cons, List.drop_zero, List.take_succ_cons, List.cons_append, Nat.zero_add, Nat.reduceAdd, List.append_nil, List.drop_nil]; exact rfl) | exact rfl) (by first | (simp only [List.set_cons_zero, List.set_cons_succ]; exact rfl) | exact rfl) ?_)
          all_goals refine HL_r rfl rfl rfl rfl (R_assign rfl) ?_
          all_goals refine HL_nil ?_
          all_goals (
            refine HQ_then ?_
            refine hK5 _ _ _ _ ?_; clear hK5 K5
            refine HC_ret ?_
            refine HQ_thenR ?_; clear hK2 K2
            first
              | refine HQ_post rfl rfl (.cons (res_cellA (vs := [_, _, _, _]) rfl (known_L (k := 0) rfl) rfl rfl) (.cons (res_tmp rfl) .nil)) (fun w1 hs1 => ?_)
              | refine HQ_post rfl rfl (.cons (res_cellA (vs := [_, _, _, _]) rfl (known_L (k := 1) rfl) rfl rfl) (.cons (res_tmp rfl) .nil)) (fun w1 hs1 => ?_)
              | refine HQ_post rfl rfl (.cons (res_cellA (vs := [_, _, _, _]) rfl (known_L (k := 2) rfl) rfl rfl) (.cons (res_tmp rfl) .nil)) (fun w1 hs1 => ?_)
              | refine HQ_post rfl rfl (.cons (res_cellA (vs := [_, _, _, _]) rfl (known_L (k := 3) rfl) rfl rfl) (.cons (res_tmp rfl) .nil)) (fun w1 hs1 => ?_)
              | refine HQ_post rfl rfl (.cons (res_cellA (vs := [_, _, _, _]) rfl (known_L (k := 4) rfl) rfl rfl) (.cons (res_tmp rfl) .nil)) (fun w1 hs1 => ?_)
              | refine HQ_post rfl rfl (.cons (res_cellA (vs := [_, _, _, _]) rfl (known_L (k := 5) rfl) rfl rfl) (.cons (res_tmp rfl) .nil)) (fun w1 hs1 => ?_)
            refine ⟨?_, hs1.keep⟩
            first
              | (rw [show unfR s = (zW, 2) from by unfold unfR; rw [if_neg (by omega)]]; rfl)
              | (rw [show unfR s = (unfW s, 0) from by unfold unfR; rw [if_pos (by omega)]]; rfl)
            skip)
          skip)
      · try exact Bool.noConfusion h4
        all_goals try simp only [decide_eq_true_eq, decide_eq_false_iff_not, beq_iff_eq, beq_eq_false_iff_ne, bne_iff_ne, bne_eq_false_iff_eq, Bool.not_eq_true', Bool.not_eq_false', ne_eq, Int.not_lt, Int.not_le, ge_iff_le, gt_iff_lt] at h4
        all_goals (
          refine HC_skip ?_
          refine HQ_then ?_
          refine hK2 _ _ _ _ ?_; clear hK2 K2
          refine HC_seq fun K6 hK6 => ?_
          refine HC_region ?_
          all_goals refine HL_r rfl rfl rfl rfl (R_assign rfl) ?_
          all_goals refine HL_nil ?_
          all_goals (
            refine HQ_then ?_
            refine hK6 _ _ _ _ ?_; clear hK6 K6
            refine HC_seq fun K7 hK7 => ?_
            refine HC_seq fun K8 hK8 => ?_
            refine HC_region ?_
            all_goals refine HL_r rfl rfl rfl rfl (R_assign rfl) ?_
            all_goals refine HL_nil ?_
            all_goals (
              refine HQ_then ?_
              refine hK8 _ _ _ _ ?_; clear hK8 K8
              refine HC_block ?_
              refine HC_loop (σ := Nat × List Value × Row) (fun q => q.1 ≤ 32 ∧ q.2.1 = (nsOf s q.1).map iV ∧ rowOk 1 q.1 q.2.1 q.2.2) (fun q => [(0, .string (bs s)), (2, .pointer (some ⟨r1, 0, none⟩)), (4, rowV q.1 q.2.2), (5, .int .i64 (31 - (q.1 : Int)))]) (fun q => (r1, .cells (zW.map uV).toArray 51 (0, 0)) :: rowL 3 q.2.1 q.2.2) (fun _ _ _ => True) (fun q => 32 - q.1) (0, [], none) ⟨by decide, rfl, ⟨rfl, rfl⟩⟩ (.cons rfl (.cons rfl (.cons rfl (.cons rfl .nil)))) (List.Sublist.refl _) (fun _ _ h => h) ?_
              rintro ⟨m, xs, row⟩ ⟨hm, hxs, hrow⟩
              simp only at hm hxs hrow ⊢
              refine HC_seq fun K9 hK9 => ?_
              refine HC_seq fun K10 hK10 => ?_
              refine HC_region ?_
              all_goals refine HL_r rfl rfl rfl rfl (R_move rfl) ?_
              all_goals refine HL_r rfl rfl rfl rfl (R_pure rfl rfl rfl) ?_
              all_goals refine HL_nil ?_
              all_goals (
                refine HQ_then ?_
                refine hK10 _ _ _ _ ?_; clear hK10 K10
                refine HC_cond rfl (fun h11 => ?_) (fun h11 => ?_)
                · try exact Bool.noConfusion h11
                  all_goals try simp only [decide_eq_true_eq, decide_eq_false_iff_not, beq_iff_eq, beq_eq_false_iff_ne, bne_iff_ne, bne_eq_false_iff_eq, Bool.not_eq_true', Bool.not_eq_false', ne_eq, Int.not_lt, Int.not_le, ge_iff_le, gt_iff_lt] at h11
                  all_goals (
                    refine HC_skip ?_
                    refine HQ_then ?_
                    refine hK9 _ _ _ _ ?_; clear hK9 K9
                    refine HC_seq fun K12 hK12 => ?_
                    refine HC_block ?_
                    refine HC_region ?_
                    all_goals refine HL_r rfl rfl rfl rfl (R_move rfl) ?_
                    all_goals refine HL_r rfl rfl rfl rfl (R_move rfl) ?_
                    all_goals refine HL_r rfl rfl rfl rfl (R_move rfl) ?_; refine HL_as (show _ = Value.int .i64 ((31 - m : Nat) : Int) from congrArg (Value.int .i64) (by omega)) ?_
                    all_goals refine HL_r rfl rfl rfl rfl (R_indexBs (j := 31 - m) rfl rfl rfl rfl (by omega) rfl) ?_
                    all_goals refine HL_r rfl rfl rfl rfl (R_pure rfl rfl rfl) ?_; refine HL_as (show _ = Value.int .i64 ((s.getD (31 - m) 0).toNat : Nat) from congrArg (Value.int .i64) (wrap_i64 (by omega) (by have := u8_lt (s.getD (31 - m) 0); omega))) ?_
                    all_goals refine HL_buildSlice (vs := [_]) (zs := [_]) (r := [_]) rfl rfl rfl rfl rfl rfl rfl rfl rfl (by show (madeCells #[_] _).toList = _; rw [made_one]; exact rfl) rfl fun r2 => ?_
                    all_goals refine HL_appendRow (L0 := [_, _]) (xs := xs) (row := row) (n := m) (sz := 1) (b := 8) (news := [_]) (List.perm_append_comm (l₁ := [_, _])) rfl rfl rfl rfl (known_L (k := 0) rfl) rfl rfl rfl rfl rfl (by decide) rfl rfl rfl (by decide) hrow (by omega) (by omega) fun ra cap sp hra => ?_
                    all_goals refine HL_r rfl rfl rfl rfl (R_assign rfl) ?_
                    all_goals refine HL_nil ?_
                    all_goals (
                      refine HQ_blockN ?_
                      refine HQ_then ?_
                      refine hK12 _ _ _ _ ?_; clear hK12 K12
                      refine HC_region ?_
                      all_goals refine HL_r rfl rfl rfl rfl (R_move rfl) ?_
                      all_goals first
                        | (refine HL_r rfl rfl rfl rfl (R_pure rfl rfl rfl) ?_; refine HL_wrap_i64 (by omega) (by omega) ?_)
                        | (refine HL_r rfl rfl rfl rfl (R_pure rfl rfl rfl) ?_)
                      all_goals refine HL_r rfl rfl rfl rfl (R_assign rfl) ?_
                      all_goals refine HL_nil ?_
                      all_goals (
                        refine HQ_then ?_
                        refine HQ_sel [2, 0] (L' := [_, _]) (by decide) rfl ?_
                        exact HQ_again (m + 1, xs ++ [Value.int .i64 ((s.getD (31 - m) 0).toNat : Nat)], some (ra, cap, sp)) ⟨by simp only; omega, by simp only; rw [nsOf_succ, hxs], hra⟩ (by simp only; omega) (.cons rfl (.cons rfl (.cons rfl (.cons (congrArg (fun z => some (Value.int .i64 z)) (by simp only; omega)) .nil)))) (List.Sublist.refl _) (fun _ _ h => h)
                        skip)
                      skip)
                    skip)
                · try exact Bool.noConfusion h11
                  all_goals try simp only [decide_eq_true_eq, decide_eq_false_iff_not, beq_iff_eq, beq_eq_false_iff_ne, bne_iff_ne, bne_eq_false_iff_eq, Bool.not_eq_true', Bool.not_eq_false', ne_eq, Int.not_lt, Int.not_le, ge_iff_le, gt_iff_lt] at h11
                  all_goals (
                    refine HC_exit ?_
                    refine HQ_thenE ?_; clear hK9 K9
                    refine HQ_thenE ?_
                    refine HQ_blockE ?_
                    refine HQ_then ?_
                    refine hK7 _ _ _ _ ?_; clear hK7 K7
                    refine HC_seq fun K13 hK13 => ?_
                    have hm32 : m = 32 := by omega
                    subst hm32
                    subst hxs
                    refine HC_region ?_
                    all_goals refine HL_r rfl rfl rfl rfl (R_move rfl) ?_
                    all_goals refine HL_callR rfl rfl rfl (enters_of Tryd.func51 (by kernel_rfl) rfl) (R_of (ns := nsOf s 32) (nsOf_lt s) rfl hrow) (fun p hp => .inl (List.mem_cons_of_mem _ hp)) ?_; refine HL_as (congrArg wV (nsOf_unf s)) ?_
                    all_goals refine HL_storeArr (k := 0) (n := 4) (ys := (unfW s).map uV) rfl rfl rfl rfl rfl rfl rfl rfl rfl ?_
                    all_goals refine HL_r rfl rfl rfl rfl (R_assign rfl) ?_
                    all_goals refine HL_nil ?_
                    all_goals (
                      refine HQ_then ?_
                      refine hK13 _ _ _ _ ?_; clear hK13 K13
                      refine HC_ret ?_
                      first
                        | refine HQ_post rfl rfl (.cons (res_cellA (vs := [_, _, _, _]) rfl (known_L (k := 0) rfl) rfl rfl) (.cons (res_tmp rfl) .nil)) (fun w1 hs1 => ?_)
                        | refine HQ_post rfl rfl (.cons (res_cellA (vs := [_, _, _, _]) rfl (known_L (k := 1) rfl) rfl rfl) (.cons (res_tmp rfl) .nil)) (fun w1 hs1 => ?_)
                        | refine HQ_post rfl rfl (.cons (res_cellA (vs := [_, _, _, _]) rfl (known_L (k := 2) rfl) rfl rfl) (.cons (res_tmp rfl) .nil)) (fun w1 hs1 => ?_)
                        | refine HQ_post rfl rfl (.cons (res_cellA (vs := [_, _, _, _]) rfl (known_L (k := 3) rfl) rfl rfl) (.cons (res_tmp rfl) .nil)) (fun w1 hs1 => ?_)
                        | refine HQ_post rfl rfl (.cons (res_cellA (vs := [_, _, _, _]) rfl (known_L (k := 4) rfl) rfl rfl) (.cons (res_tmp rfl) .nil)) (fun w1 hs1 => ?_)
                        | refine HQ_post rfl rfl (.cons (res_cellA (vs := [_, _, _, _]) rfl (known_L (k := 5) rfl) rfl rfl) (.cons (res_tmp rfl) .nil)) (fun w1 hs1 => ?_)
                      refine ⟨?_, hs1.keep⟩
                      first
                        | (rw [show unfR s = (zW, 2) from by unfold unfR; rw [if_neg (by omega)]]; rfl)
                        | (rw [show unfR s = (unfW s, 0) from by unfold unfR; rw [if_pos (by omega)]]; rfl)
                      skip)
                    skip)
                skip)
              skip)
            skip)
          skip)
      skip)
    skip)
set_option maxRecDepth 10000 in
theorem P_word_Unfixed (s : List UInt8) : Pure Tryd.prog 35 [.string (bs s)].toArray (resW (unfR s)) := by
  refine pure_of_HC Tryd.func35 rfl rfl fun w => ?_
  obtain ⟨f, hf⟩ : ∃ f : Nat → Nat, f = fun t => (s.getD (31 - t) 0).toNat := ⟨_, rfl⟩
  have hfl : ∀ i, f i < 256 := fun i => by rw [hf]; exact u8_lt _
  have hfu : stW f 32 = unfW s := by rw [hf]; rfl
  refine HC_seq fun K1 hK1 => ?_
  refine HC_region ?_
  all_goals refine HL_alloc (cs := #[_, _, _, _]) rfl rfl rfl rfl fun r1 => ?_
  all_goals refine HL_r rfl rfl rfl rfl (R_assign rfl) ?_
  all_goals refine HL_nil ?_
  all_goals (
    refine HQ_then ?_
    refine hK1 _ _ _ _ ?_; clear hK1 K1
    refine HC_seq fun K2 hK2 => ?_
    refine HC_seq fun K3 hK3 => ?_
    refine HC_region ?_
    all_goals refine HL_r rfl rfl rfl rfl (R_move rfl) ?_
    all_goals first
      | (refine HL_r rfl rfl rfl rfl (R_lenBs rfl rfl) ?_)
      | (refine HL_r rfl rfl rfl rfl (R_lenSl rfl rfl) ?_)
      | (refine HL_r rfl rfl rfl rfl (R_lenStr rfl rfl rfl) ?_)
      | (refine HL_r rfl rfl rfl rfl (R_pure rfl rfl rfl) ?_)
    all_goals refine HL_r rfl rfl rfl rfl (R_pure rfl rfl rfl) ?_
    all_goals refine HL_nil ?_
    all_goals (
      refine HQ_then ?_
      refine hK3 _ _ _ _ ?_; clear hK3 K3
      refine HC_cond rfl (fun h4 => ?_) (fun h4 => ?_)
      · try exact Bool.noConfusion h4
        all_goals try simp only [decide_eq_true_eq, decide_eq_false_iff_not, beq_iff_eq, beq_eq_false_iff_ne, bne_iff_ne, bne_eq_false_iff_eq, Bool.not_eq_true', Bool.not_eq_false', ne_eq, Int.not_lt, Int.not_le, ge_iff_le, gt_iff_lt] at h4
        all_goals (
          refine HC_seq fun K5 hK5 => ?_
          refine HC_region ?_
          all_goals refine HL_r rfl rfl rfl rfl (R_build (r := [_, _, _, _]) rfl rfl) ?_
          all_goals first
            | (refine HL_storeA (k := 0) (n := 4) (cs' := #[_, _, _, _]) (vs := #[_, _, _, _]) rfl rfl rfl rfl rfl rfl rfl (by exact Nat.le_of_ble_eq_true rfl) rfl (by first | (simp only [List.set_cons_zero, List.set_cons_succ]; exact rfl) | exact rfl) ?_)
            | (refine HL_storeA (k := 1) (n := 4) (cs' := #[_, _, _, _]) (vs := #[_, _, _, _]) rfl rfl rfl rfl rfl rfl rfl (by exact Nat.le_of_ble_eq_true rfl) rfl (by first | (simp only [List.set_cons_zero, List.set_cons_succ]; exact rfl) | exact rfl) ?_)
            | (refine HL_storeA (k := 2) (n := 4) (cs' := #[_, _, _, _]) (vs := #[_, _, _, _]) rfl rfl rfl rfl rfl rfl rfl (by exact Nat.le_of_ble_eq_true rfl) rfl (by first | (simp only [List.set_cons_zero, List.set_cons_succ]; exact rfl) | exact rfl) ?_)
            | (refine HL_storeA (k := 3) (n := 4) (cs' := #[_, _, _, _]) (vs := #[_, _, _, _]) rfl rfl rfl rfl rfl rfl rfl (by exact Nat.le_of_ble_eq_true rfl) rfl (by first | (simp only [List.set_cons_zero, List.set_cons_succ]; exact rfl) | exact rfl) ?_)
            | (refine HL_storeA (k := 4) (n := 4) (cs' := #[_, _, _, _]) (vs := #[_, _, _, _]) rfl rfl rfl rfl rfl rfl rfl (by exact Nat.le_of_ble_eq_true rfl) rfl (by first | (simp only [List.set_cons_zero, List.set_cons_succ]; exact rfl) | exact rfl) ?_)
            | (refine HL_storeA (k := 5) (n := 4) (cs' := #[_, _, _, _]) (vs := #[_, _, _, _]) rfl rfl rfl rfl rfl rfl rfl (by exact Nat.le_of_ble_eq_true rfl) rfl (by first | (simp only [List.set_cons_zero, List.set_cons_succ]; exact rfl) | exact rfl) ?_)
            | (refine HL_storeA (k := 0) (n := 4) (vs := #[_, _, _, _]) rfl rfl rfl rfl rfl rfl rfl (by exact Nat.le_of_ble_eq_true rfl) (by first | (simp only [List.take_zero, List.nil_append, Array.toList_toArray, List.drop_succ_cons, List.drop_zero, List.take_succ_cons, List.cons_append, Nat.zero_add, Nat.reduceAdd, List.append_nil, List.drop_nil]; exact rfl) | exact rfl) (by first | (simp only [List.set_cons_zero, List.set_cons_succ]; exact rfl) | exact rfl) ?_)
            | (refine HL_storeA (k := 1) (n := 4) (vs := #[_, _, _, _]) rfl rfl rfl rfl rfl rfl rfl (by exact Nat.le_of_ble_eq_true rfl) (by first | (simp only [List.take_zero, List.nil_append, Array.toList_toArray, List.drop_succ_cons, List.drop_zero, List.take_succ_cons, List.cons_append, Nat.zero_add, Nat.reduceAdd, List.append_nil, List.drop_nil]; exact rfl) | exact rfl) (by first | (simp only [List.set_cons_zero, List.set_cons_succ]; exact rfl) | exact rfl) ?_)
            | (refine HL_storeA (k := 2) (n := 4) (vs := #[_, _, _, _]) rfl rfl rfl rfl rfl rfl rfl (by exact Nat.le_of_ble_eq_true rfl) (by first | (simp only [List.take_zero, List.nil_append, Array.toList_toArray, List.drop_succ_cons, List.drop_zero, List.take_succ_cons, List.cons_append, Nat.zero_add, Nat.reduceAdd, List.append_nil, List.drop_nil]; exact rfl) | exact rfl) (by first | (simp only [List.set_cons_zero, List.set_cons_succ]; exact rfl) | exact rfl) ?_)
            | (refine HL_storeA (k := 3) (n := 4) (vs := #[_, _, _, _]) rfl rfl rfl rfl rfl rfl rfl (by exact Nat.le_of_ble_eq_true rfl) (by first | (simp only [List.take_zero, List.nil_append, Array.toList_toArray, List.drop_succ_cons, List.drop_zero, List.take_succ_cons, List.cons_append, Nat.zero_add, Nat.reduceAdd, List.append_nil, List.drop_nil]; exact rfl) | exact rfl) (by first | (simp only [List.set_cons_zero, List.set_cons_succ]; exact rfl) | exact rfl) ?_)
            | (refine HL_storeA (k := 4) (n := 4) (vs := #[_, _, _, _]) rfl rfl rfl rfl rfl rfl rfl (by exact Nat.le_of_ble_eq_true rfl) (by first | (simp only [List.take_zero, List.nil_append, Array.toList_toArray, List.drop_succ_cons, List.drop_zero, List.take_succ_cons, List.cons_append, Nat.zero_add, Nat.reduceAdd, List.append_nil, List.drop_nil]; exact rfl) | exact rfl) (by first | (simp only [List.set_cons_zero, List.set_cons_succ]; exact rfl) | exact rfl) ?_)
            | (refine HL_storeA (k := 5) (n := 4) (vs := #[_, _, _, _]) rfl rfl rfl rfl rfl rfl rfl (by exact Nat.le_of_ble_eq_true rfl) (by first | (simp only [List.take_zero, List.nil_append, Array.toList_toArray, List.drop_succ_cons, List.drop_zero, List.take_succ_cons, List.cons_append, Nat.zero_add, Nat.reduceAdd, List.append_nil, List.drop_nil]; exact rfl) | exact rfl) (by first | (simp only [List.set_cons_zero, List.set_cons_succ]; exact rfl) | exact rfl) ?_)
          all_goals refine HL_r rfl rfl rfl rfl (R_assign rfl) ?_
          all_goals refine HL_nil ?_
          all_goals (
            refine HQ_then ?_
            refine hK5 _ _ _ _ ?_; clear hK5 K5
            refine HC_ret ?_
            refine HQ_thenR ?_; clear hK2 K2
            first
              | refine HQ_post rfl rfl (.cons (res_cellA (vs := [_, _, _, _]) rfl (known_L (k := 0) rfl) rfl rfl) (.cons (res_tmp rfl) .nil)) (fun w1 hs1 => ?_)
              | refine HQ_post rfl rfl (.cons (res_cellA (vs := [_, _, _, _]) rfl (known_L (k := 1) rfl) rfl rfl) (.cons (res_tmp rfl) .nil)) (fun w1 hs1 => ?_)
              | refine HQ_post rfl rfl (.cons (res_cellA (vs := [_, _, _, _]) rfl (known_L (k := 2) rfl) rfl rfl) (.cons (res_tmp rfl) .nil)) (fun w1 hs1 => ?_)
              | refine HQ_post rfl rfl (.cons (res_cellA (vs := [_, _, _, _]) rfl (known_L (k := 3) rfl) rfl rfl) (.cons (res_tmp rfl) .nil)) (fun w1 hs1 => ?_)
              | refine HQ_post rfl rfl (.cons (res_cellA (vs := [_, _, _, _]) rfl (known_L (k := 4) rfl) rfl rfl) (.cons (res_tmp rfl) .nil)) (fun w1 hs1 => ?_)
              | refine HQ_post rfl rfl (.cons (res_cellA (vs := [_, _, _, _]) rfl (known_L (k := 5) rfl) rfl rfl) (.cons (res_tmp rfl) .nil)) (fun w1 hs1 => ?_)
            refine ⟨?_, hs1.keep⟩
            first
              | (rw [show unfR s = (zW, 2) from by unfold unfR; rw [if_neg (by omega)]]; rfl)
              | (rw [show unfR s = (unfW s, 0) from by unfold unfR; rw [if_pos (by omega)], ← hfu]; rfl)
            skip)
          skip)
      · try exact Bool.noConfusion h4
        all_goals try simp only [decide_eq_true_eq, decide_eq_false_iff_not, beq_iff_eq, beq_eq_false_iff_ne, bne_iff_ne, bne_eq_false_iff_eq, Bool.not_eq_true', Bool.not_eq_false', ne_eq, Int.not_lt, Int.not_le, ge_iff_le, gt_iff_lt] at h4
        all_goals (
          refine HC_skip ?_
          refine HQ_then ?_
          refine hK2 _ _ _ _ ?_; clear hK2 K2
          refine HC_seq fun K6 hK6 => ?_
          refine HC_region ?_
          all_goals refine HL_alloc (cs := #[_, _, _, _]) rfl rfl rfl rfl fun r2 => ?_
          all_goals refine HL_nil ?_
          all_goals (
            refine HQ_then ?_
            refine hK6 _ _ _ _ ?_; clear hK6 K6
            refine HC_seq fun K7 hK7 => ?_
            refine HC_seq fun K8 hK8 => ?_
            refine HC_region ?_
            all_goals refine HL_r rfl rfl rfl rfl (R_move rfl) ?_
            all_goals refine HL_nil ?_
            all_goals (
              refine HQ_then ?_
              refine hK8 _ _ _ _ ?_; clear hK8 K8
              refine HC_block ?_
              refine HC_loop (σ := Nat) (fun i => i ≤ 32) (fun i => [(0, .string (bs s)), (2, .pointer (some ⟨r1, 0, none⟩)), (4, .pointer (some ⟨r2, 0, none⟩)), (10, .int .i64 (i : Int))]) (fun i => [(r2, .cells ((stW f i).map uV).toArray 51 (0, 0)), (r1, .cells (zW.map uV).toArray 51 (0, 0))]) (fun _ _ _ => True) (fun i => 32 - i) 0 (Nat.zero_le _) (.cons rfl (.cons rfl (.cons rfl (.cons rfl .nil)))) (List.Sublist.refl _) (fun _ _ h => h) ?_
              intro i hi
              refine HC_seq fun K9 hK9 => ?_
              refine HC_region ?_
              all_goals refine HL_r rfl rfl rfl rfl (R_pure rfl rfl rfl) ?_
              all_goals refine HL_nil ?_
              all_goals (
                refine HQ_then ?_
                refine hK9 _ _ _ _ ?_; clear hK9 K9
                refine HC_seq fun K10 hK10 => ?_
                refine HC_cond rfl (fun h11 => ?_) (fun h11 => ?_)
                · try exact Bool.noConfusion h11
                  all_goals try simp only [decide_eq_true_eq, decide_eq_false_iff_not, beq_iff_eq, beq_eq_false_iff_ne, bne_iff_ne, bne_eq_false_iff_eq, Bool.not_eq_true', Bool.not_eq_false', ne_eq, Int.not_lt, Int.not_le, ge_iff_le, gt_iff_lt] at h11
                  all_goals (
                    refine HC_skip ?_
                    refine HQ_then ?_
                    refine hK10 _ _ _ _ ?_; clear hK10 K10
                    refine HC_seq fun K12 hK12 => ?_
                    refine HC_block ?_
                    refine HC_seq fun K13 hK13 => ?_
                    refine HC_region ?_
                    all_goals refine HL_r rfl rfl rfl rfl (R_move rfl) ?_
                    all_goals refine HL_r rfl rfl rfl rfl (R_assign rfl) ?_
                    all_goals refine HL_nil ?_
                    all_goals (
                      refine HQ_then ?_
                      refine hK13 _ _ _ _ ?_; clear hK13 K13
                      refine HC_draw 15 (by kernel_rfl) (by kernel_rfl) ?_
                      all_goals refine HD_r rfl rfl rfl (R_move rfl) ?_
                      all_goals first
                        | (refine HD_r rfl rfl rfl (R_pure rfl rfl rfl) ?_; refine HD_quo (by omega) (by omega) (by omega) ?_)
                        | (refine HD_r rfl rfl rfl (R_pure rfl rfl rfl) ?_)
                      all_goals refine HD_r rfl rfl rfl (R_indexA (j := i / 8) (m := 1) (off' := i / 8) rfl rfl rfl rfl (by omega) (by omega) (by omega)) ?_
                      all_goals refine HD_r rfl rfl rfl (R_loadAt rfl (known_L (k := 0) rfl) rfl (mapU_get (by rw [stW_len]; omega))) ?_
                      all_goals refine HD_r rfl rfl rfl (R_move rfl) ?_
                      all_goals refine HD_r rfl rfl rfl (R_move rfl) ?_
                      all_goals first
                        | (refine HD_r rfl rfl rfl (R_pure rfl rfl rfl) ?_; refine HD_wrap_i64 (by omega) (by omega) ?_)
                        | (refine HD_r rfl rfl rfl (R_pure rfl rfl rfl) ?_)
                      all_goals refine HD_r rfl rfl rfl (R_indexBs (j := 31 - i) rfl rfl rfl (by omega) (by omega) rfl) ?_
                      all_goals refine HD_r rfl rfl rfl (R_pure rfl rfl rfl) ?_; refine HD_as (show _ = Value.int .u64 ((f i : Nat) : Int) from by rw [hf]; exact congrArg (Value.int .u64) (wrap_u64 (by omega) (by have := u8_lt (s.getD (31 - i) 0); omega))) ?_
                      all_goals refine HD_r rfl rfl rfl (R_move rfl) ?_
                      all_goals first
                        | (refine HD_r rfl rfl rfl (R_pure rfl rfl rfl) ?_; refine HD_rem (by omega) ?_)
                        | (refine HD_r rfl rfl rfl (R_pure rfl rfl rfl) ?_)
                      all_goals first
                        | (refine HD_r rfl rfl rfl (R_pure rfl rfl rfl) ?_; refine HD_wrap_i64 (by omega) (by omega) ?_)
                        | (refine HD_r rfl rfl rfl (R_pure rfl rfl rfl) ?_)
                      all_goals refine HD_r rfl rfl rfl (R_shl (n := i % 8 * 8) rfl rfl (by omega) (show _ ≤ 64 from by omega) (shl_u64 (sh_lt (hfl i) (by omega)))) ?_
                      all_goals refine HD_r rfl rfl rfl (R_bits64 (op := .or) (b := (((stW f i).getD (i / 8) 0 + f i * 2 ^ (i % 8 * 8) : Nat) : Int)) rfl rfl rfl ((stW_ok hfl i).get _) (sh_lt (hfl i) (by omega)) (congrArg (fun z : Nat => (z : Int)) (by rw [stW_get f (by omega)]; exact or_add (pw_lt hfl _ _)))) ?_
                      all_goals refine HD_r rfl rfl rfl (R_indexA (j := i / 8) (m := 1) (off' := i / 8) rfl rfl rfl rfl (by omega) (by omega) (by omega)) ?_
                      all_goals refine HD_end ?_
                      all_goals refine HL_storeAt (k := 0) (off := i / 8) (xs := (stW f i).map uV) (ys := (stW f (i + 1)).map uV) rfl rfl rfl rfl rfl rfl (by simp [stW_len]; omega) (set_mapU (stW_step f (by omega))) rfl ?_
                      all_goals refine HL_nil ?_
                      all_goals (
                        refine HQ_blockN ?_
                        refine HQ_then ?_
                        refine hK12 _ _ _ _ ?_; clear hK12 K12
                        refine HC_region ?_
                        all_goals first
                          | (refine HL_r rfl rfl rfl rfl (R_pure rfl rfl rfl) ?_; refine HL_wrap_i64 (by omega) (by omega) ?_)
                          | (refine HL_r rfl rfl rfl rfl (R_pure rfl rfl rfl) ?_)
                        all_goals refine HL_r rfl rfl rfl rfl (R_move rfl) ?_
                        all_goals refine HL_nil ?_
                        all_goals (
                          refine HQ_then ?_
                          exact HQ_again (i + 1) (by omega) (by omega) (.cons rfl (.cons rfl (.cons rfl (.cons rfl .nil)))) (List.Sublist.refl _) (fun _ _ h => h)
                          skip)
                        skip)
                      skip)
                    skip)
                · try exact Bool.noConfusion h11
                  all_goals try simp only [decide_eq_true_eq, decide_eq_false_iff_not, beq_iff_eq, beq_eq_false_iff_ne, bne_iff_ne, bne_eq_false_iff_eq, Bool.not_eq_true', Bool.not_eq_false', ne_eq, Int.not_lt, Int.not_le, ge_iff_le, gt_iff_lt] at h11
                  all_goals (
                    refine HC_exit ?_
                    refine HQ_thenE ?_; clear hK10 K10
                    refine HQ_thenE ?_
                    refine HQ_blockE ?_
                    refine HQ_then ?_
                    refine hK7 _ _ _ _ ?_; clear hK7 K7
                    refine HC_seq fun K14 hK14 => ?_
                    have hi32 : i = 32 := by omega
                    subst hi32
                    refine HC_region ?_
                    all_goals refine HL_r rfl rfl rfl rfl (R_loadArr (xs := (stW f 32).map uV) rfl (known_L (k := 0) rfl) rfl rfl rfl) ?_
                    all_goals refine HL_storeArr (k := 1) (n := 4) (ys := (stW f 32).map uV) rfl rfl rfl rfl rfl rfl rfl rfl rfl ?_
                    all_goals refine HL_r rfl rfl rfl rfl (R_assign rfl) ?_
                    all_goals refine HL_nil ?_
                    all_goals (
                      refine HQ_then ?_
                      refine hK14 _ _ _ _ ?_; clear hK14 K14
                      refine HC_ret ?_
                      first
                        | refine HQ_post rfl rfl (.cons (res_cellA (vs := [_, _, _, _]) rfl (known_L (k := 0) rfl) rfl rfl) (.cons (res_tmp rfl) .nil)) (fun w1 hs1 => ?_)
                        | refine HQ_post rfl rfl (.cons (res_cellA (vs := [_, _, _, _]) rfl (known_L (k := 1) rfl) rfl rfl) (.cons (res_tmp rfl) .nil)) (fun w1 hs1 => ?_)
                        | refine HQ_post rfl rfl (.cons (res_cellA (vs := [_, _, _, _]) rfl (known_L (k := 2) rfl) rfl rfl) (.cons (res_tmp rfl) .nil)) (fun w1 hs1 => ?_)
                        | refine HQ_post rfl rfl (.cons (res_cellA (vs := [_, _, _, _]) rfl (known_L (k := 3) rfl) rfl rfl) (.cons (res_tmp rfl) .nil)) (fun w1 hs1 => ?_)
                        | refine HQ_post rfl rfl (.cons (res_cellA (vs := [_, _, _, _]) rfl (known_L (k := 4) rfl) rfl rfl) (.cons (res_tmp rfl) .nil)) (fun w1 hs1 => ?_)
                        | refine HQ_post rfl rfl (.cons (res_cellA (vs := [_, _, _, _]) rfl (known_L (k := 5) rfl) rfl rfl) (.cons (res_tmp rfl) .nil)) (fun w1 hs1 => ?_)
                      refine ⟨?_, hs1.keep⟩
                      first
                        | (rw [show unfR s = (zW, 2) from by unfold unfR; rw [if_neg (by omega)]]; rfl)
                        | (rw [show unfR s = (unfW s, 0) from by unfold unfR; rw [if_pos (by omega)], ← hfu]; rfl)
                      skip)
                    skip)
                skip)
              skip)
            skip)
          skip)
      skip)
    skip)
end Go.Proofs.YthfinkklgbiaeaaDoor
