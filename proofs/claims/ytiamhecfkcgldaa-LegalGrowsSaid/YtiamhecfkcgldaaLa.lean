import Derived.Test.YtiamhecfkcgldaaProg
import Derived.Test.YtiamhecfkcgldaaSla
namespace Go.Proofs.Ytiamhecfkcgldaa
set_option linter.all false
open Go.SL Go.RowKit Go.Shelf
def spanI (k v : Int) : Int × Int × Bool :=
  if k = 1 then (if v = 4 then (5, 5, true) else (0, 5, (v == 0 || v == 1 || v == 2 || v == 126)))
  else if k = 2 then (if v = 2 then (2, 5, true) else (v, v, (v == 0 || v == 1)))
  else if k = 3 then (IntKind.i64.wrap (3 * v), 5, (v == 0 || v == 1))
  else if k = 4 then (IntKind.i64.wrap (2 * v), 5, (v == 0 || v == 2))
  else if k = 5 then (IntKind.i64.wrap (5 * v), IntKind.i64.wrap (4 + v), (v == 0 || v == 1))
  else (0, 0, false)
def spanV (x : Int × Int × Bool) : Value := .agg [.int .i64 x.1, .int .i64 x.2.1, .bool x.2.2].toArray
set_option maxRecDepth 10000 in
theorem P_rescriptref13_tx (v : Int) : Pure Try.prog 21 [.int .i64 v].toArray (spanV (spanI 1 v)) := by
  refine pure_of_HC Try.func21 rfl rfl fun w => ?_
  refine HC_seq fun K1 hK1 => ?_
  refine HC_region ?_
  all_goals refine HL_alloc (cs := #[_, _, _]) rfl rfl rfl rfl fun r1 => ?_
  all_goals refine HL_nil ?_
  all_goals (
    refine HQ_then ?_
    refine hK1 _ _ _ _ ?_; clear hK1 K1
    refine HC_seq fun K2 hK2 => ?_
    refine HC_seq fun K3 hK3 => ?_
    refine HC_region ?_
    all_goals refine HL_r rfl rfl rfl rfl (R_move rfl) ?_
    all_goals refine HL_r rfl rfl rfl rfl (R_pure rfl rfl rfl) ?_
    all_goals refine HL_nil ?_
    all_goals (
      refine HQ_then ?_
      refine hK3 _ _ _ _ ?_; clear hK3 K3
      refine HC_cond rfl (fun h4 => ?_) (fun h4 => ?_)
      · try exact Bool.noConfusion h4
        all_goals try simp only [decide_eq_true_eq, decide_eq_false_iff_not, beq_iff_eq, beq_eq_false_iff_ne, bne_iff_ne, bne_eq_false_iff_eq, Bool.not_eq_true', Bool.not_eq_false', ne_eq, Int.not_lt, Int.not_le, ge_iff_le, gt_iff_lt] at h4
        all_goals (
          refine HC_seq fun K5 hK5 => ?_
          refine HC_region ?_
          all_goals refine HL_r rfl rfl rfl rfl (R_build (r := [_, _, _]) rfl rfl) ?_
          all_goals first
            | (refine HL_storeA (k := 0) (n := 3) (cs' := #[_, _, _]) (vs := #[_, _, _]) rfl rfl rfl rfl rfl rfl rfl (by exact Nat.le_of_ble_eq_true rfl) rfl (by first | (simp only [List.set_cons_zero, List.set_cons_succ]; exact rfl) | exact rfl) ?_)
            | (refine HL_storeA (k := 1) (n := 3) (cs' := #[_, _, _]) (vs := #[_, _, _]) rfl rfl rfl rfl rfl rfl rfl (by exact Nat.le_of_ble_eq_true rfl) rfl (by first | (simp only [List.set_cons_zero, List.set_cons_succ]; exact rfl) | exact rfl) ?_)
            | (refine HL_storeA (k := 2) (n := 3) (cs' := #[_, _, _]) (vs := #[_, _, _]) rfl rfl rfl rfl rfl rfl rfl (by exact Nat.le_of_ble_eq_true rfl) rfl (by first | (simp only [List.set_cons_zero, List.set_cons_succ]; exact rfl) | exact rfl) ?_)
            | (refine HL_storeA (k := 3) (n := 3) (cs' := #[_, _, _]) (vs := #[_, _, _]) rfl rfl rfl rfl rfl rfl rfl (by exact Nat.le_of_ble_eq_true rfl) rfl (by first | (simp only [List.set_cons_zero, List.set_cons_succ]; exact rfl) | exact rfl) ?_)
            | (refine HL_storeA (k := 4) (n := 3) (cs' := #[_, _, _]) (vs := #[_, _, _]) rfl rfl rfl rfl rfl rfl rfl (by exact Nat.le_of_ble_eq_true rfl) rfl (by first | (simp only [List.set_cons_zero, List.set_cons_succ]; exact rfl) | exact rfl) ?_)
            | (refine HL_storeA (k := 5) (n := 3) (cs' := #[_, _, _]) (vs := #[_, _, _]) rfl rfl rfl rfl rfl rfl rfl (by exact Nat.le_of_ble_eq_true rfl) rfl (by first | (simp only [List.set_cons_zero, List.set_cons_succ]; exact rfl) | exact rfl) ?_)
            | (refine HL_storeA (k := 0) (n := 3) (vs := #[_, _, _]) rfl rfl rfl rfl rfl rfl rfl (by exact Nat.le_of_ble_eq_true rfl) (by first | (simp only [List.take_zero, List.nil_append, Array.toList_toArray, List.drop_succ_cons, List.drop_zero, List.take_succ_cons, List.cons_append, Nat.zero_add, Nat.reduceAdd, List.append_nil, List.drop_nil]; exact rfl) | exact rfl) (by first | (simp only [List.set_cons_zero, List.set_cons_succ]; exact rfl) | exact rfl) ?_)
            | (refine HL_storeA (k := 1) (n := 3) (vs := #[_, _, _]) rfl rfl rfl rfl rfl rfl rfl (by exact Nat.le_of_ble_eq_true rfl) (by first | (simp only [List.take_zero, List.nil_append, Array.toList_toArray, List.drop_succ_cons, List.drop_zero, List.take_succ_cons, List.cons_append, Nat.zero_add, Nat.reduceAdd, List.append_nil, List.drop_nil]; exact rfl) | exact rfl) (by first | (simp only [List.set_cons_zero, List.set_cons_succ]; exact rfl) | exact rfl) ?_)
            | (refine HL_storeA (k := 2) (n := 3) (vs := #[_, _, _]) rfl rfl rfl rfl rfl rfl rfl (by exact Nat.le_of_ble_eq_true rfl) (by first | (simp only [List.take_zero, List.nil_append, Array.toList_toArray, List.drop_succ_cons, List.drop_zero, List.take_succ_cons, List.cons_append, Nat.zero_add, Nat.reduceAdd, List.append_nil, List.drop_nil]; exact rfl) | exact rfl) (by first | (simp only [List.set_cons_zero, List.set_cons_succ]; exact rfl) | exact rfl) ?_)
            | (refine HL_storeA (k := 3) (n := 3) (vs := #[_, _, _]) rfl rfl rfl rfl rfl rfl rfl (by exact Nat.le_of_ble_eq_true rfl) (by first | (simp only [List.take_zero, List.nil_append, Array.toList_toArray, List.drop_succ_cons, List.drop_zero, List.take_succ_cons, List.cons_append, Nat.zero_add, Nat.reduceAdd, List.append_nil, List.drop_nil]; exact rfl) | exact rfl) (by first | (simp only [List.set_cons_zero, List.set_cons_succ]; exact rfl) | exact rfl) ?_)
            | (refine HL_storeA (k := 4) (n := 3) (vs := #[_, _, _]) rfl rfl rfl rfl rfl rfl rfl (by exact Nat.le_of_ble_eq_true rfl) (by first | (simp only [List.take_zero, List.nil_append, Array.toList_toArray, List.drop_succ_cons, List.drop_zero, List.take_succ_cons, List.cons_append, Nat.zero_add, Nat.reduceAdd, List.append_nil, List.drop_nil]; exact rfl) | exact rfl) (by first | (simp only [List.set_cons_zero, List.set_cons_succ]; exact rfl) | exact rfl) ?_)
            | (refine HL_storeA (k := 5) (n := 3) (vs := #[_, _, _]) rfl rfl rfl rfl rfl rfl rfl (by exact Nat.le_of_ble_eq_true rfl) (by first | (simp only [List.take_zero, List.nil_append, Array.toList_toArray, List.drop_succ_cons, List.drop_zero, List.take_succ_cons, List.cons_append, Nat.zero_add, Nat.reduceAdd, List.append_nil, List.drop_nil]; exact rfl) | exact rfl) (by first | (simp only [List.set_cons_zero, List.set_cons_succ]; exact rfl) | exact rfl) ?_)
          all_goals refine HL_nil ?_
          all_goals (
            refine HQ_then ?_
            refine hK5 _ _ _ _ ?_; clear hK5 K5
            refine HC_ret ?_
            refine HQ_thenR ?_; clear hK2 K2
            first
              | refine HQ_post rfl rfl (.cons (res_cellA (vs := [_, _, _]) rfl (known_L (k := 0) rfl) rfl rfl) .nil) (fun w1 hs1 => ?_)
              | refine HQ_post rfl rfl (.cons (res_cellA (vs := [_, _, _]) rfl (known_L (k := 1) rfl) rfl rfl) .nil) (fun w1 hs1 => ?_)
              | refine HQ_post rfl rfl (.cons (res_cellA (vs := [_, _, _]) rfl (known_L (k := 2) rfl) rfl rfl) .nil) (fun w1 hs1 => ?_)
              | refine HQ_post rfl rfl (.cons (res_cellA (vs := [_, _, _]) rfl (known_L (k := 3) rfl) rfl rfl) .nil) (fun w1 hs1 => ?_)
              | refine HQ_post rfl rfl (.cons (res_cellA (vs := [_, _, _]) rfl (known_L (k := 4) rfl) rfl rfl) .nil) (fun w1 hs1 => ?_)
              | refine HQ_post rfl rfl (.cons (res_cellA (vs := [_, _, _]) rfl (known_L (k := 5) rfl) rfl rfl) .nil) (fun w1 hs1 => ?_)
            exact ⟨by simp_all [resVal, spanV, spanI], hs1.keep⟩
            skip)
          skip)
      · try exact Bool.noConfusion h4
        all_goals try simp only [decide_eq_true_eq, decide_eq_false_iff_not, beq_iff_eq, beq_eq_false_iff_ne, bne_iff_ne, bne_eq_false_iff_eq, Bool.not_eq_true', Bool.not_eq_false', ne_eq, Int.not_lt, Int.not_le, ge_iff_le, gt_iff_lt] at h4
        all_goals (
          refine HC_skip ?_
          refine HQ_then ?_
          refine hK2 _ _ _ _ ?_; clear hK2 K2
          refine HC_seq fun K6 hK6 => ?_
          refine HC_region ?_
          all_goals refine HL_r rfl rfl rfl rfl (R_move rfl) ?_
          all_goals refine HL_r rfl rfl rfl rfl (R_pure rfl rfl rfl) ?_
          all_goals refine HL_r rfl rfl rfl rfl (R_move rfl) ?_
          all_goals first
            | (refine HL_r rfl rfl rfl rfl (R_move rfl) ?_)
            | (refine HL_skip rfl rfl rfl ?_)
            | (refine HL_case 8 rfl (fun hb7 => ?_) (fun hb7 => ?_) <;> (try simp only [decide_eq_true_eq, decide_eq_false_iff_not, beq_iff_eq, beq_eq_false_iff_ne, bne_iff_ne, bne_eq_false_iff_eq, Bool.not_eq_true', Bool.not_eq_false', ne_eq, Int.not_lt, Int.not_le, ge_iff_le, gt_iff_lt] at hb7) <;> first | (refine HL_r rfl rfl rfl rfl (R_move rfl) ?_) | (refine HL_skip rfl rfl rfl ?_))
          all_goals first
            | (refine HL_r rfl rfl rfl rfl (R_pure rfl rfl rfl) ?_)
            | (refine HL_skip rfl rfl rfl ?_)
            | (refine HL_case 8 rfl (fun hb8 => ?_) (fun hb8 => ?_) <;> (try simp only [decide_eq_true_eq, decide_eq_false_iff_not, beq_iff_eq, beq_eq_false_iff_ne, bne_iff_ne, bne_eq_false_iff_eq, Bool.not_eq_true', Bool.not_eq_false', ne_eq, Int.not_lt, Int.not_le, ge_iff_le, gt_iff_lt] at hb8) <;> first | (refine HL_r rfl rfl rfl rfl (R_pure rfl rfl rfl) ?_) | (refine HL_skip rfl rfl rfl ?_))
          all_goals first
            | (refine HL_r rfl rfl rfl rfl (R_pickT rfl rfl) ?_)
            | (refine HL_r rfl rfl rfl rfl (R_pickF rfl rfl) ?_)
          all_goals refine HL_r rfl rfl rfl rfl (R_move rfl) ?_
          all_goals first
            | (refine HL_r rfl rfl rfl rfl (R_move rfl) ?_)
            | (refine HL_skip rfl rfl rfl ?_)
            | (refine HL_case 12 rfl (fun hb9 => ?_) (fun hb9 => ?_) <;> (try simp only [decide_eq_true_eq, decide_eq_false_iff_not, beq_iff_eq, beq_eq_false_iff_ne, bne_iff_ne, bne_eq_false_iff_eq, Bool.not_eq_true', Bool.not_eq_false', ne_eq, Int.not_lt, Int.not_le, ge_iff_le, gt_iff_lt] at hb9) <;> first | (refine HL_r rfl rfl rfl rfl (R_move rfl) ?_) | (refine HL_skip rfl rfl rfl ?_))
          all_goals first
            | (refine HL_r rfl rfl rfl rfl (R_pure rfl rfl rfl) ?_)
            | (refine HL_skip rfl rfl rfl ?_)
            | (refine HL_case 12 rfl (fun hb10 => ?_) (fun hb10 => ?_) <;> (try simp only [decide_eq_true_eq, decide_eq_false_iff_not, beq_iff_eq, beq_eq_false_iff_ne, bne_iff_ne, bne_eq_false_iff_eq, Bool.not_eq_true', Bool.not_eq_false', ne_eq, Int.not_lt, Int.not_le, ge_iff_le, gt_iff_lt] at hb10) <;> first | (refine HL_r rfl rfl rfl rfl (R_pure rfl rfl rfl) ?_) | (refine HL_skip rfl rfl rfl ?_))
          all_goals first
            | (refine HL_r rfl rfl rfl rfl (R_pickT rfl rfl) ?_)
            | (refine HL_r rfl rfl rfl rfl (R_pickF rfl rfl) ?_)
          all_goals refine HL_r rfl rfl rfl rfl (R_move rfl) ?_
          all_goals first
            | (refine HL_r rfl rfl rfl rfl (R_move rfl) ?_)
            | (refine HL_skip rfl rfl rfl ?_)
            | (refine HL_case 16 rfl (fun hb11 => ?_) (fun hb11 => ?_) <;> (try simp only [decide_eq_true_eq, decide_eq_false_iff_not, beq_iff_eq, beq_eq_false_iff_ne, bne_iff_ne, bne_eq_false_iff_eq, Bool.not_eq_true', Bool.not_eq_false', ne_eq, Int.not_lt, Int.not_le, ge_iff_le, gt_iff_lt] at hb11) <;> first | (refine HL_r rfl rfl rfl rfl (R_move rfl) ?_) | (refine HL_skip rfl rfl rfl ?_))
          all_goals first
            | (refine HL_r rfl rfl rfl rfl (R_pure rfl rfl rfl) ?_)
            | (refine HL_skip rfl rfl rfl ?_)
            | (refine HL_case 16 rfl (fun hb12 => ?_) (fun hb12 => ?_) <;> (try simp only [decide_eq_true_eq, decide_eq_false_iff_not, beq_iff_eq, beq_eq_false_iff_ne, bne_iff_ne, bne_eq_false_iff_eq, Bool.not_eq_true', Bool.not_eq_false', ne_eq, Int.not_lt, Int.not_le, ge_iff_le, gt_iff_lt] at hb12) <;> first | (refine HL_r rfl rfl rfl rfl (R_pure rfl rfl rfl) ?_) | (refine HL_skip rfl rfl rfl ?_))
          all_goals first
            | (refine HL_r rfl rfl rfl rfl (R_pickT rfl rfl) ?_)
            | (refine HL_r rfl rfl rfl rfl (R_pickF rfl rfl) ?_)
          all_goals refine HL_r rfl rfl rfl rfl (R_build (r := [_, _, _]) rfl rfl) ?_
          all_goals first
            | (refine HL_storeA (k := 0) (n := 3) (cs' := #[_, _, _]) (vs := #[_, _, _]) rfl rfl rfl rfl rfl rfl rfl (by exact Nat.le_of_ble_eq_true rfl) rfl (by first | (simp only [List.set_cons_zero, List.set_cons_succ]; exact rfl) | exact rfl) ?_)
            | (refine HL_storeA (k := 1) (n := 3) (cs' := #[_, _, _]) (vs := #[_, _, _]) rfl rfl rfl rfl rfl rfl rfl (by exact Nat.le_of_ble_eq_true rfl) rfl (by first | (simp only [List.set_cons_zero, List.set_cons_succ]; exact rfl) | exact rfl) ?_)
            | (refine HL_storeA (k := 2) (n := 3) (cs' := #[_, _, _]) (vs := #[_, _, _]) rfl rfl rfl rfl rfl rfl rfl (by exact Nat.le_of_ble_eq_true rfl) rfl (by first | (simp only [List.set_cons_zero, List.set_cons_succ]; exact rfl) | exact rfl) ?_)
            | (refine HL_storeA (k := 3) (n := 3) (cs' := #[_, _, _]) (vs := #[_, _, _]) rfl rfl rfl rfl rfl rfl rfl (by exact Nat.le_of_ble_eq_true rfl) rfl (by first | (simp only [List.set_cons_zero, List.set_cons_succ]; exact rfl) | exact rfl) ?_)
            | (refine HL_storeA (k := 4) (n := 3) (cs' := #[_, _, _]) (vs := #[_, _, _]) rfl rfl rfl rfl rfl rfl rfl (by exact Nat.le_of_ble_eq_true rfl) rfl (by first | (simp only [List.set_cons_zero, List.set_cons_succ]; exact rfl) | exact rfl) ?_)
            | (refine HL_storeA (k := 5) (n := 3) (cs' := #[_, _, _]) (vs := #[_, _, _]) rfl rfl rfl rfl rfl rfl rfl (by exact Nat.le_of_ble_eq_true rfl) rfl (by first | (simp only [List.set_cons_zero, List.set_cons_succ]; exact rfl) | exact rfl) ?_)
            | (refine HL_storeA (k := 0) (n := 3) (vs := #[_, _, _]) rfl rfl rfl rfl rfl rfl rfl (by exact Nat.le_of_ble_eq_true rfl) (by first | (simp only [List.take_zero, List.nil_append, Array.toList_toArray, List.drop_succ_cons, List.drop_zero, List.take_succ_cons, List.cons_append, Nat.zero_add, Nat.reduceAdd, List.append_nil, List.drop_nil]; exact rfl) | exact rfl) (by first | (simp only [List.set_cons_zero, List.set_cons_succ]; exact rfl) | exact rfl) ?_)
            | (refine HL_storeA (k := 1) (n := 3) (vs := #[_, _, _]) rfl rfl rfl rfl rfl rfl rfl (by exact Nat.le_of_ble_eq_true rfl) (by first | (simp only [List.take_zero, List.nil_append, Array.toList_toArray, List.drop_succ_cons, List.drop_zero, List.take_succ_cons, List.cons_append, Nat.zero_add, Nat.reduceAdd, List.append_nil, List.drop_nil]; exact rfl) | exact rfl) (by first | (simp only [List.set_cons_zero, List.set_cons_succ]; exact rfl) | exact rfl) ?_)
            | (refine HL_storeA (k := 2) (n := 3) (vs := #[_, _, _]) rfl rfl rfl rfl rfl rfl rfl (by exact Nat.le_of_ble_eq_true rfl) (by first | (simp only [List.take_zero, List.nil_append, Array.toList_toArray, List.drop_succ_cons, List.drop_zero, List.take_succ_cons, List.cons_append, Nat.zero_add, Nat.reduceAdd, List.append_nil, List.drop_nil]; exact rfl) | exact rfl) (by first | (simp only [List.set_cons_zero, List.set_cons_succ]; exact rfl) | exact rfl) ?_)
            | (refine HL_storeA (k := 3) (n := 3) (vs := #[_, _, _]) rfl rfl rfl rfl rfl rfl rfl (by exact Nat.le_of_ble_eq_true rfl) (by first | (simp only [List.take_zero, List.nil_append, Array.toList_toArray, List.drop_succ_cons, List.drop_zero, List.take_succ_cons, List.cons_append, Nat.zero_add, Nat.reduceAdd, List.append_nil, List.drop_nil]; exact rfl) | exact rfl) (by first | (simp only [List.set_cons_zero, List.set_cons_succ]; exact rfl) | exact rfl) ?_)
            | (refine HL_storeA (k := 4) (n := 3) (vs := #[_, _, _]) rfl rfl rfl rfl rfl rfl rfl (by exact Nat.le_of_ble_eq_true rfl) (by first | (simp only [List.take_zero, List.nil_append, Array.toList_toArray, List.drop_succ_cons, List.drop_zero, List.take_succ_cons, List.cons_append, Nat.zero_add, Nat.reduceAdd, List.append_nil, List.drop_nil]; exact rfl) | exact rfl) (by first | (simp only [List.set_cons_zero, List.set_cons_succ]; exact rfl) | exact rfl) ?_)
            | (refine HL_storeA (k := 5) (n := 3) (vs := #[_, _, _]) rfl rfl rfl rfl rfl rfl rfl (by exact Nat.le_of_ble_eq_true rfl) (by first | (simp only [List.take_zero, List.nil_append, Array.toList_toArray, List.drop_succ_cons, List.drop_zero, List.take_succ_cons, List.cons_append, Nat.zero_add, Nat.reduceAdd, List.append_nil, List.drop_nil]; exact rfl) | exact rfl) (by first | (simp only [List.set_cons_zero, List.set_cons_succ]; exact rfl) | exact rfl) ?_)
          all_goals refine HL_nil ?_
          all_goals (
            refine HQ_then ?_
            refine hK6 _ _ _ _ ?_; clear hK6 K6
            refine HC_ret ?_
            first
              | refine HQ_post rfl rfl (.cons (res_cellA (vs := [_, _, _]) rfl (known_L (k := 0) rfl) rfl rfl) .nil) (fun w1 hs1 => ?_)
              | refine HQ_post rfl rfl (.cons (res_cellA (vs := [_, _, _]) rfl (known_L (k := 1) rfl) rfl rfl) .nil) (fun w1 hs1 => ?_)
              | refine HQ_post rfl rfl (.cons (res_cellA (vs := [_, _, _]) rfl (known_L (k := 2) rfl) rfl rfl) .nil) (fun w1 hs1 => ?_)
              | refine HQ_post rfl rfl (.cons (res_cellA (vs := [_, _, _]) rfl (known_L (k := 3) rfl) rfl rfl) .nil) (fun w1 hs1 => ?_)
              | refine HQ_post rfl rfl (.cons (res_cellA (vs := [_, _, _]) rfl (known_L (k := 4) rfl) rfl rfl) .nil) (fun w1 hs1 => ?_)
              | refine HQ_post rfl rfl (.cons (res_cellA (vs := [_, _, _]) rfl (known_L (k := 5) rfl) rfl rfl) .nil) (fun w1 hs1 => ?_)
            exact ⟨by simp_all [resVal, spanV, spanI], hs1.keep⟩
            skip)
          skip)
      skip)
    skip)
set_option maxRecDepth 10000 in
theorem P_rescriptref13_span (k v : Int) : Pure Try.prog 18 [.int .i64 k, .int .i64 v].toArray (spanV (spanI k v)) := by
  refine pure_of_HC Try.func18 rfl rfl fun w => ?_
  refine HC_seq fun K1 hK1 => ?_
  refine HC_region ?_
  all_goals refine HL_alloc (cs := #[_, _, _]) rfl rfl rfl rfl fun r1 => ?_
  all_goals refine HL_nil ?_
  all_goals (
    refine HQ_then ?_
    refine hK1 _ _ _ _ ?_; clear hK1 K1
    refine HC_seq fun K2 hK2 => ?_
    refine HC_seq fun K3 hK3 => ?_
    refine HC_region ?_
    all_goals refine HL_r rfl rfl rfl rfl (R_move rfl) ?_
    all_goals refine HL_nil ?_
    all_goals (
      refine HQ_then ?_
      refine hK3 _ _ _ _ ?_; clear hK3 K3
      refine HC_block ?_
      refine HC_seq fun K4 hK4 => ?_
      refine HC_region ?_
      all_goals refine HL_r rfl rfl rfl rfl (R_pure rfl rfl rfl) ?_
      all_goals refine HL_r rfl rfl rfl rfl (R_assign rfl) ?_
      all_goals refine HL_nil ?_
      all_goals (
        refine HQ_then ?_
        refine hK4 _ _ _ _ ?_; clear hK4 K4
        refine HC_cond rfl (fun h5 => ?_) (fun h5 => ?_)
        · try exact Bool.noConfusion h5
          all_goals try simp only [decide_eq_true_eq, decide_eq_false_iff_not, beq_iff_eq, beq_eq_false_iff_ne, bne_iff_ne, bne_eq_false_iff_eq, Bool.not_eq_true', Bool.not_eq_false', ne_eq, Int.not_lt, Int.not_le, ge_iff_le, gt_iff_lt] at h5
          all_goals (
            refine HC_seq fun K6 hK6 => ?_
            refine HC_region ?_
            all_goals refine HL_r rfl rfl rfl rfl (R_move rfl) ?_
            all_goals refine HL_callP rfl rfl rfl (enters_of Try.func21 (by kernel_rfl) rfl) (P_rescriptref13_tx ..) ?_
            all_goals first
              | (refine HL_storeA (k := 0) (n := 3) (cs' := #[_, _, _]) (vs := #[_, _, _]) rfl rfl rfl rfl rfl rfl rfl (by exact Nat.le_of_ble_eq_true rfl) rfl (by first | (simp only [List.set_cons_zero, List.set_cons_succ]; exact rfl) | exact rfl) ?_)
              | (refine HL_storeA (k := 1) (n := 3) (cs' := #[_, _, _]) (vs := #[_, _, _]) rfl rfl rfl rfl rfl rfl rfl (by exact Nat.le_of_ble_eq_true rfl) rfl (by first | (simp only [List.set_cons_zero, List.set_cons_succ]; exact rfl) | exact rfl) ?_)
              | (refine HL_storeA (k := 2) (n := 3) (cs' := #[_, _, _]) (vs := #[_, _, _]) rfl rfl rfl rfl rfl rfl rfl (by exact Nat.le_of_ble_eq_true rfl) rfl (by first | (simp only [List.set_cons_zero, List.set_cons_succ]; exact rfl) | exact rfl) ?_)
              | (refine HL_storeA (k := 3) (n := 3) (cs' := #[_, _, _]) (vs := #[_, _, _]) rfl rfl rfl rfl rfl rfl rfl (by exact Nat.le_of_ble_eq_true rfl) rfl (by first | (simp only [List.set_cons_zero, List.set_cons_succ]; exact rfl) | exact rfl) ?_)
              | (refine HL_storeA (k := 4) (n := 3) (cs' := #[_, _, _]) (vs := #[_, _, _]) rfl rfl rfl rfl rfl rfl rfl (by exact Nat.le_of_ble_eq_true rfl) rfl (by first | (simp only [List.set_cons_zero, List.set_cons_succ]; exact rfl) | exact rfl) ?_)
              | (refine HL_storeA (k := 5) (n := 3) (cs' := #[_, _, _]) (vs := #[_, _, _]) rfl rfl rfl rfl rfl rfl rfl (by exact Nat.le_of_ble_eq_true rfl) rfl (by first | (simp only [List.set_cons_zero, List.set_cons_succ]; exact rfl) | exact rfl) ?_)
              | (refine HL_storeA (k := 0) (n := 3) (vs := #[_, _, _]) rfl rfl rfl rfl rfl rfl rfl (by exact Nat.le_of_ble_eq_true rfl) (by first | (simp only [List.take_zero, List.nil_append, Array.toList_toArray, List.drop_succ_cons, List.drop_zero, List.take_succ_cons, List.cons_append, Nat.zero_add, Nat.reduceAdd, List.append_nil, List.drop_nil]; exact rfl) | exact rfl) (by first | (simp only [List.set_cons_zero, List.set_cons_succ]; exact rfl) | exact rfl) ?_)
              | (refine HL_storeA (k := 1) (n := 3) (vs := #[_, _, _]) rfl rfl rfl rfl rfl rfl rfl (by exact Nat.le_of_ble_eq_true rfl) (by first | (simp only [List.take_zero, List.nil_append, Array.toList_toArray, List.drop_succ_cons, List.drop_zero, List.take_succ_cons, List.cons_append, Nat.zero_add, Nat.reduceAdd, List.append_nil, List.drop_nil]; exact rfl) | exact rfl) (by first | (simp only [List.set_cons_zero, List.set_cons_succ]; exact rfl) | exact rfl) ?_)
              | (refine HL_storeA (k := 2) (n := 3) (vs := #[_, _, _]) rfl rfl rfl rfl rfl rfl rfl (by exact Nat.le_of_ble_eq_true rfl) (by first | (simp only [List.take_zero, List.nil_append, Array.toList_toArray, List.drop_succ_cons, List.drop_zero, List.take_succ_cons, List.cons_append, Nat.zero_add, Nat.reduceAdd, List.append_nil, List.drop_nil]; exact rfl) | exact rfl) (by first | (simp only [List.set_cons_zero, List.set_cons_succ]; exact rfl) | exact rfl) ?_)
              | (refine HL_storeA (k := 3) (n := 3) (vs := #[_, _, _]) rfl rfl rfl rfl rfl rfl rfl (by exact Nat.le_of_ble_eq_true rfl) (by first | (simp only [List.take_zero, List.nil_append, Array.toList_toArray, List.drop_succ_cons, List.drop_zero, List.take_succ_cons, List.cons_append, Nat.zero_add, Nat.reduceAdd, List.append_nil, List.drop_nil]; exact rfl) | exact rfl) (by first | (simp only [List.set_cons_zero, List.set_cons_succ]; exact rfl) | exact rfl) ?_)
              | (refine HL_storeA (k := 4) (n := 3) (vs := #[_, _, _]) rfl rfl rfl rfl rfl rfl rfl (by exact Nat.le_of_ble_eq_true rfl) (by first | (simp only [List.take_zero, List.nil_append, Array.toList_toArray, List.drop_succ_cons, List.drop_zero, List.take_succ_cons, List.cons_append, Nat.zero_add, Nat.reduceAdd, List.append_nil, List.drop_nil]; exact rfl) | exact rfl) (by first | (simp only [List.set_cons_zero, List.set_cons_succ]; exact rfl) | exact rfl) ?_)
              | (refine HL_storeA (k := 5) (n := 3) (vs := #[_, _, _]) rfl rfl rfl rfl rfl rfl rfl (by exact Nat.le_of_ble_eq_true rfl) (by first | (simp only [List.take_zero, List.nil_append, Array.toList_toArray, List.drop_succ_cons, List.drop_zero, List.take_succ_cons, List.cons_append, Nat.zero_add, Nat.reduceAdd, List.append_nil, List.drop_nil]; exact rfl) | exact rfl) (by first | (simp only [List.set_cons_zero, List.set_cons_succ]; exact rfl) | exact rfl) ?_)
            all_goals refine HL_nil ?_
            all_goals (
              refine HQ_then ?_
              refine hK6 _ _ _ _ ?_; clear hK6 K6
              refine HC_ret ?_
              refine HQ_blockR ?_
              refine HQ_thenR ?_; clear hK2 K2
              first
                | refine HQ_post rfl rfl (.cons (res_cellA (vs := [_, _, _]) rfl (known_L (k := 0) rfl) rfl rfl) .nil) (fun w1 hs1 => ?_)
                | refine HQ_post rfl rfl (.cons (res_cellA (vs := [_, _, _]) rfl (known_L (k := 1) rfl) rfl rfl) .nil) (fun w1 hs1 => ?_)
                | refine HQ_post rfl rfl (.cons (res_cellA (vs := [_, _, _]) rfl (known_L (k := 2) rfl) rfl rfl) .nil) (fun w1 hs1 => ?_)
                | refine HQ_post rfl rfl (.cons (res_cellA (vs := [_, _, _]) rfl (known_L (k := 3) rfl) rfl rfl) .nil) (fun w1 hs1 => ?_)
                | refine HQ_post rfl rfl (.cons (res_cellA (vs := [_, _, _]) rfl (known_L (k := 4) rfl) rfl rfl) .nil) (fun w1 hs1 => ?_)
                | refine HQ_post rfl rfl (.cons (res_cellA (vs := [_, _, _]) rfl (known_L (k := 5) rfl) rfl rfl) .nil) (fun w1 hs1 => ?_)
              exact ⟨by simp_all [resVal, spanV, spanI], hs1.keep⟩
              skip)
            skip)
        · try exact Bool.noConfusion h5
          all_goals try simp only [decide_eq_true_eq, decide_eq_false_iff_not, beq_iff_eq, beq_eq_false_iff_ne, bne_iff_ne, bne_eq_false_iff_eq, Bool.not_eq_true', Bool.not_eq_false', ne_eq, Int.not_lt, Int.not_le, ge_iff_le, gt_iff_lt] at h5
          all_goals (
            refine HC_seq fun K7 hK7 => ?_
            refine HC_region ?_
            all_goals refine HL_r rfl rfl rfl rfl (R_pure rfl rfl rfl) ?_
            all_goals refine HL_r rfl rfl rfl rfl (R_assign rfl) ?_
            all_goals refine HL_nil ?_
            all_goals (
              refine HQ_then ?_
              refine hK7 _ _ _ _ ?_; clear hK7 K7
              refine HC_cond rfl (fun h8 => ?_) (fun h8 => ?_)
              · try exact Bool.noConfusion h8
                all_goals try simp only [decide_eq_true_eq, decide_eq_false_iff_not, beq_iff_eq, beq_eq_false_iff_ne, bne_iff_ne, bne_eq_false_iff_eq, Bool.not_eq_true', Bool.not_eq_false', ne_eq, Int.not_lt, Int.not_le, ge_iff_le, gt_iff_lt] at h8
                all_goals (
                  refine HC_seq fun K9 hK9 => ?_
                  refine HC_seq fun K10 hK10 => ?_
                  refine HC_region ?_
                  all_goals refine HL_r rfl rfl rfl rfl (R_move rfl) ?_
                  all_goals refine HL_r rfl rfl rfl rfl (R_pure rfl rfl rfl) ?_
                  all_goals refine HL_nil ?_
                  all_goals (
                    refine HQ_then ?_
                    refine hK10 _ _ _ _ ?_; clear hK10 K10
                    refine HC_cond rfl (fun h11 => ?_) (fun h11 => ?_)
                    · try exact Bool.noConfusion h11
                      all_goals try simp only [decide_eq_true_eq, decide_eq_false_iff_not, beq_iff_eq, beq_eq_false_iff_ne, bne_iff_ne, bne_eq_false_iff_eq, Bool.not_eq_true', Bool.not_eq_false', ne_eq, Int.not_lt, Int.not_le, ge_iff_le, gt_iff_lt] at h11
                      all_goals (
                        refine HC_seq fun K12 hK12 => ?_
                        refine HC_region ?_
                        all_goals refine HL_r rfl rfl rfl rfl (R_build (r := [_, _, _]) rfl rfl) ?_
                        all_goals first
                          | (refine HL_storeA (k := 0) (n := 3) (cs' := #[_, _, _]) (vs := #[_, _, _]) rfl rfl rfl rfl rfl rfl rfl (by exact Nat.le_of_ble_eq_true rfl) rfl (by first | (simp only [List.set_cons_zero, List.set_cons_succ]; exact rfl) | exact rfl) ?_)
                          | (refine HL_storeA (k := 1) (n := 3) (cs' := #[_, _, _]) (vs := #[_, _, _]) rfl rfl rfl rfl rfl rfl rfl (by exact Nat.le_of_ble_eq_true rfl) rfl (by first | (simp only [List.set_cons_zero, List.set_cons_succ]; exact rfl) | exact rfl) ?_)
                          | (refine HL_storeA (k := 2) (n := 3) (cs' := #[_, _, _]) (vs := #[_, _, _]) rfl rfl rfl rfl rfl rfl rfl (by exact Nat.le_of_ble_eq_true rfl) rfl (by first | (simp only [List.set_cons_zero, List.set_cons_succ]; exact rfl) | exact rfl) ?_)
                          | (refine HL_storeA (k := 3) (n := 3) (cs' := #[_, _, _]) (vs := #[_, _, _]) rfl rfl rfl rfl rfl rfl rfl (by exact Nat.le_of_ble_eq_true rfl) rfl (by first | (simp only [List.set_cons_zero, List.set_cons_succ]; exact rfl) | exact rfl) ?_)
                          | (refine HL_storeA (k := 4) (n := 3) (cs' := #[_, _, _]) (vs := #[_, _, _]) rfl rfl rfl rfl rfl rfl rfl (by exact Nat.le_of_ble_eq_true rfl) rfl (by first | (simp only [List.set_cons_zero, List.set_cons_succ]; exact rfl) | exact rfl) ?_)
                          | (refine HL_storeA (k := 5) (n := 3) (cs' := #[_, _, _]) (vs := #[_, _, _]) rfl rfl rfl rfl rfl rfl rfl (by exact Nat.le_of_ble_eq_true rfl) rfl (by first | (simp only [List.set_cons_zero, List.set_cons_succ]; exact rfl) | exact rfl) ?_)
                          | (refine HL_storeA (k := 0) (n := 3) (vs := #[_, _, _]) rfl rfl rfl rfl rfl rfl rfl (by exact Nat.le_of_ble_eq_true rfl) (by first | (simp only [List.take_zero, List.nil_append, Array.toList_toArray, List.drop_succ_cons, List.drop_zero, List.take_succ_cons, List.cons_append, Nat.zero_add, Nat.reduceAdd, List.append_nil, List.drop_nil]; exact rfl) | exact rfl) (by first | (simp only [List.set_cons_zero, List.set_cons_succ]; exact rfl) | exact rfl) ?_)
                          | (refine HL_storeA (k := 1) (n := 3) (vs := #[_, _, _]) rfl rfl rfl rfl rfl rfl rfl (by exact Nat.le_of_ble_eq_true rfl) (by first | (simp only [List.take_zero, List.nil_append, Array.toList_toArray, List.drop_succ_cons, List.drop_zero, List.take_succ_cons, List.cons_append, Nat.zero_add, Nat.reduceAdd, List.append_nil, List.drop_nil]; exact rfl) | exact rfl) (by first | (simp only [List.set_cons_zero, List.set_cons_succ]; exact rfl) | exact rfl) ?_)
                          | (refine HL_storeA (k := 2) (n := 3) (vs := #[_, _, _]) rfl rfl rfl rfl rfl rfl rfl (by exact Nat.le_of_ble_eq_true rfl) (by first | (simp only [List.take_zero, List.nil_append, Array.toList_toArray, List.drop_succ_cons, List.drop_zero, List.take_succ_cons, List.cons_append, Nat.zero_add, Nat.reduceAdd, List.append_nil, List.drop_nil]; exact rfl) | exact rfl) (by first | (simp only [List.set_cons_zero, List.set_cons_succ]; exact rfl) | exact rfl) ?_)
                          | (refine HL_storeA (k := 3) (n := 3) (vs := #[_, _, _]) rfl rfl rfl rfl rfl rfl rfl (by exact Nat.le_of_ble_eq_true rfl) (by first | (simp only [List.take_zero, List.nil_append, Array.toList_toArray, List.drop_succ_cons, List.drop_zero, List.take_succ_cons, List.cons_append, Nat.zero_add, Nat.reduceAdd, List.append_nil, List.drop_nil]; exact rfl) | exact rfl) (by first | (simp only [List.set_cons_zero, List.set_cons_succ]; exact rfl) | exact rfl) ?_)
                          | (refine HL_storeA (k := 4) (n := 3) (vs := #[_, _, _]) rfl rfl rfl rfl rfl rfl rfl (by exact Nat.le_of_ble_eq_true rfl) (by first | (simp only [List.take_zero, List.nil_append, Array.toList_toArray, List.drop_succ_cons, List.drop_zero, List.take_succ_cons, List.cons_append, Nat.zero_add, Nat.reduceAdd, List.append_nil, List.drop_nil]; exact rfl) | exact rfl) (by first | (simp only [List.set_cons_zero, List.set_cons_succ]; exact rfl) | exact rfl) ?_)
                          | (refine HL_storeA (k := 5) (n := 3) (vs := #[_, _, _]) rfl rfl rfl rfl rfl rfl rfl (by exact Nat.le_of_ble_eq_true rfl) (by first | (simp only [List.take_zero, List.nil_append, Array.toList_toArray, List.drop_succ_cons, List.drop_zero, List.take_succ_cons, List.cons_append, Nat.zero_add, Nat.reduceAdd, List.append_nil, List.drop_nil]; exact rfl) | exact rfl) (by first | (simp only [List.set_cons_zero, List.set_cons_succ]; exact rfl) | exact rfl) ?_)
                        all_goals refine HL_nil ?_
                        all_goals (
                          refine HQ_then ?_
                          refine hK12 _ _ _ _ ?_; clear hK12 K12
                          refine HC_ret ?_
                          refine HQ_thenR ?_; clear hK9 K9
                          refine HQ_blockR ?_
                          refine HQ_thenR ?_; clear hK2 K2
                          first
                            | refine HQ_post rfl rfl (.cons (res_cellA (vs := [_, _, _]) rfl (known_L (k := 0) rfl) rfl rfl) .nil) (fun w1 hs1 => ?_)
                            | refine HQ_post rfl rfl (.cons (res_cellA (vs := [_, _, _]) rfl (known_L (k := 1) rfl) rfl rfl) .nil) (fun w1 hs1 => ?_)
                            | refine HQ_post rfl rfl (.cons (res_cellA (vs := [_, _, _]) rfl (known_L (k := 2) rfl) rfl rfl) .nil) (fun w1 hs1 => ?_)
                            | refine HQ_post rfl rfl (.cons (res_cellA (vs := [_, _, _]) rfl (known_L (k := 3) rfl) rfl rfl) .nil) (fun w1 hs1 => ?_)
                            | refine HQ_post rfl rfl (.cons (res_cellA (vs := [_, _, _]) rfl (known_L (k := 4) rfl) rfl rfl) .nil) (fun w1 hs1 => ?_)
                            | refine HQ_post rfl rfl (.cons (res_cellA (vs := [_, _, _]) rfl (known_L (k := 5) rfl) rfl rfl) .nil) (fun w1 hs1 => ?_)
                          exact ⟨by simp_all [resVal, spanV, spanI], hs1.keep⟩
                          skip)
                        skip)
                    · try exact Bool.noConfusion h11
                      all_goals try simp only [decide_eq_true_eq, decide_eq_false_iff_not, beq_iff_eq, beq_eq_false_iff_ne, bne_iff_ne, bne_eq_false_iff_eq, Bool.not_eq_true', Bool.not_eq_false', ne_eq, Int.not_lt, Int.not_le, ge_iff_le, gt_iff_lt] at h11
                      all_goals (
                        refine HC_skip ?_
                        refine HQ_then ?_
                        refine hK9 _ _ _ _ ?_; clear hK9 K9
                        refine HC_seq fun K13 hK13 => ?_
                        refine HC_region ?_
                        all_goals refine HL_r rfl rfl rfl rfl (R_move rfl) ?_
                        all_goals refine HL_r rfl rfl rfl rfl (R_move rfl) ?_
                        all_goals refine HL_r rfl rfl rfl rfl (R_move rfl) ?_
                        all_goals refine HL_r rfl rfl rfl rfl (R_pure rfl rfl rfl) ?_
                        all_goals refine HL_r rfl rfl rfl rfl (R_move rfl) ?_
                        all_goals first
                          | (refine HL_r rfl rfl rfl rfl (R_move rfl) ?_)
                          | (refine HL_skip rfl rfl rfl ?_)
                          | (refine HL_case 19 rfl (fun hb14 => ?_) (fun hb14 => ?_) <;> (try simp only [decide_eq_true_eq, decide_eq_false_iff_not, beq_iff_eq, beq_eq_false_iff_ne, bne_iff_ne, bne_eq_false_iff_eq, Bool.not_eq_true', Bool.not_eq_false', ne_eq, Int.not_lt, Int.not_le, ge_iff_le, gt_iff_lt] at hb14) <;> first | (refine HL_r rfl rfl rfl rfl (R_move rfl) ?_) | (refine HL_skip rfl rfl rfl ?_))
                        all_goals first
                          | (refine HL_r rfl rfl rfl rfl (R_pure rfl rfl rfl) ?_)
                          | (refine HL_skip rfl rfl rfl ?_)
                          | (refine HL_case 19 rfl (fun hb15 => ?_) (fun hb15 => ?_) <;> (try simp only [decide_eq_true_eq, decide_eq_false_iff_not, beq_iff_eq, beq_eq_false_iff_ne, bne_iff_ne, bne_eq_false_iff_eq, Bool.not_eq_true', Bool.not_eq_false', ne_eq, Int.not_lt, Int.not_le, ge_iff_le, gt_iff_lt] at hb15) <;> first | (refine HL_r rfl rfl rfl rfl (R_pure rfl rfl rfl) ?_) | (refine HL_skip rfl rfl rfl ?_))
                        all_goals first
                          | (refine HL_r rfl rfl rfl rfl (R_pickT rfl rfl) ?_)
                          | (refine HL_r rfl rfl rfl rfl (R_pickF rfl rfl) ?_)
                        all_goals refine HL_r rfl rfl rfl rfl (R_build (r := [_, _, _]) rfl rfl) ?_
                        all_goals first
                          | (refine HL_storeA (k := 0) (n := 3) (cs' := #[_, _, _]) (vs := #[_, _, _]) rfl rfl rfl rfl rfl rfl rfl (by exact Nat.le_of_ble_eq_true rfl) rfl (by first | (simp only [List.set_cons_zero, List.set_cons_succ]; exact rfl) | exact rfl) ?_)
                          | (refine HL_storeA (k := 1) (n := 3) (cs' := #[_, _, _]) (vs := #[_, _, _]) rfl rfl rfl rfl rfl rfl rfl (by exact Nat.le_of_ble_eq_true rfl) rfl (by first | (simp only [List.set_cons_zero, List.set_cons_succ]; exact rfl) | exact rfl) ?_)
                          | (refine HL_storeA (k := 2) (n := 3) (cs' := #[_, _, _]) (vs := #[_, _, _]) rfl rfl rfl rfl rfl rfl rfl (by exact Nat.le_of_ble_eq_true rfl) rfl (by first | (simp only [List.set_cons_zero, List.set_cons_succ]; exact rfl) | exact rfl) ?_)
                          | (refine HL_storeA (k := 3) (n := 3) (cs' := #[_, _, _]) (vs := #[_, _, _]) rfl rfl rfl rfl rfl rfl rfl (by exact Nat.le_of_ble_eq_true rfl) rfl (by first | (simp only [List.set_cons_zero, List.set_cons_succ]; exact rfl) | exact rfl) ?_)
                          | (refine HL_storeA (k := 4) (n := 3) (cs' := #[_, _, _]) (vs := #[_, _, _]) rfl rfl rfl rfl rfl rfl rfl (by exact Nat.le_of_ble_eq_true rfl) rfl (by first | (simp only [List.set_cons_zero, List.set_cons_succ]; exact rfl) | exact rfl) ?_)
                          | (refine HL_storeA (k := 5) (n := 3) (cs' := #[_, _, _]) (vs := #[_, _, _]) rfl rfl rfl rfl rfl rfl rfl (by exact Nat.le_of_ble_eq_true rfl) rfl (by first | (simp only [List.set_cons_zero, List.set_cons_succ]; exact rfl) | exact rfl) ?_)
                          | (refine HL_storeA (k := 0) (n := 3) (vs := #[_, _, _]) rfl rfl rfl rfl rfl rfl rfl (by exact Nat.le_of_ble_eq_true rfl) (by first | (simp only [List.take_zero, List.nil_append, Array.toList_toArray, List.drop_succ_cons, List.drop_zero, List.take_succ_cons, List.cons_append, Nat.zero_add, Nat.reduceAdd, List.append_nil, List.drop_nil]; exact rfl) | exact rfl) (by first | (simp only [List.set_cons_zero, List.set_cons_succ]; exact rfl) | exact rfl) ?_)
                          | (refine HL_storeA (k := 1) (n := 3) (vs := #[_, _, _]) rfl rfl rfl rfl rfl rfl rfl (by exact Nat.le_of_ble_eq_true rfl) (by first | (simp only [List.take_zero, List.nil_append, Array.toList_toArray, List.drop_succ_cons, List.drop_zero, List.take_succ_cons, List.cons_append, Nat.zero_add, Nat.reduceAdd, List.append_nil, List.drop_nil]; exact rfl) | exact rfl) (by first | (simp only [List.set_cons_zero, List.set_cons_succ]; exact rfl) | exact rfl) ?_)
                          | (refine HL_storeA (k := 2) (n := 3) (vs := #[_, _, _]) rfl rfl rfl rfl rfl rfl rfl (by exact Nat.le_of_ble_eq_true rfl) (by first | (simp only [List.take_zero, List.nil_append, Array.toList_toArray, List.drop_succ_cons, List.drop_zero, List.take_succ_cons, List.cons_append, Nat.zero_add, Nat.reduceAdd, List.append_nil, List.drop_nil]; exact rfl) | exact rfl) (by first | (simp only [List.set_cons_zero, List.set_cons_succ]; exact rfl) | exact rfl) ?_)
                          | (refine HL_storeA (k := 3) (n := 3) (vs := #[_, _, _]) rfl rfl rfl rfl rfl rfl rfl (by exact Nat.le_of_ble_eq_true rfl) (by first | (simp only [List.take_zero, List.nil_append, Array.toList_toArray, List.drop_succ_cons, List.drop_zero, List.take_succ_cons, List.cons_append, Nat.zero_add, Nat.reduceAdd, List.append_nil, List.drop_nil]; exact rfl) | exact rfl) (by first | (simp only [List.set_cons_zero, List.set_cons_succ]; exact rfl) | exact rfl) ?_)
                          | (refine HL_storeA (k := 4) (n := 3) (vs := #[_, _, _]) rfl rfl rfl rfl rfl rfl rfl (by exact Nat.le_of_ble_eq_true rfl) (by first | (simp only [List.take_zero, List.nil_append, Array.toList_toArray, List.drop_succ_cons, List.drop_zero, List.take_succ_cons, List.cons_append, Nat.zero_add, Nat.reduceAdd, List.append_nil, List.drop_nil]; exact rfl) | exact rfl) (by first | (simp only [List.set_cons_zero, List.set_cons_succ]; exact rfl) | exact rfl) ?_)
                          | (refine HL_storeA (k := 5) (n := 3) (vs := #[_, _, _]) rfl rfl rfl rfl rfl rfl rfl (by exact Nat.le_of_ble_eq_true rfl) (by first | (simp only [List.take_zero, List.nil_append, Array.toList_toArray, List.drop_succ_cons, List.drop_zero, List.take_succ_cons, List.cons_append, Nat.zero_add, Nat.reduceAdd, List.append_nil, List.drop_nil]; exact rfl) | exact rfl) (by first | (simp only [List.set_cons_zero, List.set_cons_succ]; exact rfl) | exact rfl) ?_)
                        all_goals refine HL_nil ?_
                        all_goals (
                          refine HQ_then ?_
                          refine hK13 _ _ _ _ ?_; clear hK13 K13
                          refine HC_ret ?_
                          refine HQ_blockR ?_
                          refine HQ_thenR ?_; clear hK2 K2
                          first
                            | refine HQ_post rfl rfl (.cons (res_cellA (vs := [_, _, _]) rfl (known_L (k := 0) rfl) rfl rfl) .nil) (fun w1 hs1 => ?_)
                            | refine HQ_post rfl rfl (.cons (res_cellA (vs := [_, _, _]) rfl (known_L (k := 1) rfl) rfl rfl) .nil) (fun w1 hs1 => ?_)
                            | refine HQ_post rfl rfl (.cons (res_cellA (vs := [_, _, _]) rfl (known_L (k := 2) rfl) rfl rfl) .nil) (fun w1 hs1 => ?_)
                            | refine HQ_post rfl rfl (.cons (res_cellA (vs := [_, _, _]) rfl (known_L (k := 3) rfl) rfl rfl) .nil) (fun w1 hs1 => ?_)
                            | refine HQ_post rfl rfl (.cons (res_cellA (vs := [_, _, _]) rfl (known_L (k := 4) rfl) rfl rfl) .nil) (fun w1 hs1 => ?_)
                            | refine HQ_post rfl rfl (.cons (res_cellA (vs := [_, _, _]) rfl (known_L (k := 5) rfl) rfl rfl) .nil) (fun w1 hs1 => ?_)
                          exact ⟨by simp_all [resVal, spanV, spanI], hs1.keep⟩
                          skip)
                        skip)
                    skip)
                  skip)
              · try exact Bool.noConfusion h8
                all_goals try simp only [decide_eq_true_eq, decide_eq_false_iff_not, beq_iff_eq, beq_eq_false_iff_ne, bne_iff_ne, bne_eq_false_iff_eq, Bool.not_eq_true', Bool.not_eq_false', ne_eq, Int.not_lt, Int.not_le, ge_iff_le, gt_iff_lt] at h8
                all_goals (
                  refine HC_seq fun K16 hK16 => ?_
                  refine HC_region ?_
                  all_goals refine HL_r rfl rfl rfl rfl (R_pure rfl rfl rfl) ?_
                  all_goals refine HL_r rfl rfl rfl rfl (R_assign rfl) ?_
                  all_goals refine HL_nil ?_
                  all_goals (
                    refine HQ_then ?_
                    refine hK16 _ _ _ _ ?_; clear hK16 K16
                    refine HC_cond rfl (fun h17 => ?_) (fun h17 => ?_)
                    · try exact Bool.noConfusion h17
                      all_goals try simp only [decide_eq_true_eq, decide_eq_false_iff_not, beq_iff_eq, beq_eq_false_iff_ne, bne_iff_ne, bne_eq_false_iff_eq, Bool.not_eq_true', Bool.not_eq_false', ne_eq, Int.not_lt, Int.not_le, ge_iff_le, gt_iff_lt] at h17
                      all_goals (
                        refine HC_seq fun K18 hK18 => ?_
                        refine HC_region ?_
                        all_goals refine HL_r rfl rfl rfl rfl (R_move rfl) ?_
                        all_goals first
                          | (refine HL_r rfl rfl rfl rfl (R_pure rfl rfl rfl) ?_; refine HL_wrap_i64 (by omega) (by omega) ?_)
                          | (refine HL_r rfl rfl rfl rfl (R_pure rfl rfl rfl) ?_)
                        all_goals refine HL_r rfl rfl rfl rfl (R_move rfl) ?_
                        all_goals refine HL_r rfl rfl rfl rfl (R_pure rfl rfl rfl) ?_
                        all_goals refine HL_r rfl rfl rfl rfl (R_move rfl) ?_
                        all_goals first
                          | (refine HL_r rfl rfl rfl rfl (R_move rfl) ?_)
                          | (refine HL_skip rfl rfl rfl ?_)
                          | (refine HL_case 30 rfl (fun hb19 => ?_) (fun hb19 => ?_) <;> (try simp only [decide_eq_true_eq, decide_eq_false_iff_not, beq_iff_eq, beq_eq_false_iff_ne, bne_iff_ne, bne_eq_false_iff_eq, Bool.not_eq_true', Bool.not_eq_false', ne_eq, Int.not_lt, Int.not_le, ge_iff_le, gt_iff_lt] at hb19) <;> first | (refine HL_r rfl rfl rfl rfl (R_move rfl) ?_) | (refine HL_skip rfl rfl rfl ?_))
                        all_goals first
                          | (refine HL_r rfl rfl rfl rfl (R_pure rfl rfl rfl) ?_)
                          | (refine HL_skip rfl rfl rfl ?_)
                          | (refine HL_case 30 rfl (fun hb20 => ?_) (fun hb20 => ?_) <;> (try simp only [decide_eq_true_eq, decide_eq_false_iff_not, beq_iff_eq, beq_eq_false_iff_ne, bne_iff_ne, bne_eq_false_iff_eq, Bool.not_eq_true', Bool.not_eq_false', ne_eq, Int.not_lt, Int.not_le, ge_iff_le, gt_iff_lt] at hb20) <;> first | (refine HL_r rfl rfl rfl rfl (R_pure rfl rfl rfl) ?_) | (refine HL_skip rfl rfl rfl ?_))
                        all_goals first
                          | (refine HL_r rfl rfl rfl rfl (R_pickT rfl rfl) ?_)
                          | (refine HL_r rfl rfl rfl rfl (R_pickF rfl rfl) ?_)
                        all_goals refine HL_r rfl rfl rfl rfl (R_build (r := [_, _, _]) rfl rfl) ?_
                        all_goals first
                          | (refine HL_storeA (k := 0) (n := 3) (cs' := #[_, _, _]) (vs := #[_, _, _]) rfl rfl rfl rfl rfl rfl rfl (by exact Nat.le_of_ble_eq_true rfl) rfl (by first | (simp only [List.set_cons_zero, List.set_cons_succ]; exact rfl) | exact rfl) ?_)
                          | (refine HL_storeA (k := 1) (n := 3) (cs' := #[_, _, _]) (vs := #[_, _, _]) rfl rfl rfl rfl rfl rfl rfl (by exact Nat.le_of_ble_eq_true rfl) rfl (by first | (simp only [List.set_cons_zero, List.set_cons_succ]; exact rfl) | exact rfl) ?_)
                          | (refine HL_storeA (k := 2) (n := 3) (cs' := #[_, _, _]) (vs := #[_, _, _]) rfl rfl rfl rfl rfl rfl rfl (by exact Nat.le_of_ble_eq_true rfl) rfl (by first | (simp only [List.set_cons_zero, List.set_cons_succ]; exact rfl) | exact rfl) ?_)
                          | (refine HL_storeA (k := 3) (n := 3) (cs' := #[_, _, _]) (vs := #[_, _, _]) rfl rfl rfl rfl rfl rfl rfl (by exact Nat.le_of_ble_eq_true rfl) rfl (by first | (simp only [List.set_cons_zero, List.set_cons_succ]; exact rfl) | exact rfl) ?_)
                          | (refine HL_storeA (k := 4) (n := 3) (cs' := #[_, _, _]) (vs := #[_, _, _]) rfl rfl rfl rfl rfl rfl rfl (by exact Nat.le_of_ble_eq_true rfl) rfl (by first | (simp only [List.set_cons_zero, List.set_cons_succ]; exact rfl) | exact rfl) ?_)
                          | (refine HL_storeA (k := 5) (n := 3) (cs' := #[_, _, _]) (vs := #[_, _, _]) rfl rfl rfl rfl rfl rfl rfl (by exact Nat.le_of_ble_eq_true rfl) rfl (by first | (simp only [List.set_cons_zero, List.set_cons_succ]; exact rfl) | exact rfl) ?_)
                          | (refine HL_storeA (k := 0) (n := 3) (vs := #[_, _, _]) rfl rfl rfl rfl rfl rfl rfl (by exact Nat.le_of_ble_eq_true rfl) (by first | (simp only [List.take_zero, List.nil_append, Array.toList_toArray, List.drop_succ_cons, List.drop_zero, List.take_succ_cons, List.cons_append, Nat.zero_add, Nat.reduceAdd, List.append_nil, List.drop_nil]; exact rfl) | exact rfl) (by first | (simp only [List.set_cons_zero, List.set_cons_succ]; exact rfl) | exact rfl) ?_)
                          | (refine HL_storeA (k := 1) (n := 3) (vs := #[_, _, _]) rfl rfl rfl rfl rfl rfl rfl (by exact Nat.le_of_ble_eq_true rfl) (by first | (simp only [List.take_zero, List.nil_append, Array.toList_toArray, List.drop_succ_cons, List.drop_zero, List.take_succ_cons, List.cons_append, Nat.zero_add, Nat.reduceAdd, List.append_nil, List.drop_nil]; exact rfl) | exact rfl) (by first | (simp only [List.set_cons_zero, List.set_cons_succ]; exact rfl) | exact rfl) ?_)
                          | (refine HL_storeA (k := 2) (n := 3) (vs := #[_, _, _]) rfl rfl rfl rfl rfl rfl rfl (by exact Nat.le_of_ble_eq_true rfl) (by first | (simp only [List.take_zero, List.nil_append, Array.toList_toArray, List.drop_succ_cons, List.drop_zero, List.take_succ_cons, List.cons_append, Nat.zero_add, Nat.reduceAdd, List.append_nil, List.drop_nil]; exact rfl) | exact rfl) (by first | (simp only [List.set_cons_zero, List.set_cons_succ]; exact rfl) | exact rfl) ?_)
                          | (refine HL_storeA (k := 3) (n := 3) (vs := #[_, _, _]) rfl rfl rfl rfl rfl rfl rfl (by exact Nat.le_of_ble_eq_true rfl) (by first | (simp only [List.take_zero, List.nil_append, Array.toList_toArray, List.drop_succ_cons, List.drop_zero, List.take_succ_cons, List.cons_append, Nat.zero_add, Nat.reduceAdd, List.append_nil, List.drop_nil]; exact rfl) | exact rfl) (by first | (simp only [List.set_cons_zero, List.set_cons_succ]; exact rfl) | exact rfl) ?_)
                          | (refine HL_storeA (k := 4) (n := 3) (vs := #[_, _, _]) rfl rfl rfl rfl rfl rfl rfl (by exact Nat.le_of_ble_eq_true rfl) (by first | (simp only [List.take_zero, List.nil_append, Array.toList_toArray, List.drop_succ_cons, List.drop_zero, List.take_succ_cons, List.cons_append, Nat.zero_add, Nat.reduceAdd, List.append_nil, List.drop_nil]; exact rfl) | exact rfl) (by first | (simp only [List.set_cons_zero, List.set_cons_succ]; exact rfl) | exact rfl) ?_)
                          | (refine HL_storeA (k := 5) (n := 3) (vs := #[_, _, _]) rfl rfl rfl rfl rfl rfl rfl (by exact Nat.le_of_ble_eq_true rfl) (by first | (simp only [List.take_zero, List.nil_append, Array.toList_toArray, List.drop_succ_cons, List.drop_zero, List.take_succ_cons, List.cons_append, Nat.zero_add, Nat.reduceAdd, List.append_nil, List.drop_nil]; exact rfl) | exact rfl) (by first | (simp only [List.set_cons_zero, List.set_cons_succ]; exact rfl) | exact rfl) ?_)
                        all_goals refine HL_nil ?_
                        all_goals (
                          refine HQ_then ?_
                          refine hK18 _ _ _ _ ?_; clear hK18 K18
                          refine HC_ret ?_
                          refine HQ_blockR ?_
                          refine HQ_thenR ?_; clear hK2 K2
                          first
                            | refine HQ_post rfl rfl (.cons (res_cellA (vs := [_, _, _]) rfl (known_L (k := 0) rfl) rfl rfl) .nil) (fun w1 hs1 => ?_)
                            | refine HQ_post rfl rfl (.cons (res_cellA (vs := [_, _, _]) rfl (known_L (k := 1) rfl) rfl rfl) .nil) (fun w1 hs1 => ?_)
                            | refine HQ_post rfl rfl (.cons (res_cellA (vs := [_, _, _]) rfl (known_L (k := 2) rfl) rfl rfl) .nil) (fun w1 hs1 => ?_)
                            | refine HQ_post rfl rfl (.cons (res_cellA (vs := [_, _, _]) rfl (known_L (k := 3) rfl) rfl rfl) .nil) (fun w1 hs1 => ?_)
                            | refine HQ_post rfl rfl (.cons (res_cellA (vs := [_, _, _]) rfl (known_L (k := 4) rfl) rfl rfl) .nil) (fun w1 hs1 => ?_)
                            | refine HQ_post rfl rfl (.cons (res_cellA (vs := [_, _, _]) rfl (known_L (k := 5) rfl) rfl rfl) .nil) (fun w1 hs1 => ?_)
                          exact ⟨by simp_all [resVal, spanV, spanI], hs1.keep⟩
                          skip)
                        skip)
                    · try exact Bool.noConfusion h17
                      all_goals try simp only [decide_eq_true_eq, decide_eq_false_iff_not, beq_iff_eq, beq_eq_false_iff_ne, bne_iff_ne, bne_eq_false_iff_eq, Bool.not_eq_true', Bool.not_eq_false', ne_eq, Int.not_lt, Int.not_le, ge_iff_le, gt_iff_lt] at h17
                      all_goals (
                        refine HC_seq fun K21 hK21 => ?_
                        refine HC_region ?_
                        all_goals refine HL_r rfl rfl rfl rfl (R_pure rfl rfl rfl) ?_
                        all_goals refine HL_r rfl rfl rfl rfl (R_assign rfl) ?_
                        all_goals refine HL_nil ?_
                        all_goals (
                          refine HQ_then ?_
                          refine hK21 _ _ _ _ ?_; clear hK21 K21
                          refine HC_cond rfl (fun h22 => ?_) (fun h22 => ?_)
                          · try exact Bool.noConfusion h22
                            all_goals try simp only [decide_eq_true_eq, decide_eq_false_iff_not, beq_iff_eq, beq_eq_false_iff_ne, bne_iff_ne, bne_eq_false_iff_eq, Bool.not_eq_true', Bool.not_eq_false', ne_eq, Int.not_lt, Int.not_le, ge_iff_le, gt_iff_lt] at h22
                            all_goals (
                              refine HC_seq fun K23 hK23 => ?_
                              refine HC_region ?_
                              all_goals refine HL_r rfl rfl rfl rfl (R_move rfl) ?_
                              all_goals first
                                | (refine HL_r rfl rfl rfl rfl (R_pure rfl rfl rfl) ?_; refine HL_wrap_i64 (by omega) (by omega) ?_)
                                | (refine HL_r rfl rfl rfl rfl (R_pure rfl rfl rfl) ?_)
                              all_goals refine HL_r rfl rfl rfl rfl (R_move rfl) ?_
                              all_goals refine HL_r rfl rfl rfl rfl (R_pure rfl rfl rfl) ?_
                              all_goals refine HL_r rfl rfl rfl rfl (R_move rfl) ?_
                              all_goals first
                                | (refine HL_r rfl rfl rfl rfl (R_move rfl) ?_)
                                | (refine HL_skip rfl rfl rfl ?_)
                                | (refine HL_case 41 rfl (fun hb24 => ?_) (fun hb24 => ?_) <;> (try simp only [decide_eq_true_eq, decide_eq_false_iff_not, beq_iff_eq, beq_eq_false_iff_ne, bne_iff_ne, bne_eq_false_iff_eq, Bool.not_eq_true', Bool.not_eq_false', ne_eq, Int.not_lt, Int.not_le, ge_iff_le, gt_iff_lt] at hb24) <;> first | (refine HL_r rfl rfl rfl rfl (R_move rfl) ?_) | (refine HL_skip rfl rfl rfl ?_))
                              all_goals first
                                | (refine HL_r rfl rfl rfl rfl (R_pure rfl rfl rfl) ?_)
                                | (refine HL_skip rfl rfl rfl ?_)
                                | (refine HL_case 41 rfl (fun hb25 => ?_) (fun hb25 => ?_) <;> (try simp only [decide_eq_true_eq, decide_eq_false_iff_not, beq_iff_eq, beq_eq_false_iff_ne, bne_iff_ne, bne_eq_false_iff_eq, Bool.not_eq_true', Bool.not_eq_false', ne_eq, Int.not_lt, Int.not_le, ge_iff_le, gt_iff_lt] at hb25) <;> first | (refine HL_r rfl rfl rfl rfl (R_pure rfl rfl rfl) ?_) | (refine HL_skip rfl rfl rfl ?_))
                              all_goals first
                                | (refine HL_r rfl rfl rfl rfl (R_pickT rfl rfl) ?_)
                                | (refine HL_r rfl rfl rfl rfl (R_pickF rfl rfl) ?_)
                              all_goals refine HL_r rfl rfl rfl rfl (R_build (r := [_, _, _]) rfl rfl) ?_
                              all_goals first
                                | (refine HL_storeA (k := 0) (n := 3) (cs' := #[_, _, _]) (vs := #[_, _, _]) rfl rfl rfl rfl rfl rfl rfl (by exact Nat.le_of_ble_eq_true rfl) rfl (by first | (simp only [List.set_cons_zero, List.set_cons_succ]; exact rfl) | exact rfl) ?_)
                                | (refine HL_storeA (k := 1) (n := 3) (cs' := #[_, _, _]) (vs := #[_, _, _]) rfl rfl rfl rfl rfl rfl rfl (by exact Nat.le_of_ble_eq_true rfl) rfl (by first | (simp only [List.set_cons_zero, List.set_cons_succ]; exact rfl) | exact rfl) ?_)
                                | (refine HL_storeA (k := 2) (n := 3) (cs' := #[_, _, _]) (vs := #[_, _, _]) rfl rfl rfl rfl rfl rfl rfl (by exact Nat.le_of_ble_eq_true rfl) rfl (by first | (simp only [List.set_cons_zero, List.set_cons_succ]; exact rfl) | exact rfl) ?_)
                                | (refine HL_storeA (k := 3) (n := 3) (cs' := #[_, _, _]) (vs := #[_, _, _]) rfl rfl rfl rfl rfl rfl rfl (by exact Nat.le_of_ble_eq_true rfl) rfl (by first | (simp only [List.set_cons_zero, List.set_cons_succ]; exact rfl) | exact rfl) ?_)
                                | (refine HL_storeA (k := 4) (n := 3) (cs' := #[_, _, _]) (vs := #[_, _, _]) rfl rfl rfl rfl rfl rfl rfl (by exact Nat.le_of_ble_eq_true rfl) rfl (by first | (simp only [List.set_cons_zero, List.set_cons_succ]; exact rfl) | exact rfl) ?_)
                                | (refine HL_storeA (k := 5) (n := 3) (cs' := #[_, _, _]) (vs := #[_, _, _]) rfl rfl rfl rfl rfl rfl rfl (by exact Nat.le_of_ble_eq_true rfl) rfl (by first | (simp only [List.set_cons_zero, List.set_cons_succ]; exact rfl) | exact rfl) ?_)
                                | (refine HL_storeA (k := 0) (n := 3) (vs := #[_, _, _]) rfl rfl rfl rfl rfl rfl rfl (by exact Nat.le_of_ble_eq_true rfl) (by first | (simp only [List.take_zero, List.nil_append, Array.toList_toArray, List.drop_succ_cons, List.drop_zero, List.take_succ_cons, List.cons_append, Nat.zero_add, Nat.reduceAdd, List.append_nil, List.drop_nil]; exact rfl) | exact rfl) (by first | (simp only [List.set_cons_zero, List.set_cons_succ]; exact rfl) | exact rfl) ?_)
                                | (refine HL_storeA (k := 1) (n := 3) (vs := #[_, _, _]) rfl rfl rfl rfl rfl rfl rfl (by exact Nat.le_of_ble_eq_true rfl) (by first | (simp only [List.take_zero, List.nil_append, Array.toList_toArray, List.drop_succ_cons, List.drop_zero, List.take_succ_cons, List.cons_append, Nat.zero_add, Nat.reduceAdd, List.append_nil, List.drop_nil]; exact rfl) | exact rfl) (by first | (simp only [List.set_cons_zero, List.set_cons_succ]; exact rfl) | exact rfl) ?_)
                                | (refine HL_storeA (k := 2) (n := 3) (vs := #[_, _, _]) rfl rfl rfl rfl rfl rfl rfl (by exact Nat.le_of_ble_eq_true rfl) (by first | (simp only [List.take_zero, List.nil_append, Array.toList_toArray, List.drop_succ_cons, List.drop_zero, List.take_succ_cons, List.cons_append, Nat.zero_add, Nat.reduceAdd, List.append_nil, List.drop_nil]; exact rfl) | exact rfl) (by first | (simp only [List.set_cons_zero, List.set_cons_succ]; exact rfl) | exact rfl) ?_)
                                | (refine HL_storeA (k := 3) (n := 3) (vs := #[_, _, _]) rfl rfl rfl rfl rfl rfl rfl (by exact Nat.le_of_ble_eq_true rfl) (by first | (simp only [List.take_zero, List.nil_append, Array.toList_toArray, List.drop_succ_cons, List.drop_zero, List.take_succ_cons, List.cons_append, Nat.zero_add, Nat.reduceAdd, List.append_nil, List.drop_nil]; exact rfl) | exact rfl) (by first | (simp only [List.set_cons_zero, List.set_cons_succ]; exact rfl) | exact rfl) ?_)
                                | (refine HL_storeA (k := 4) (n := 3) (vs := #[_, _, _]) rfl rfl rfl rfl rfl rfl rfl (by exact Nat.le_of_ble_eq_true rfl) (by first | (simp only [List.take_zero, List.nil_append, Array.toList_toArray, List.drop_succ_cons, List.drop_zero, List.take_succ_cons, List.cons_append, Nat.zero_add, Nat.reduceAdd, List.append_nil, List.drop_nil]; exact rfl) | exact rfl) (by first | (simp only [List.set_cons_zero, List.set_cons_succ]; exact rfl) | exact rfl) ?_)
                                | (refine HL_storeA (k := 5) (n := 3) (vs := #[_, _, _]) rfl rfl rfl rfl rfl rfl rfl (by exact Nat.le_of_ble_eq_true rfl) (by first | (simp only [List.take_zero, List.nil_append, Array.toList_toArray, List.drop_succ_cons, List.drop_zero, List.take_succ_cons, List.cons_append, Nat.zero_add, Nat.reduceAdd, List.append_nil, List.drop_nil]; exact rfl) | exact rfl) (by first | (simp only [List.set_cons_zero, List.set_cons_succ]; exact rfl) | exact rfl) ?_)
                              all_goals refine HL_nil ?_
                              all_goals (
                                refine HQ_then ?_
                                refine hK23 _ _ _ _ ?_; clear hK23 K23
                                refine HC_ret ?_
                                refine HQ_blockR ?_
                                refine HQ_thenR ?_; clear hK2 K2
                                first
                                  | refine HQ_post rfl rfl (.cons (res_cellA (vs := [_, _, _]) rfl (known_L (k := 0) rfl) rfl rfl) .nil) (fun w1 hs1 => ?_)
                                  | refine HQ_post rfl rfl (.cons (res_cellA (vs := [_, _, _]) rfl (known_L (k := 1) rfl) rfl rfl) .nil) (fun w1 hs1 => ?_)
                                  | refine HQ_post rfl rfl (.cons (res_cellA (vs := [_, _, _]) rfl (known_L (k := 2) rfl) rfl rfl) .nil) (fun w1 hs1 => ?_)
                                  | refine HQ_post rfl rfl (.cons (res_cellA (vs := [_, _, _]) rfl (known_L (k := 3) rfl) rfl rfl) .nil) (fun w1 hs1 => ?_)
                                  | refine HQ_post rfl rfl (.cons (res_cellA (vs := [_, _, _]) rfl (known_L (k := 4) rfl) rfl rfl) .nil) (fun w1 hs1 => ?_)
                                  | refine HQ_post rfl rfl (.cons (res_cellA (vs := [_, _, _]) rfl (known_L (k := 5) rfl) rfl rfl) .nil) (fun w1 hs1 => ?_)
                                exact ⟨by simp_all [resVal, spanV, spanI], hs1.keep⟩
                                skip)
                              skip)
                          · try exact Bool.noConfusion h22
                            all_goals try simp only [decide_eq_true_eq, decide_eq_false_iff_not, beq_iff_eq, beq_eq_false_iff_ne, bne_iff_ne, bne_eq_false_iff_eq, Bool.not_eq_true', Bool.not_eq_false', ne_eq, Int.not_lt, Int.not_le, ge_iff_le, gt_iff_lt] at h22
                            all_goals (
                              refine HC_seq fun K26 hK26 => ?_
                              refine HC_region ?_
                              all_goals refine HL_r rfl rfl rfl rfl (R_pure rfl rfl rfl) ?_
                              all_goals refine HL_r rfl rfl rfl rfl (R_assign rfl) ?_
                              all_goals refine HL_nil ?_
                              all_goals (
                                refine HQ_then ?_
                                refine hK26 _ _ _ _ ?_; clear hK26 K26
                                refine HC_cond rfl (fun h27 => ?_) (fun h27 => ?_)
                                · try exact Bool.noConfusion h27
                                  all_goals try simp only [decide_eq_true_eq, decide_eq_false_iff_not, beq_iff_eq, beq_eq_false_iff_ne, bne_iff_ne, bne_eq_false_iff_eq, Bool.not_eq_true', Bool.not_eq_false', ne_eq, Int.not_lt, Int.not_le, ge_iff_le, gt_iff_lt] at h27
                                  all_goals (
                                    refine HC_seq fun K28 hK28 => ?_
                                    refine HC_region ?_
                                    all_goals refine HL_r rfl rfl rfl rfl (R_move rfl) ?_
                                    all_goals first
                                      | (refine HL_r rfl rfl rfl rfl (R_pure rfl rfl rfl) ?_; refine HL_wrap_i64 (by omega) (by omega) ?_)
                                      | (refine HL_r rfl rfl rfl rfl (R_pure rfl rfl rfl) ?_)
                                    all_goals refine HL_r rfl rfl rfl rfl (R_move rfl) ?_
                                    all_goals first
                                      | (refine HL_r rfl rfl rfl rfl (R_pure rfl rfl rfl) ?_; refine HL_wrap_i64 (by omega) (by omega) ?_)
                                      | (refine HL_r rfl rfl rfl rfl (R_pure rfl rfl rfl) ?_)
                                    all_goals refine HL_r rfl rfl rfl rfl (R_move rfl) ?_
                                    all_goals refine HL_r rfl rfl rfl rfl (R_pure rfl rfl rfl) ?_
                                    all_goals refine HL_r rfl rfl rfl rfl (R_move rfl) ?_
                                    all_goals first
                                      | (refine HL_r rfl rfl rfl rfl (R_move rfl) ?_)
                                      | (refine HL_skip rfl rfl rfl ?_)
                                      | (refine HL_case 54 rfl (fun hb29 => ?_) (fun hb29 => ?_) <;> (try simp only [decide_eq_true_eq, decide_eq_false_iff_not, beq_iff_eq, beq_eq_false_iff_ne, bne_iff_ne, bne_eq_false_iff_eq, Bool.not_eq_true', Bool.not_eq_false', ne_eq, Int.not_lt, Int.not_le, ge_iff_le, gt_iff_lt] at hb29) <;> first | (refine HL_r rfl rfl rfl rfl (R_move rfl) ?_) | (refine HL_skip rfl rfl rfl ?_))
                                    all_goals first
                                      | (refine HL_r rfl rfl rfl rfl (R_pure rfl rfl rfl) ?_)
                                      | (refine HL_skip rfl rfl rfl ?_)
                                      | (refine HL_case 54 rfl (fun hb30 => ?_) (fun hb30 => ?_) <;> (try simp only [decide_eq_true_eq, decide_eq_false_iff_not, beq_iff_eq, beq_eq_false_iff_ne, bne_iff_ne, bne_eq_false_iff_eq, Bool.not_eq_true', Bool.not_eq_false', ne_eq, Int.not_lt, Int.not_le, ge_iff_le, gt_iff_lt] at hb30) <;> first | (refine HL_r rfl rfl rfl rfl (R_pure rfl rfl rfl) ?_) | (refine HL_skip rfl rfl rfl ?_))
                                    all_goals first
                                      | (refine HL_r rfl rfl rfl rfl (R_pickT rfl rfl) ?_)
                                      | (refine HL_r rfl rfl rfl rfl (R_pickF rfl rfl) ?_)
                                    all_goals refine HL_r rfl rfl rfl rfl (R_build (r := [_, _, _]) rfl rfl) ?_
                                    all_goals first
                                      | (refine HL_storeA (k := 0) (n := 3) (cs' := #[_, _, _]) (vs := #[_, _, _]) rfl rfl rfl rfl rfl rfl rfl (by exact Nat.le_of_ble_eq_true rfl) rfl (by first | (simp only [List.set_cons_zero, List.set_cons_succ]; exact rfl) | exact rfl) ?_)
                                      | (refine HL_storeA (k := 1) (n := 3) (cs' := #[_, _, _]) (vs := #[_, _, _]) rfl rfl rfl rfl rfl rfl rfl (by exact Nat.le_of_ble_eq_true rfl) rfl (by first | (simp only [List.set_cons_zero, List.set_cons_succ]; exact rfl) | exact rfl) ?_)
                                      | (refine HL_storeA (k := 2) (n := 3) (cs' := #[_, _, _]) (vs := #[_, _, _]) rfl rfl rfl rfl rfl rfl rfl (by exact Nat.le_of_ble_eq_true rfl) rfl (by first | (simp only [List.set_cons_zero, List.set_cons_succ]; exact rfl) | exact rfl) ?_)
                                      | (refine HL_storeA (k := 3) (n := 3) (cs' := #[_, _, _]) (vs := #[_, _, _]) rfl rfl rfl rfl rfl rfl rfl (by exact Nat.le_of_ble_eq_true rfl) rfl (by first | (simp only [List.set_cons_zero, List.set_cons_succ]; exact rfl) | exact rfl) ?_)
                                      | (refine HL_storeA (k := 4) (n := 3) (cs' := #[_, _, _]) (vs := #[_, _, _]) rfl rfl rfl rfl rfl rfl rfl (by exact Nat.le_of_ble_eq_true rfl) rfl (by first | (simp only [List.set_cons_zero, List.set_cons_succ]; exact rfl) | exact rfl) ?_)
                                      | (refine HL_storeA (k := 5) (n := 3) (cs' := #[_, _, _]) (vs := #[_, _, _]) rfl rfl rfl rfl rfl rfl rfl (by exact Nat.le_of_ble_eq_true rfl) rfl (by first | (simp only [List.set_cons_zero, List.set_cons_succ]; exact rfl) | exact rfl) ?_)
                                      | (refine HL_storeA (k := 0) (n := 3) (vs := #[_, _, _]) rfl rfl rfl rfl rfl rfl rfl (by exact Nat.le_of_ble_eq_true rfl) (by first | (simp only [List.take_zero, List.nil_append, Array.toList_toArray, List.drop_succ_cons, List.drop_zero, List.take_succ_cons, List.cons_append, Nat.zero_add, Nat.reduceAdd, List.append_nil, List.drop_nil]; exact rfl) | exact rfl) (by first | (simp only [List.set_cons_zero, List.set_cons_succ]; exact rfl) | exact rfl) ?_)
                                      | (refine HL_storeA (k := 1) (n := 3) (vs := #[_, _, _]) rfl rfl rfl rfl rfl rfl rfl (by exact Nat.le_of_ble_eq_true rfl) (by first | (simp only [List.take_zero, List.nil_append, Array.toList_toArray, List.drop_succ_cons, List.drop_zero, List.take_succ_cons, List.cons_append, Nat.zero_add, Nat.reduceAdd, List.append_nil, List.drop_nil]; exact rfl) | exact rfl) (by first | (simp only [List.set_cons_zero, List.set_cons_succ]; exact rfl) | exact rfl) ?_)
                                      | (refine HL_storeA (k := 2) (n := 3) (vs := #[_, _, _]) rfl rfl rfl rfl rfl rfl rfl (by exact Nat.le_of_ble_eq_true rfl) (by first | (simp only [List.take_zero, List.nil_append, Array.toList_toArray, List.drop_succ_cons, List.drop_zero, List.take_succ_cons, List.cons_append, Nat.zero_add, Nat.reduceAdd, List.append_nil, List.drop_nil]; exact rfl) | exact rfl) (by first | (simp only [List.set_cons_zero, List.set_cons_succ]; exact rfl) | exact rfl) ?_)
                                      | (refine HL_storeA (k := 3) (n := 3) (vs := #[_, _, _]) rfl rfl rfl rfl rfl rfl rfl (by exact Nat.le_of_ble_eq_true rfl) (by first | (simp only [List.take_zero, List.nil_append, Array.toList_toArray, List.drop_succ_cons, List.drop_zero, List.take_succ_cons, List.cons_append, Nat.zero_add, Nat.reduceAdd, List.append_nil, List.drop_nil]; exact rfl) | exact rfl) (by first | (simp only [List.set_cons_zero, List.set_cons_succ]; exact rfl) | exact rfl) ?_)
                                      | (refine HL_storeA (k := 4) (n := 3) (vs := #[_, _, _]) rfl rfl rfl rfl rfl rfl rfl (by exact Nat.le_of_ble_eq_true rfl) (by first | (simp only [List.take_zero, List.nil_append, Array.toList_toArray, List.drop_succ_cons, List.drop_zero, List.take_succ_cons, List.cons_append, Nat.zero_add, Nat.reduceAdd, List.append_nil, List.drop_nil]; exact rfl) | exact rfl) (by first | (simp only [List.set_cons_zero, List.set_cons_succ]; exact rfl) | exact rfl) ?_)
                                      | (refine HL_storeA (k := 5) (n := 3) (vs := #[_, _, _]) rfl rfl rfl rfl rfl rfl rfl (by exact Nat.le_of_ble_eq_true rfl) (by first | (simp only [List.take_zero, List.nil_append, Array.toList_toArray, List.drop_succ_cons, List.drop_zero, List.take_succ_cons, List.cons_append, Nat.zero_add, Nat.reduceAdd, List.append_nil, List.drop_nil]; exact rfl) | exact rfl) (by first | (simp only [List.set_cons_zero, List.set_cons_succ]; exact rfl) | exact rfl) ?_)
                                    all_goals refine HL_nil ?_
                                    all_goals (
                                      refine HQ_then ?_
                                      refine hK28 _ _ _ _ ?_; clear hK28 K28
                                      refine HC_ret ?_
                                      refine HQ_blockR ?_
                                      refine HQ_thenR ?_; clear hK2 K2
                                      first
                                        | refine HQ_post rfl rfl (.cons (res_cellA (vs := [_, _, _]) rfl (known_L (k := 0) rfl) rfl rfl) .nil) (fun w1 hs1 => ?_)
                                        | refine HQ_post rfl rfl (.cons (res_cellA (vs := [_, _, _]) rfl (known_L (k := 1) rfl) rfl rfl) .nil) (fun w1 hs1 => ?_)
                                        | refine HQ_post rfl rfl (.cons (res_cellA (vs := [_, _, _]) rfl (known_L (k := 2) rfl) rfl rfl) .nil) (fun w1 hs1 => ?_)
                                        | refine HQ_post rfl rfl (.cons (res_cellA (vs := [_, _, _]) rfl (known_L (k := 3) rfl) rfl rfl) .nil) (fun w1 hs1 => ?_)
                                        | refine HQ_post rfl rfl (.cons (res_cellA (vs := [_, _, _]) rfl (known_L (k := 4) rfl) rfl rfl) .nil) (fun w1 hs1 => ?_)
                                        | refine HQ_post rfl rfl (.cons (res_cellA (vs := [_, _, _]) rfl (known_L (k := 5) rfl) rfl rfl) .nil) (fun w1 hs1 => ?_)
                                      exact ⟨by simp_all [resVal, spanV, spanI], hs1.keep⟩
                                      skip)
                                    skip)
                                · try exact Bool.noConfusion h27
                                  all_goals try simp only [decide_eq_true_eq, decide_eq_false_iff_not, beq_iff_eq, beq_eq_false_iff_ne, bne_iff_ne, bne_eq_false_iff_eq, Bool.not_eq_true', Bool.not_eq_false', ne_eq, Int.not_lt, Int.not_le, ge_iff_le, gt_iff_lt] at h27
                                  all_goals (
                                    refine HC_skip ?_
                                    refine HQ_blockN ?_
                                    refine HQ_then ?_
                                    refine hK2 _ _ _ _ ?_; clear hK2 K2
                                    refine HC_seq fun K31 hK31 => ?_
                                    refine HC_region ?_
                                    all_goals refine HL_r rfl rfl rfl rfl (R_build (r := [_, _, _]) rfl rfl) ?_
                                    all_goals first
                                      | (refine HL_storeA (k := 0) (n := 3) (cs' := #[_, _, _]) (vs := #[_, _, _]) rfl rfl rfl rfl rfl rfl rfl (by exact Nat.le_of_ble_eq_true rfl) rfl (by first | (simp only [List.set_cons_zero, List.set_cons_succ]; exact rfl) | exact rfl) ?_)
                                      | (refine HL_storeA (k := 1) (n := 3) (cs' := #[_, _, _]) (vs := #[_, _, _]) rfl rfl rfl rfl rfl rfl rfl (by exact Nat.le_of_ble_eq_true rfl) rfl (by first | (simp only [List.set_cons_zero, List.set_cons_succ]; exact rfl) | exact rfl) ?_)
                                      | (refine HL_storeA (k := 2) (n := 3) (cs' := #[_, _, _]) (vs := #[_, _, _]) rfl rfl rfl rfl rfl rfl rfl (by exact Nat.le_of_ble_eq_true rfl) rfl (by first | (simp only [List.set_cons_zero, List.set_cons_succ]; exact rfl) | exact rfl) ?_)
                                      | (refine HL_storeA (k := 3) (n := 3) (cs' := #[_, _, _]) (vs := #[_, _, _]) rfl rfl rfl rfl rfl rfl rfl (by exact Nat.le_of_ble_eq_true rfl) rfl (by first | (simp only [List.set_cons_zero, List.set_cons_succ]; exact rfl) | exact rfl) ?_)
                                      | (refine HL_storeA (k := 4) (n := 3) (cs' := #[_, _, _]) (vs := #[_, _, _]) rfl rfl rfl rfl rfl rfl rfl (by exact Nat.le_of_ble_eq_true rfl) rfl (by first | (simp only [List.set_cons_zero, List.set_cons_succ]; exact rfl) | exact rfl) ?_)
                                      | (refine HL_storeA (k := 5) (n := 3) (cs' := #[_, _, _]) (vs := #[_, _, _]) rfl rfl rfl rfl rfl rfl rfl (by exact Nat.le_of_ble_eq_true rfl) rfl (by first | (simp only [List.set_cons_zero, List.set_cons_succ]; exact rfl) | exact rfl) ?_)
                                      | (refine HL_storeA (k := 0) (n := 3) (vs := #[_, _, _]) rfl rfl rfl rfl rfl rfl rfl (by exact Nat.le_of_ble_eq_true rfl) (by first | (simp only [List.take_zero, List.nil_append, Array.toList_toArray, List.drop_succ_cons, List.drop_zero, List.take_succ_cons, List.cons_append, Nat.zero_add, Nat.reduceAdd, List.append_nil, List.drop_nil]; exact rfl) | exact rfl) (by first | (simp only [List.set_cons_zero, List.set_cons_succ]; exact rfl) | exact rfl) ?_)
                                      | (refine HL_storeA (k := 1) (n := 3) (vs := #[_, _, _]) rfl rfl rfl rfl rfl rfl rfl (by exact Nat.le_of_ble_eq_true rfl) (by first | (simp only [List.take_zero, List.nil_append, Array.toList_toArray, List.drop_succ_cons, List.drop_zero, List.take_succ_cons, List.cons_append, Nat.zero_add, Nat.reduceAdd, List.append_nil, List.drop_nil]; exact rfl) | exact rfl) (by first | (simp only [List.set_cons_zero, List.set_cons_succ]; exact rfl) | exact rfl) ?_)
                                      | (refine HL_storeA (k := 2) (n := 3) (vs := #[_, _, _]) rfl rfl rfl rfl rfl rfl rfl (by exact Nat.le_of_ble_eq_true rfl) (by first | (simp only [List.take_zero, List.nil_append, Array.toList_toArray, List.drop_succ_cons, List.drop_zero, List.take_succ_cons, List.cons_append, Nat.zero_add, Nat.reduceAdd, List.append_nil, List.drop_nil]; exact rfl) | exact rfl) (by first | (simp only [List.set_cons_zero, List.set_cons_succ]; exact rfl) | exact rfl) ?_)
                                      | (refine HL_storeA (k := 3) (n := 3) (vs := #[_, _, _]) rfl rfl rfl rfl rfl rfl rfl (by exact Nat.le_of_ble_eq_true rfl) (by first | (simp only [List.take_zero, List.nil_append, Array.toList_toArray, List.drop_succ_cons, List.drop_zero, List.take_succ_cons, List.cons_append, Nat.zero_add, Nat.reduceAdd, List.append_nil, List.drop_nil]; exact rfl) | exact rfl) (by first | (simp only [List.set_cons_zero, List.set_cons_succ]; exact rfl) | exact rfl) ?_)
                                      | (refine HL_storeA (k := 4) (n := 3) (vs := #[_, _, _]) rfl rfl rfl rfl rfl rfl rfl (by exact Nat.le_of_ble_eq_true rfl) (by first | (simp only [List.take_zero, List.nil_append, Array.toList_toArray, List.drop_succ_cons, List.drop_zero, List.take_succ_cons, List.cons_append, Nat.zero_add, Nat.reduceAdd, List.append_nil, List.drop_nil]; exact rfl) | exact rfl) (by first | (simp only [List.set_cons_zero, List.set_cons_succ]; exact rfl) | exact rfl) ?_)
                                      | (refine HL_storeA (k := 5) (n := 3) (vs := #[_, _, _]) rfl rfl rfl rfl rfl rfl rfl (by exact Nat.le_of_ble_eq_true rfl) (by first | (simp only [List.take_zero, List.nil_append, Array.toList_toArray, List.drop_succ_cons, List.drop_zero, List.take_succ_cons, List.cons_append, Nat.zero_add, Nat.reduceAdd, List.append_nil, List.drop_nil]; exact rfl) | exact rfl) (by first | (simp only [List.set_cons_zero, List.set_cons_succ]; exact rfl) | exact rfl) ?_)
                                    all_goals refine HL_nil ?_
                                    all_goals (
                                      refine HQ_then ?_
                                      refine hK31 _ _ _ _ ?_; clear hK31 K31
                                      refine HC_ret ?_
                                      first
                                        | refine HQ_post rfl rfl (.cons (res_cellA (vs := [_, _, _]) rfl (known_L (k := 0) rfl) rfl rfl) .nil) (fun w1 hs1 => ?_)
                                        | refine HQ_post rfl rfl (.cons (res_cellA (vs := [_, _, _]) rfl (known_L (k := 1) rfl) rfl rfl) .nil) (fun w1 hs1 => ?_)
                                        | refine HQ_post rfl rfl (.cons (res_cellA (vs := [_, _, _]) rfl (known_L (k := 2) rfl) rfl rfl) .nil) (fun w1 hs1 => ?_)
                                        | refine HQ_post rfl rfl (.cons (res_cellA (vs := [_, _, _]) rfl (known_L (k := 3) rfl) rfl rfl) .nil) (fun w1 hs1 => ?_)
                                        | refine HQ_post rfl rfl (.cons (res_cellA (vs := [_, _, _]) rfl (known_L (k := 4) rfl) rfl rfl) .nil) (fun w1 hs1 => ?_)
                                        | refine HQ_post rfl rfl (.cons (res_cellA (vs := [_, _, _]) rfl (known_L (k := 5) rfl) rfl rfl) .nil) (fun w1 hs1 => ?_)
                                      exact ⟨by simp_all [resVal, spanV, spanI], hs1.keep⟩
                                      skip)
                                    skip)
                                skip)
                              skip)
                          skip)
                        skip)
                    skip)
                  skip)
              skip)
            skip)
        skip)
      skip)
    skip)
set_option maxRecDepth 10000 in
theorem P_rescriptref13_Range (k v : Int) : Pure Try.prog 9 [.int .i64 k, .int .i64 v].toArray
    (if (spanI k v).2.2 then .tuple #[.int .i64 (spanI k v).1, .int .i64 (spanI k v).2.1, .int .i64 0] else .tuple #[.int .i64 0, .int .i64 0, .int .i64 9]) := by
  refine pure_of_HC Try.func9 rfl rfl fun w => ?_
  refine HC_seq fun K1 hK1 => ?_
  refine HC_region ?_
  all_goals refine HL_r rfl rfl rfl rfl (R_assign rfl) ?_
  all_goals refine HL_r rfl rfl rfl rfl (R_assign rfl) ?_
  all_goals refine HL_r rfl rfl rfl rfl (R_assign rfl) ?_
  all_goals refine HL_nil ?_
  all_goals (
    refine HQ_then ?_
    refine hK1 _ _ _ _ ?_; clear hK1 K1
    refine HC_seq fun K2 hK2 => ?_
    refine HC_region ?_
    all_goals refine HL_r rfl rfl rfl rfl (R_move rfl) ?_
    all_goals refine HL_r rfl rfl rfl rfl (R_move rfl) ?_
    all_goals refine HL_callP rfl rfl rfl (enters_of Try.func18 (by kernel_rfl) rfl) (P_rescriptref13_span ..) ?_
    all_goals refine HL_alloc (cs := #[_, _, _]) rfl rfl rfl rfl fun r1 => ?_
    all_goals first
      | (refine HL_storeA (k := 0) (n := 3) (cs' := #[_, _, _]) (vs := #[_, _, _]) rfl rfl rfl rfl rfl rfl rfl (by exact Nat.le_of_ble_eq_true rfl) rfl (by first | (simp only [List.set_cons_zero, List.set_cons_succ]; exact rfl) | exact rfl) ?_)
      | (refine HL_storeA (k := 1) (n := 3) (cs' := #[_, _, _]) (vs := #[_, _, _]) rfl rfl rfl rfl rfl rfl rfl (by exact Nat.le_of_ble_eq_true rfl) rfl (by first | (simp only [List.set_cons_zero, List.set_cons_succ]; exact rfl) | exact rfl) ?_)
      | (refine HL_storeA (k := 2) (n := 3) (cs' := #[_, _, _]) (vs := #[_, _, _]) rfl rfl rfl rfl rfl rfl rfl (by exact Nat.le_of_ble_eq_true rfl) rfl (by first | (simp only [List.set_cons_zero, List.set_cons_succ]; exact rfl) | exact rfl) ?_)
      | (refine HL_storeA (k := 3) (n := 3) (cs' := #[_, _, _]) (vs := #[_, _, _]) rfl rfl rfl rfl rfl rfl rfl (by exact Nat.le_of_ble_eq_true rfl) rfl (by first | (simp only [List.set_cons_zero, List.set_cons_succ]; exact rfl) | exact rfl) ?_)
      | (refine HL_storeA (k := 4) (n := 3) (cs' := #[_, _, _]) (vs := #[_, _, _]) rfl rfl rfl rfl rfl rfl rfl (by exact Nat.le_of_ble_eq_true rfl) rfl (by first | (simp only [List.set_cons_zero, List.set_cons_succ]; exact rfl) | exact rfl) ?_)
      | (refine HL_storeA (k := 5) (n := 3) (cs' := #[_, _, _]) (vs := #[_, _, _]) rfl rfl rfl rfl rfl rfl rfl (by exact Nat.le_of_ble_eq_true rfl) rfl (by first | (simp only [List.set_cons_zero, List.set_cons_succ]; exact rfl) | exact rfl) ?_)
      | (refine HL_storeA (k := 0) (n := 3) (vs := #[_, _, _]) rfl rfl rfl rfl rfl rfl rfl (by exact Nat.le_of_ble_eq_true rfl) (by first | (simp only [List.take_zero, List.nil_append, Array.toList_toArray, List.drop_succ_cons, List.drop_zero, List.take_succ_cons, List.cons_append, Nat.zero_add, Nat.reduceAdd, List.append_nil, List.drop_nil]; exact rfl) | exact rfl) (by first | (simp only [List.set_cons_zero, List.set_cons_succ]; exact rfl) | exact rfl) ?_)
      | (refine HL_storeA (k := 1) (n := 3) (vs := #[_, _, _]) rfl rfl rfl rfl rfl rfl rfl (by exact Nat.le_of_ble_eq_true rfl) (by first | (simp only [List.take_zero, List.nil_append, Array.toList_toArray, List.drop_succ_cons, List.drop_zero, List.take_succ_cons, List.cons_append, Nat.zero_add, Nat.reduceAdd, List.append_nil, List.drop_nil]; exact rfl) | exact rfl) (by first | (simp only [List.set_cons_zero, List.set_cons_succ]; exact rfl) | exact rfl) ?_)
      | (refine HL_storeA (k := 2) (n := 3) (vs := #[_, _, _]) rfl rfl rfl rfl rfl rfl rfl (by exact Nat.le_of_ble_eq_true rfl) (by first | (simp only [List.take_zero, List.nil_append, Array.toList_toArray, List.drop_succ_cons, List.drop_zero, List.take_succ_cons, List.cons_append, Nat.zero_add, Nat.reduceAdd, List.append_nil, List.drop_nil]; exact rfl) | exact rfl) (by first | (simp only [List.set_cons_zero, List.set_cons_succ]; exact rfl) | exact rfl) ?_)
      | (refine HL_storeA (k := 3) (n := 3) (vs := #[_, _, _]) rfl rfl rfl rfl rfl rfl rfl (by exact Nat.le_of_ble_eq_true rfl) (by first | (simp only [List.take_zero, List.nil_append, Array.toList_toArray, List.drop_succ_cons, List.drop_zero, List.take_succ_cons, List.cons_append, Nat.zero_add, Nat.reduceAdd, List.append_nil, List.drop_nil]; exact rfl) | exact rfl) (by first | (simp only [List.set_cons_zero, List.set_cons_succ]; exact rfl) | exact rfl) ?_)
      | (refine HL_storeA (k := 4) (n := 3) (vs := #[_, _, _]) rfl rfl rfl rfl rfl rfl rfl (by exact Nat.le_of_ble_eq_true rfl) (by first | (simp only [List.take_zero, List.nil_append, Array.toList_toArray, List.drop_succ_cons, List.drop_zero, List.take_succ_cons, List.cons_append, Nat.zero_add, Nat.reduceAdd, List.append_nil, List.drop_nil]; exact rfl) | exact rfl) (by first | (simp only [List.set_cons_zero, List.set_cons_succ]; exact rfl) | exact rfl) ?_)
      | (refine HL_storeA (k := 5) (n := 3) (vs := #[_, _, _]) rfl rfl rfl rfl rfl rfl rfl (by exact Nat.le_of_ble_eq_true rfl) (by first | (simp only [List.take_zero, List.nil_append, Array.toList_toArray, List.drop_succ_cons, List.drop_zero, List.take_succ_cons, List.cons_append, Nat.zero_add, Nat.reduceAdd, List.append_nil, List.drop_nil]; exact rfl) | exact rfl) (by first | (simp only [List.set_cons_zero, List.set_cons_succ]; exact rfl) | exact rfl) ?_)
    all_goals refine HL_nil ?_
    all_goals (
      refine HQ_then ?_
      refine hK2 _ _ _ _ ?_; clear hK2 K2
      refine HC_seq fun K3 hK3 => ?_
      refine HC_seq fun K4 hK4 => ?_
      refine HC_region ?_
      all_goals refine HL_r rfl rfl rfl rfl (R_fieldAddr rfl rfl (by first | (simp only [Nat.zero_add, Nat.reduceAdd, Nat.reduceMul, Nat.zero_mul, Nat.mul_one, Nat.add_zero]; exact rfl) | exact rfl)) ?_
      all_goals first
        | (refine HL_r rfl rfl rfl rfl (R_load rfl (known_L (k := 0) rfl) rfl rfl) ?_)
        | (refine HL_r rfl rfl rfl rfl (R_load rfl (known_L (k := 1) rfl) rfl rfl) ?_)
        | (refine HL_r rfl rfl rfl rfl (R_load rfl (known_L (k := 2) rfl) rfl rfl) ?_)
        | (refine HL_r rfl rfl rfl rfl (R_load rfl (known_L (k := 3) rfl) rfl rfl) ?_)
        | (refine HL_r rfl rfl rfl rfl (R_load rfl (known_L (k := 4) rfl) rfl rfl) ?_)
        | (refine HL_r rfl rfl rfl rfl (R_load rfl (known_L (k := 5) rfl) rfl rfl) ?_)
      all_goals refine HL_r rfl rfl rfl rfl (R_pure rfl rfl rfl) ?_
      all_goals refine HL_nil ?_
      all_goals (
        refine HQ_then ?_
        refine hK4 _ _ _ _ ?_; clear hK4 K4
        refine HC_cond rfl (fun h5 => ?_) (fun h5 => ?_)
        · try exact Bool.noConfusion h5
          all_goals try simp only [decide_eq_true_eq, decide_eq_false_iff_not, beq_iff_eq, beq_eq_false_iff_ne, bne_iff_ne, bne_eq_false_iff_eq, Bool.not_eq_true', Bool.not_eq_false', ne_eq, Int.not_lt, Int.not_le, ge_iff_le, gt_iff_lt] at h5
          all_goals (
            refine HC_seq fun K6 hK6 => ?_
            refine HC_region ?_
            all_goals refine HL_r rfl rfl rfl rfl (R_assign rfl) ?_
            all_goals refine HL_r rfl rfl rfl rfl (R_assign rfl) ?_
            all_goals refine HL_r rfl rfl rfl rfl (R_assign rfl) ?_
            all_goals refine HL_nil ?_
            all_goals (
              refine HQ_then ?_
              refine hK6 _ _ _ _ ?_; clear hK6 K6
              refine HC_ret ?_
              refine HQ_thenR ?_; clear hK3 K3
              refine HQ_post rfl rfl (.cons (res_tmp rfl) (.cons (res_tmp rfl) (.cons (res_tmp rfl) .nil))) (fun w1 hs1 => ?_)
              exact ⟨by simp_all [resVal, spanV], hs1.keep⟩
              skip)
            skip)
        · try exact Bool.noConfusion h5
          all_goals try simp only [decide_eq_true_eq, decide_eq_false_iff_not, beq_iff_eq, beq_eq_false_iff_ne, bne_iff_ne, bne_eq_false_iff_eq, Bool.not_eq_true', Bool.not_eq_false', ne_eq, Int.not_lt, Int.not_le, ge_iff_le, gt_iff_lt] at h5
          all_goals (
            refine HC_skip ?_
            refine HQ_then ?_
            refine hK3 _ _ _ _ ?_; clear hK3 K3
            refine HC_seq fun K7 hK7 => ?_
            refine HC_draw 7 (by kernel_rfl) (by kernel_rfl) ?_
            all_goals refine HD_r rfl rfl rfl (R_fieldAddr rfl rfl (by first | (simp only [Nat.zero_add, Nat.reduceAdd, Nat.reduceMul, Nat.zero_mul, Nat.mul_one, Nat.add_zero]; exact rfl) | exact rfl)) ?_
            all_goals first
              | (refine HD_r rfl rfl rfl (R_load rfl (known_L (k := 0) rfl) rfl rfl) ?_)
              | (refine HD_r rfl rfl rfl (R_load rfl (known_L (k := 1) rfl) rfl rfl) ?_)
              | (refine HD_r rfl rfl rfl (R_load rfl (known_L (k := 2) rfl) rfl rfl) ?_)
              | (refine HD_r rfl rfl rfl (R_load rfl (known_L (k := 3) rfl) rfl rfl) ?_)
              | (refine HD_r rfl rfl rfl (R_load rfl (known_L (k := 4) rfl) rfl rfl) ?_)
              | (refine HD_r rfl rfl rfl (R_load rfl (known_L (k := 5) rfl) rfl rfl) ?_)
            all_goals refine HD_r rfl rfl rfl (R_fieldAddr rfl rfl (by first | (simp only [Nat.zero_add, Nat.reduceAdd, Nat.reduceMul, Nat.zero_mul, Nat.mul_one, Nat.add_zero]; exact rfl) | exact rfl)) ?_
            all_goals first
              | (refine HD_r rfl rfl rfl (R_load rfl (known_L (k := 0) rfl) rfl rfl) ?_)
              | (refine HD_r rfl rfl rfl (R_load rfl (known_L (k := 1) rfl) rfl rfl) ?_)
              | (refine HD_r rfl rfl rfl (R_load rfl (known_L (k := 2) rfl) rfl rfl) ?_)
              | (refine HD_r rfl rfl rfl (R_load rfl (known_L (k := 3) rfl) rfl rfl) ?_)
              | (refine HD_r rfl rfl rfl (R_load rfl (known_L (k := 4) rfl) rfl rfl) ?_)
              | (refine HD_r rfl rfl rfl (R_load rfl (known_L (k := 5) rfl) rfl rfl) ?_)
            all_goals refine HD_r rfl rfl rfl (R_assign rfl) ?_
            all_goals refine HD_r rfl rfl rfl (R_assign rfl) ?_
            all_goals refine HD_r rfl rfl rfl (R_assign rfl) ?_
            all_goals refine HD_end ?_
            all_goals refine HL_nil ?_
            all_goals (
              refine HQ_then ?_
              refine hK7 _ _ _ _ ?_; clear hK7 K7
              refine HC_ret ?_
              refine HQ_post rfl rfl (.cons (res_tmp rfl) (.cons (res_tmp rfl) (.cons (res_tmp rfl) .nil))) (fun w1 hs1 => ?_)
              exact ⟨by simp_all [resVal, spanV], hs1.keep⟩
              skip)
            skip)
        skip)
      skip)
    skip)
set_option maxRecDepth 10000 in
theorem P_rescriptref13_Legal (f k v : Int) : Pure Try.prog 10 [.int .i64 f, .int .i64 k, .int .i64 v].toArray
    (.bool ((spanI k v).2.2 && decide ((spanI k v).1 ≤ f) && decide (f ≤ (spanI k v).2.1))) := by
  refine pure_of_HC Try.func10 rfl rfl fun w => ?_
  refine HC_seq fun K1 hK1 => ?_
  refine HC_region ?_
  all_goals refine HL_r rfl rfl rfl rfl (R_assign rfl) ?_
  all_goals refine HL_nil ?_
  all_goals (
    refine HQ_then ?_
    refine hK1 _ _ _ _ ?_; clear hK1 K1
    refine HC_seq fun K2 hK2 => ?_
    refine HC_region ?_
    all_goals refine HL_r rfl rfl rfl rfl (R_move rfl) ?_
    all_goals refine HL_r rfl rfl rfl rfl (R_move rfl) ?_
    all_goals refine HL_callP rfl rfl rfl (enters_of Try.func18 (by kernel_rfl) rfl) (P_rescriptref13_span ..) ?_
    all_goals refine HL_alloc (cs := #[_, _, _]) rfl rfl rfl rfl fun r1 => ?_
    all_goals first
      | (refine HL_storeA (k := 0) (n := 3) (cs' := #[_, _, _]) (vs := #[_, _, _]) rfl rfl rfl rfl rfl rfl rfl (by exact Nat.le_of_ble_eq_true rfl) rfl (by first | (simp only [List.set_cons_zero, List.set_cons_succ]; exact rfl) | exact rfl) ?_)
      | (refine HL_storeA (k := 1) (n := 3) (cs' := #[_, _, _]) (vs := #[_, _, _]) rfl rfl rfl rfl rfl rfl rfl (by exact Nat.le_of_ble_eq_true rfl) rfl (by first | (simp only [List.set_cons_zero, List.set_cons_succ]; exact rfl) | exact rfl) ?_)
      | (refine HL_storeA (k := 2) (n := 3) (cs' := #[_, _, _]) (vs := #[_, _, _]) rfl rfl rfl rfl rfl rfl rfl (by exact Nat.le_of_ble_eq_true rfl) rfl (by first | (simp only [List.set_cons_zero, List.set_cons_succ]; exact rfl) | exact rfl) ?_)
      | (refine HL_storeA (k := 3) (n := 3) (cs' := #[_, _, _]) (vs := #[_, _, _]) rfl rfl rfl rfl rfl rfl rfl (by exact Nat.le_of_ble_eq_true rfl) rfl (by first | (simp only [List.set_cons_zero, List.set_cons_succ]; exact rfl) | exact rfl) ?_)
      | (refine HL_storeA (k := 4) (n := 3) (cs' := #[_, _, _]) (vs := #[_, _, _]) rfl rfl rfl rfl rfl rfl rfl (by exact Nat.le_of_ble_eq_true rfl) rfl (by first | (simp only [List.set_cons_zero, List.set_cons_succ]; exact rfl) | exact rfl) ?_)
      | (refine HL_storeA (k := 5) (n := 3) (cs' := #[_, _, _]) (vs := #[_, _, _]) rfl rfl rfl rfl rfl rfl rfl (by exact Nat.le_of_ble_eq_true rfl) rfl (by first | (simp only [List.set_cons_zero, List.set_cons_succ]; exact rfl) | exact rfl) ?_)
      | (refine HL_storeA (k := 0) (n := 3) (vs := #[_, _, _]) rfl rfl rfl rfl rfl rfl rfl (by exact Nat.le_of_ble_eq_true rfl) (by first | (simp only [List.take_zero, List.nil_append, Array.toList_toArray, List.drop_succ_cons, List.drop_zero, List.take_succ_cons, List.cons_append, Nat.zero_add, Nat.reduceAdd, List.append_nil, List.drop_nil]; exact rfl) | exact rfl) (by first | (simp only [List.set_cons_zero, List.set_cons_succ]; exact rfl) | exact rfl) ?_)
      | (refine HL_storeA (k := 1) (n := 3) (vs := #[_, _, _]) rfl rfl rfl rfl rfl rfl rfl (by exact Nat.le_of_ble_eq_true rfl) (by first | (simp only [List.take_zero, List.nil_append, Array.toList_toArray, List.drop_succ_cons, List.drop_zero, List.take_succ_cons, List.cons_append, Nat.zero_add, Nat.reduceAdd, List.append_nil, List.drop_nil]; exact rfl) | exact rfl) (by first | (simp only [List.set_cons_zero, List.set_cons_succ]; exact rfl) | exact rfl) ?_)
      | (refine HL_storeA (k := 2) (n := 3) (vs := #[_, _, _]) rfl rfl rfl rfl rfl rfl rfl (by exact Nat.le_of_ble_eq_true rfl) (by first | (simp only [List.take_zero, List.nil_append, Array.toList_toArray, List.drop_succ_cons, List.drop_zero, List.take_succ_cons, List.cons_append, Nat.zero_add, Nat.reduceAdd, List.append_nil, List.drop_nil]; exact rfl) | exact rfl) (by first | (simp only [List.set_cons_zero, List.set_cons_succ]; exact rfl) | exact rfl) ?_)
      | (refine HL_storeA (k := 3) (n := 3) (vs := #[_, _, _]) rfl rfl rfl rfl rfl rfl rfl (by exact Nat.le_of_ble_eq_true rfl) (by first | (simp only [List.take_zero, List.nil_append, Array.toList_toArray, List.drop_succ_cons, List.drop_zero, List.take_succ_cons, List.cons_append, Nat.zero_add, Nat.reduceAdd, List.append_nil, List.drop_nil]; exact rfl) | exact rfl) (by first | (simp only [List.set_cons_zero, List.set_cons_succ]; exact rfl) | exact rfl) ?_)
      | (refine HL_storeA (k := 4) (n := 3) (vs := #[_, _, _]) rfl rfl rfl rfl rfl rfl rfl (by exact Nat.le_of_ble_eq_true rfl) (by first | (simp only [List.take_zero, List.nil_append, Array.toList_toArray, List.drop_succ_cons, List.drop_zero, List.take_succ_cons, List.cons_append, Nat.zero_add, Nat.reduceAdd, List.append_nil, List.drop_nil]; exact rfl) | exact rfl) (by first | (simp only [List.set_cons_zero, List.set_cons_succ]; exact rfl) | exact rfl) ?_)
      | (refine HL_storeA (k := 5) (n := 3) (vs := #[_, _, _]) rfl rfl rfl rfl rfl rfl rfl (by exact Nat.le_of_ble_eq_true rfl) (by first | (simp only [List.take_zero, List.nil_append, Array.toList_toArray, List.drop_succ_cons, List.drop_zero, List.take_succ_cons, List.cons_append, Nat.zero_add, Nat.reduceAdd, List.append_nil, List.drop_nil]; exact rfl) | exact rfl) (by first | (simp only [List.set_cons_zero, List.set_cons_succ]; exact rfl) | exact rfl) ?_)
    all_goals refine HL_nil ?_
    all_goals (
      refine HQ_then ?_
      refine hK2 _ _ _ _ ?_; clear hK2 K2
      refine HC_seq fun K3 hK3 => ?_
      refine HC_region ?_
      all_goals refine HL_r rfl rfl rfl rfl (R_fieldAddr rfl rfl (by first | (simp only [Nat.zero_add, Nat.reduceAdd, Nat.reduceMul, Nat.zero_mul, Nat.mul_one, Nat.add_zero]; exact rfl) | exact rfl)) ?_
      all_goals first
        | (refine HL_r rfl rfl rfl rfl (R_load rfl (known_L (k := 0) rfl) rfl rfl) ?_)
        | (refine HL_r rfl rfl rfl rfl (R_load rfl (known_L (k := 1) rfl) rfl rfl) ?_)
        | (refine HL_r rfl rfl rfl rfl (R_load rfl (known_L (k := 2) rfl) rfl rfl) ?_)
        | (refine HL_r rfl rfl rfl rfl (R_load rfl (known_L (k := 3) rfl) rfl rfl) ?_)
        | (refine HL_r rfl rfl rfl rfl (R_load rfl (known_L (k := 4) rfl) rfl rfl) ?_)
        | (refine HL_r rfl rfl rfl rfl (R_load rfl (known_L (k := 5) rfl) rfl rfl) ?_)
      all_goals refine HL_r rfl rfl rfl rfl (R_move rfl) ?_
      all_goals first
        | (refine HL_r rfl rfl rfl rfl (R_fieldAddr rfl rfl (by first | (simp only [Nat.zero_add, Nat.reduceAdd, Nat.reduceMul, Nat.zero_mul, Nat.mul_one, Nat.add_zero]; exact rfl) | exact rfl)) ?_)
        | (refine HL_skip rfl rfl rfl ?_)
        | (refine HL_case 13 rfl (fun hb4 => ?_) (fun hb4 => ?_) <;> (try simp only [decide_eq_true_eq, decide_eq_false_iff_not, beq_iff_eq, beq_eq_false_iff_ne, bne_iff_ne, bne_eq_false_iff_eq, Bool.not_eq_true', Bool.not_eq_false', ne_eq, Int.not_lt, Int.not_le, ge_iff_le, gt_iff_lt] at hb4) <;> first | (refine HL_r rfl rfl rfl rfl (R_fieldAddr rfl rfl (by first | (simp only [Nat.zero_add, Nat.reduceAdd, Nat.reduceMul, Nat.zero_mul, Nat.mul_one, Nat.add_zero]; exact rfl) | exact rfl)) ?_) | (refine HL_skip rfl rfl rfl ?_))
      all_goals first
        | (refine HL_r rfl rfl rfl rfl (R_load rfl (known_L (k := 0) rfl) rfl rfl) ?_)
        | (refine HL_r rfl rfl rfl rfl (R_load rfl (known_L (k := 1) rfl) rfl rfl) ?_)
        | (refine HL_r rfl rfl rfl rfl (R_load rfl (known_L (k := 2) rfl) rfl rfl) ?_)
        | (refine HL_r rfl rfl rfl rfl (R_load rfl (known_L (k := 3) rfl) rfl rfl) ?_)
        | (refine HL_r rfl rfl rfl rfl (R_load rfl (known_L (k := 4) rfl) rfl rfl) ?_)
        | (refine HL_r rfl rfl rfl rfl (R_load rfl (known_L (k := 5) rfl) rfl rfl) ?_)
        | (refine HL_skip rfl rfl rfl ?_)
        | (refine HL_case 13 rfl (fun hb5 => ?_) (fun hb5 => ?_) <;> (try simp only [decide_eq_true_eq, decide_eq_false_iff_not, beq_iff_eq, beq_eq_false_iff_ne, bne_iff_ne, bne_eq_false_iff_eq, Bool.not_eq_true', Bool.not_eq_false', ne_eq, Int.not_lt, Int.not_le, ge_iff_le, gt_iff_lt] at hb5) <;> first | (refine HL_r rfl rfl rfl rfl (R_load rfl (known_L (k := 0) rfl) rfl rfl) ?_) | (refine HL_r rfl rfl rfl rfl (R_load rfl (known_L (k := 1) rfl) rfl rfl) ?_) | (refine HL_r rfl rfl rfl rfl (R_load rfl (known_L (k := 2) rfl) rfl rfl) ?_) | (refine HL_r rfl rfl rfl rfl (R_load rfl (known_L (k := 3) rfl) rfl rfl) ?_) | (refine HL_r rfl rfl rfl rfl (R_load rfl (known_L (k := 4) rfl) rfl rfl) ?_) | (refine HL_r rfl rfl rfl rfl (R_load rfl (known_L (k := 5) rfl) rfl rfl) ?_) | (refine HL_skip rfl rfl rfl ?_))
      all_goals first
        | (refine HL_r rfl rfl rfl rfl (R_move rfl) ?_)
        | (refine HL_skip rfl rfl rfl ?_)
        | (refine HL_case 13 rfl (fun hb6 => ?_) (fun hb6 => ?_) <;> (try simp only [decide_eq_true_eq, decide_eq_false_iff_not, beq_iff_eq, beq_eq_false_iff_ne, bne_iff_ne, bne_eq_false_iff_eq, Bool.not_eq_true', Bool.not_eq_false', ne_eq, Int.not_lt, Int.not_le, ge_iff_le, gt_iff_lt] at hb6) <;> first | (refine HL_r rfl rfl rfl rfl (R_move rfl) ?_) | (refine HL_skip rfl rfl rfl ?_))
      all_goals first
        | (refine HL_r rfl rfl rfl rfl (R_pure rfl rfl rfl) ?_)
        | (refine HL_skip rfl rfl rfl ?_)
        | (refine HL_case 13 rfl (fun hb7 => ?_) (fun hb7 => ?_) <;> (try simp only [decide_eq_true_eq, decide_eq_false_iff_not, beq_iff_eq, beq_eq_false_iff_ne, bne_iff_ne, bne_eq_false_iff_eq, Bool.not_eq_true', Bool.not_eq_false', ne_eq, Int.not_lt, Int.not_le, ge_iff_le, gt_iff_lt] at hb7) <;> first | (refine HL_r rfl rfl rfl rfl (R_pure rfl rfl rfl) ?_) | (refine HL_skip rfl rfl rfl ?_))
      all_goals first
        | (refine HL_r rfl rfl rfl rfl (R_pickT rfl rfl) ?_)
        | (refine HL_r rfl rfl rfl rfl (R_pickF rfl rfl) ?_)
      all_goals refine HL_r rfl rfl rfl rfl (R_move rfl) ?_
      all_goals first
        | (refine HL_r rfl rfl rfl rfl (R_move rfl) ?_)
        | (refine HL_skip rfl rfl rfl ?_)
        | (refine HL_case 19 rfl (fun hb8 => ?_) (fun hb8 => ?_) <;> (try simp only [decide_eq_true_eq, decide_eq_false_iff_not, beq_iff_eq, beq_eq_false_iff_ne, bne_iff_ne, bne_eq_false_iff_eq, Bool.not_eq_true', Bool.not_eq_false', ne_eq, Int.not_lt, Int.not_le, ge_iff_le, gt_iff_lt] at hb8) <;> first | (refine HL_r rfl rfl rfl rfl (R_move rfl) ?_) | (refine HL_skip rfl rfl rfl ?_))
      all_goals first
        | (refine HL_r rfl rfl rfl rfl (R_fieldAddr rfl rfl (by first | (simp only [Nat.zero_add, Nat.reduceAdd, Nat.reduceMul, Nat.zero_mul, Nat.mul_one, Nat.add_zero]; exact rfl) | exact rfl)) ?_)
        | (refine HL_skip rfl rfl rfl ?_)
        | (refine HL_case 19 rfl (fun hb9 => ?_) (fun hb9 => ?_) <;> (try simp only [decide_eq_true_eq, decide_eq_false_iff_not, beq_iff_eq, beq_eq_false_iff_ne, bne_iff_ne, bne_eq_false_iff_eq, Bool.not_eq_true', Bool.not_eq_false', ne_eq, Int.not_lt, Int.not_le, ge_iff_le, gt_iff_lt] at hb9) <;> first | (refine HL_r rfl rfl rfl rfl (R_fieldAddr rfl rfl (by first | (simp only [Nat.zero_add, Nat.reduceAdd, Nat.reduceMul, Nat.zero_mul, Nat.mul_one, Nat.add_zero]; exact rfl) | exact rfl)) ?_) | (refine HL_skip rfl rfl rfl ?_))
      all_goals first
        | (refine HL_r rfl rfl rfl rfl (R_load rfl (known_L (k := 0) rfl) rfl rfl) ?_)
        | (refine HL_r rfl rfl rfl rfl (R_load rfl (known_L (k := 1) rfl) rfl rfl) ?_)
        | (refine HL_r rfl rfl rfl rfl (R_load rfl (known_L (k := 2) rfl) rfl rfl) ?_)
        | (refine HL_r rfl rfl rfl rfl (R_load rfl (known_L (k := 3) rfl) rfl rfl) ?_)
        | (refine HL_r rfl rfl rfl rfl (R_load rfl (known_L (k := 4) rfl) rfl rfl) ?_)
        | (refine HL_r rfl rfl rfl rfl (R_load rfl (known_L (k := 5) rfl) rfl rfl) ?_)
        | (refine HL_skip rfl rfl rfl ?_)
        | (refine HL_case 19 rfl (fun hb10 => ?_) (fun hb10 => ?_) <;> (try simp only [decide_eq_true_eq, decide_eq_false_iff_not, beq_iff_eq, beq_eq_false_iff_ne, bne_iff_ne, bne_eq_false_iff_eq, Bool.not_eq_true', Bool.not_eq_false', ne_eq, Int.not_lt, Int.not_le, ge_iff_le, gt_iff_lt] at hb10) <;> first | (refine HL_r rfl rfl rfl rfl (R_load rfl (known_L (k := 0) rfl) rfl rfl) ?_) | (refine HL_r rfl rfl rfl rfl (R_load rfl (known_L (k := 1) rfl) rfl rfl) ?_) | (refine HL_r rfl rfl rfl rfl (R_load rfl (known_L (k := 2) rfl) rfl rfl) ?_) | (refine HL_r rfl rfl rfl rfl (R_load rfl (known_L (k := 3) rfl) rfl rfl) ?_) | (refine HL_r rfl rfl rfl rfl (R_load rfl (known_L (k := 4) rfl) rfl rfl) ?_) | (refine HL_r rfl rfl rfl rfl (R_load rfl (known_L (k := 5) rfl) rfl rfl) ?_) | (refine HL_skip rfl rfl rfl ?_))
      all_goals first
        | (refine HL_r rfl rfl rfl rfl (R_pure rfl rfl rfl) ?_)
        | (refine HL_skip rfl rfl rfl ?_)
        | (refine HL_case 19 rfl (fun hb11 => ?_) (fun hb11 => ?_) <;> (try simp only [decide_eq_true_eq, decide_eq_false_iff_not, beq_iff_eq, beq_eq_false_iff_ne, bne_iff_ne, bne_eq_false_iff_eq, Bool.not_eq_true', Bool.not_eq_false', ne_eq, Int.not_lt, Int.not_le, ge_iff_le, gt_iff_lt] at hb11) <;> first | (refine HL_r rfl rfl rfl rfl (R_pure rfl rfl rfl) ?_) | (refine HL_skip rfl rfl rfl ?_))
      all_goals first
        | (refine HL_r rfl rfl rfl rfl (R_pickT rfl rfl) ?_)
        | (refine HL_r rfl rfl rfl rfl (R_pickF rfl rfl) ?_)
      all_goals refine HL_r rfl rfl rfl rfl (R_assign rfl) ?_
      all_goals refine HL_nil ?_
      all_goals (
        refine HQ_then ?_
        refine hK3 _ _ _ _ ?_; clear hK3 K3
        refine HC_ret ?_
        refine HQ_post rfl rfl (.cons (res_tmp rfl) .nil) (fun w1 hs1 => ?_)
        exact ⟨by (try simp_all [resVal, spanV]); try omega, hs1.keep⟩
        skip)
      skip)
    skip)
end Go.Proofs.Ytiamhecfkcgldaa
