import Derived.Test.YthfinkklgbiaeaaDoorProg
import Derived.Test.YthfinkklgbiaeaaDoorSlb
namespace Go.Proofs.YthfinkklgbiaeaaDoor
set_option linter.all false
open Go.SL Go.RowKit Go.Shelf
set_option maxRecDepth 10000 in
theorem P_word_Of (n : Nat) : Pure Tryd.prog 32 [uV n].toArray (wV [n, 0, 0, 0]) := by
  refine pure_of_HC Tryd.func32 rfl rfl fun w => ?_
  refine HC_seq fun K1 hK1 => ?_
  refine HC_region ?_
  all_goals refine HL_alloc (cs := #[_, _, _, _]) rfl rfl rfl rfl fun r1 => ?_
  all_goals refine HL_nil ?_
  all_goals (
    refine HQ_then ?_
    refine hK1 _ _ _ _ ?_; clear hK1 K1
    refine HC_seq fun K2 hK2 => ?_
    refine HC_region ?_
    all_goals refine HL_r rfl rfl rfl rfl (R_move rfl) ?_
    all_goals refine HL_r rfl rfl rfl rfl (R_build (r := [_, _, _, _]) rfl rfl) ?_
    all_goals first
      | (refine HL_storeA (k := 0) (n := 4) (cs' := #[_, _, _, _]) (vs := #[_, _, _, _]) rfl rfl rfl rfl rfl rfl rfl (by exact Nat.le_of_ble_eq_true rfl) rfl (by first | (simp only [List.set_cons_zero, List.set_cons_succ]; exact rfl) | exact rfl) ?_)
      | (refine HL_storeA (k := 1) (n := 4) (cs' := #[_, _, _, _]) (vs := #[_, _, _, _]) rfl rfl rfl rfl rfl rfl rfl (by exact Nat.le_of_ble_eq_true rfl) rfl (by first | (simp only [List.set_cons_zero, List.set_cons_succ]; exact rfl) | exact rfl) ?_)
      | (refine HL_storeA (k := 2) (n := 4) (cs' := #[_, _, _, _]) (vs := #[_, _, _, _]) rfl rfl rfl rfl rfl rfl rfl (by exact Nat.le_of_ble_eq_true rfl) rfl (by first | (simp only [List.set_cons_zero, List.set_cons_succ]; exact rfl) | exact rfl) ?_)
      | (refine HL_storeA (k := 3) (n := 4) (cs' := #[_, _, _, _]) (vs := #[_, _, _, _]) rfl rfl rfl rfl rfl rfl rfl (by exact Nat.le_of_ble_eq_true rfl) rfl (by first | (simp only [List.set_cons_zero, List.set_cons_succ]; exact rfl) | exact rfl) ?_)
      | (refine HL_storeA (k := 4) (n := 4) (cs' := #[_, _, _, _]) (vs := #[_, _, _, _]) rfl rfl rfl rfl rfl rfl rfl (by exact Nat.le_of_ble_eq_true rfl) rfl (by first | (simp only [List.set_cons_zero, List.set_cons_succ]; exact rfl) | exact rfl) ?_)
      | (refine HL_storeA (k := 5) (n := 4) (cs' := #[_, _, _, _]) (vs := #[_, _, _, _]) rfl rfl rfl rfl rfl rfl rfl (by exact Nat.le_of_ble_eq_true rfl) rfl (by first | (simp only [List.set_cons_zero, List.set_cons_succ]; exact rfl) | exact rfl) ?_)
      | (refine HL_storeA (k := 0) (n := 4) (vs := #[_, _, _, _]) rfl rfl rfl rfl rfl rfl rfl (by exact Nat.le_of_ble_eq_true rfl) (by first | (simp only [List.take_zero, List.nil_append, Array.toList_toArray, List.drop_succ_cons, List.drop_zero, List.take_succ_cons, List.cons_append, Nat.zero_add, Nat.reduceAdd, List.append_nil, List.drop_nil]; exact rfl) | exact rfl) (by first | (simp only [List.set_cons_zero, List.set_cons_succ]; exact rfl) | exact rfl) ?_)
      | (refine HL_storeA (k := 1) (n := 4) (vs := #[_, _, _, _]) rfl rfl rfl rfl rfl rfl rfl (by exact Nat.le_of_ble_eq_true rfl) (by first | (simp only [List.take_zero, List.nil_append, Array.toList_toArray, List.drop_succ_cons, List.drop_zero, List.take_succ_cons, List.cons_append, Nat.zero_add, Nat.reduceAdd, List.append_nil, List.drop_nil]; exact rfl) | exact rfl) (by first | (simp only [List.set_cons_zero, List.set_cons_succ]; exact rfl) | exact rfl) ?_)
      | (refine HL_storeA (k := 2) (n := 4) (vs := #[_, _, _, _]) rfl rfl rfl rfl rfl rfl rfl (by exact Nat.le_of_ble_eq_true rfl) (by first | (simp only [List.take_zero, List.nil_append, Array.toList_toArray, List.drop_succ_cons, List.drop_zero, List.take_succ_cons, List.cons_append, Nat.zero_add, Nat.reduceAdd, List.append_nil, List.drop_nil]; exact rfl) | exact rfl) (by first | (simp only [List.set_cons_zero, List.set_cons_succ]; exact rfl) | exact rfl) ?_)
      | (refine HL_storeA (k := 3) (n := 4) (vs := #[_, _, _, _]) rfl rfl rfl rfl rfl rfl rfl (by exact Nat.le_of_ble_eq_true rfl) (by first | (simp only [List.take_zero, List.nil_append, Array.toList_toArray, List.drop_succ_cons, List.drop_zero, List.take_succ_cons, List.cons_append, Nat.zero_add, Nat.reduceAdd, List.append_nil, List.drop_nil]; exact rfl) | exact rfl) (by first | (simp only [List.set_cons_zero, List.set_cons_succ]; exact rfl) | exact rfl) ?_)
      | (refine HL_storeA (k := 4) (n := 4) (vs := #[_, _, _, _]) rfl rfl rfl rfl rfl rfl rfl (by exact Nat.le_of_ble_eq_true rfl) (by first | (simp only [List.take_zero, List.nil_append, Array.toList_toArray, List.drop_succ_cons, List.drop_zero, List.take_succ_cons, List.cons_append, Nat.zero_add, Nat.reduceAdd, List.append_nil, List.drop_nil]; exact rfl) | exact rfl) (by first | (simp only [List.set_cons_zero, List.set_cons_succ]; exact rfl) | exact rfl) ?_)
      | (refine HL_storeA (k := 5) (n := 4) (vs := #[_, _, _, _]) rfl rfl rfl rfl rfl rfl rfl (by exact Nat.le_of_ble_eq_true rfl) (by first | (simp only [List.take_zero, List.nil_append, Array.toList_toArray, List.drop_succ_cons, List.drop_zero, List.take_succ_cons, List.cons_append, Nat.zero_add, Nat.reduceAdd, List.append_nil, List.drop_nil]; exact rfl) | exact rfl) (by first | (simp only [List.set_cons_zero, List.set_cons_succ]; exact rfl) | exact rfl) ?_)
    all_goals refine HL_nil ?_
    all_goals (
      refine HQ_then ?_
      refine hK2 _ _ _ _ ?_; clear hK2 K2
      refine HC_ret ?_
      first
        | refine HQ_post rfl rfl (.cons (res_cellA (vs := [_, _, _, _]) rfl (known_L (k := 0) rfl) rfl rfl) .nil) (fun w1 hs1 => ?_)
        | refine HQ_post rfl rfl (.cons (res_cellA (vs := [_, _, _, _]) rfl (known_L (k := 1) rfl) rfl rfl) .nil) (fun w1 hs1 => ?_)
        | refine HQ_post rfl rfl (.cons (res_cellA (vs := [_, _, _, _]) rfl (known_L (k := 2) rfl) rfl rfl) .nil) (fun w1 hs1 => ?_)
        | refine HQ_post rfl rfl (.cons (res_cellA (vs := [_, _, _, _]) rfl (known_L (k := 3) rfl) rfl rfl) .nil) (fun w1 hs1 => ?_)
        | refine HQ_post rfl rfl (.cons (res_cellA (vs := [_, _, _, _]) rfl (known_L (k := 4) rfl) rfl rfl) .nil) (fun w1 hs1 => ?_)
        | refine HQ_post rfl rfl (.cons (res_cellA (vs := [_, _, _, _]) rfl (known_L (k := 5) rfl) rfl rfl) .nil) (fun w1 hs1 => ?_)
      exact ⟨rfl, hs1.keep⟩
      skip)
    skip)
set_option maxRecDepth 10000 in
theorem P_digit {l : List Nat} (hl : WOk l) {i : Nat} (hi : i < 32) : Pure Tryd.prog 48 [wV l, .int .i64 (i : Int)].toArray (.int .i64 (dg l i : Nat)) := by
  refine pure_of_HC Tryd.func48 rfl rfl fun w => ?_
  have hg := hl.get (i / 8)
  refine HC_seq fun K1 hK1 => ?_
  refine HC_region ?_
  all_goals refine HL_box (cs := (l.map uV).toArray) rfl rfl rfl rfl fun r1 => ?_
  all_goals refine HL_r rfl rfl rfl rfl (R_assign rfl) ?_
  all_goals refine HL_nil ?_
  all_goals (
    refine HQ_then ?_
    refine hK1 _ _ _ _ ?_; clear hK1 K1
    refine HC_seq fun K2 hK2 => ?_
    refine HC_region ?_
    all_goals refine HL_r rfl rfl rfl rfl (R_move rfl) ?_
    all_goals first
      | (refine HL_r rfl rfl rfl rfl (R_pure rfl rfl rfl) ?_; refine HL_quo (by omega) (by omega) (by omega) ?_)
      | (refine HL_r rfl rfl rfl rfl (R_pure rfl rfl rfl) ?_)
    all_goals refine HL_r rfl rfl rfl rfl (R_indexA (j := i / 8) (m := 1) (off' := i / 8) rfl rfl rfl rfl (by omega) (by omega) (by omega)) ?_
    all_goals refine HL_r rfl rfl rfl rfl (R_loadAt rfl (known_L (k := 0) rfl) rfl (mapU_get (by rw [hl.1]; omega))) ?_
    all_goals refine HL_r rfl rfl rfl rfl (R_move rfl) ?_
    all_goals first
      | (refine HL_r rfl rfl rfl rfl (R_pure rfl rfl rfl) ?_; refine HL_rem (by omega) ?_)
      | (refine HL_r rfl rfl rfl rfl (R_pure rfl rfl rfl) ?_)
    all_goals first
      | (refine HL_r rfl rfl rfl rfl (R_pure rfl rfl rfl) ?_; refine HL_wrap_i64 (by omega) (by omega) ?_)
      | (refine HL_r rfl rfl rfl rfl (R_pure rfl rfl rfl) ?_)
    all_goals first
      | (refine HL_r rfl rfl rfl rfl (R_pure rfl rfl rfl) ?_; refine HL_wrap_u64 (by omega) (by omega) ?_)
      | (refine HL_r rfl rfl rfl rfl (R_pure rfl rfl rfl) ?_)
    all_goals refine HL_r rfl rfl rfl rfl (R_shr (n := i % 8 * 8) rfl rfl (by omega) (show _ ≤ 64 from by omega) (by omega) (shr_nat _ _)) ?_
    all_goals refine HL_r rfl rfl rfl rfl (R_pure rfl rfl rfl) ?_; refine HL_as (show _ = Value.int .u64 ((dg l i : Nat) : Int) from congrArg (Value.int .u64) (rem_nat _ 256)) ?_
    all_goals refine HL_r rfl rfl rfl rfl (R_pure rfl rfl rfl) ?_; refine HL_as (show _ = Value.int .i64 ((dg l i : Nat) : Int) from congrArg (Value.int .i64) (wrap_i64 (by omega) (by have := dg_lt l i; omega))) ?_
    all_goals refine HL_r rfl rfl rfl rfl (R_assign rfl) ?_
    all_goals refine HL_nil ?_
    all_goals (
      refine HQ_then ?_
      refine hK2 _ _ _ _ ?_; clear hK2 K2
      refine HC_ret ?_
      refine HQ_post rfl rfl (.cons (res_tmp rfl) .nil) (fun w1 hs1 => ?_)
      exact ⟨rfl, hs1.keep⟩
      skip)
    skip)
set_option maxRecDepth 10000 in
theorem R_of {ns : List Nat} (hns : ∀ i, ns.getD i 0 < 256) (hlen : ns.length = 32) {row : Row} (hrow : rowOk 1 32 (ns.map iV) row) :
    PureR Tryd.prog 51 [rowV 32 row].toArray (wV (stW (fun t => ns.getD t 0) 32)) (rowL 3 (ns.map iV) row) := by
  refine pureR_of_HC Tryd.func51 rfl rfl fun w => ?_
  obtain ⟨f, hf⟩ : ∃ f, f = fun t => ns.getD t 0 := ⟨_, rfl⟩
  have hfl : ∀ i, f i < 256 := fun i => by rw [hf]; exact hns i
  rw [← hf]
  refine HC_seq fun K1 hK1 => ?_
  refine HC_region ?_
  all_goals refine HL_alloc (cs := #[_, _, _, _]) rfl rfl rfl rfl fun r1 => ?_
  all_goals refine HL_nil ?_
  all_goals (
    refine HQ_then ?_
    refine hK1 _ _ _ _ ?_; clear hK1 K1
    refine HC_seq fun K2 hK2 => ?_
    refine HC_region ?_
    all_goals refine HL_alloc (cs := #[_, _, _, _]) rfl rfl rfl rfl fun r2 => ?_
    all_goals refine HL_nil ?_
    all_goals (
      refine HQ_then ?_
      refine hK2 _ _ _ _ ?_; clear hK2 K2
      refine HC_seq fun K3 hK3 => ?_
      refine HC_seq fun K4 hK4 => ?_
      refine HC_region ?_
      all_goals refine HL_r rfl rfl rfl rfl (R_assign rfl) ?_
      all_goals refine HL_nil ?_
      all_goals (
        refine HQ_then ?_
        refine hK4 _ _ _ _ ?_; clear hK4 K4
        refine HC_block ?_
        refine HC_loop (σ := Nat) (fun i => i ≤ 32) (fun i => [(0, rowV 32 row), (2, .pointer (some ⟨r1, 0, none⟩)), (3, .pointer (some ⟨r2, 0, none⟩)), (4, .int .i64 (i : Int))]) (fun i => [(r2, .cells ((stW f i).map uV).toArray 51 (0, 0)), (r1, .cells ([0, 0, 0, 0].map uV).toArray 51 (0, 0))]) (fun _ _ _ => True) (fun i => 32 - i) 0 (Nat.zero_le _) (.cons rfl (.cons rfl (.cons rfl (.cons rfl .nil)))) (List.Sublist.refl _) (fun _ _ h => h) ?_
        intro i hi
        refine HC_seq fun K5 hK5 => ?_
        refine HC_seq fun K6 hK6 => ?_
        refine HC_region ?_
        all_goals refine HL_r rfl rfl rfl rfl (R_move rfl) ?_
        all_goals refine HL_r rfl rfl rfl rfl (R_pure rfl rfl rfl) ?_
        all_goals refine HL_nil ?_
        all_goals (
          refine HQ_then ?_
          refine hK6 _ _ _ _ ?_; clear hK6 K6
          refine HC_cond rfl (fun h7 => ?_) (fun h7 => ?_)
          · try exact Bool.noConfusion h7
            all_goals try simp only [decide_eq_true_eq, decide_eq_false_iff_not, beq_iff_eq, beq_eq_false_iff_ne, bne_iff_ne, bne_eq_false_iff_eq, Bool.not_eq_true', Bool.not_eq_false', ne_eq, Int.not_lt, Int.not_le, ge_iff_le, gt_iff_lt] at h7
            all_goals (
              refine HC_skip ?_
              refine HQ_then ?_
              refine hK5 _ _ _ _ ?_; clear hK5 K5
              refine HC_seq fun K8 hK8 => ?_
              refine HC_block ?_
              refine HC_draw 18 (by kernel_rfl) (by kernel_rfl) ?_
              all_goals refine HD_r rfl rfl rfl (R_move rfl) ?_
              all_goals first
                | (refine HD_r rfl rfl rfl (R_pure rfl rfl rfl) ?_; refine HD_quo (by omega) (by omega) (by omega) ?_)
                | (refine HD_r rfl rfl rfl (R_pure rfl rfl rfl) ?_)
              all_goals refine HD_r rfl rfl rfl (R_move rfl) ?_
              all_goals first
                | (refine HD_r rfl rfl rfl (R_pure rfl rfl rfl) ?_; refine HD_quo (by omega) (by omega) (by omega) ?_)
                | (refine HD_r rfl rfl rfl (R_pure rfl rfl rfl) ?_)
              all_goals refine HD_r rfl rfl rfl (R_indexA (j := i / 8) (m := 1) (off' := i / 8) rfl rfl rfl rfl (by omega) (by omega) (by omega)) ?_
              all_goals refine HD_r rfl rfl rfl (R_loadAt rfl (known_L (k := 0) rfl) rfl (mapU_get (by rw [stW_len]; omega))) ?_
              all_goals refine HD_r rfl rfl rfl (R_move rfl) ?_
              all_goals refine HD_r rfl rfl rfl (R_move rfl) ?_
              all_goals refine HD_r rfl rfl rfl (R_indexRow (m := 1) (n := 32) (row := row) (off' := i) rfl hrow rfl rfl rfl rfl (by omega) (by omega)) ?_
              all_goals refine HD_r rfl rfl rfl (R_loadRow rfl hrow (fun p hp => .inr hp) rfl (mapI_get (by omega))) ?_
              all_goals refine HD_r rfl rfl rfl (R_pure rfl rfl rfl) ?_; refine HD_as (show _ = Value.int .u64 ((f i : Nat) : Int) from by rw [hf]; exact congrArg (Value.int .u64) (wrap_u64 (by omega) (by have := hns i; omega))) ?_
              all_goals refine HD_r rfl rfl rfl (R_move rfl) ?_
              all_goals first
                | (refine HD_r rfl rfl rfl (R_pure rfl rfl rfl) ?_; refine HD_rem (by omega) ?_)
                | (refine HD_r rfl rfl rfl (R_pure rfl rfl rfl) ?_)
              all_goals first
                | (refine HD_r rfl rfl rfl (R_pure rfl rfl rfl) ?_; refine HD_wrap_i64 (by omega) (by omega) ?_)
                | (refine HD_r rfl rfl rfl (R_pure rfl rfl rfl) ?_)
              all_goals first
                | (refine HD_r rfl rfl rfl (R_pure rfl rfl rfl) ?_; refine HD_wrap_u64 (by omega) (by omega) ?_)
                | (refine HD_r rfl rfl rfl (R_pure rfl rfl rfl) ?_)
              all_goals refine HD_r rfl rfl rfl (R_shl (n := i % 8 * 8) rfl rfl (by omega) (show _ ≤ 64 from by omega) (shl_u64 (sh_lt (hfl i) (by omega)))) ?_
              all_goals refine HD_r rfl rfl rfl (R_pure rfl rfl rfl) ?_; refine HD_as (add_u64 (sum_lt hfl (by omega))) ?_
              all_goals refine HD_r rfl rfl rfl (R_indexA (j := i / 8) (m := 1) (off' := i / 8) rfl rfl rfl rfl (by omega) (by omega) (by omega)) ?_
              all_goals refine HD_end ?_
              all_goals refine HL_storeAt (k := 0) (off := i / 8) (xs := (stW f i).map uV) (ys := (stW f (i + 1)).map uV) rfl rfl rfl rfl rfl rfl (by simp [stW_len]; omega) (set_mapU (stW_step f (by omega))) rfl ?_
              all_goals refine HL_nil ?_
              all_goals (
                refine HQ_blockN ?_
                refine HQ_then ?_
                refine hK8 _ _ _ _ ?_; clear hK8 K8
                refine HC_region ?_
                all_goals refine HL_r rfl rfl rfl rfl (R_move rfl) ?_
                all_goals first
                  | (refine HL_r rfl rfl rfl rfl (R_pure rfl rfl rfl) ?_; refine HL_wrap_i64 (by omega) (by omega) ?_)
                  | (refine HL_r rfl rfl rfl rfl (R_pure rfl rfl rfl) ?_)
                all_goals refine HL_r rfl rfl rfl rfl (R_assign rfl) ?_
                all_goals refine HL_nil ?_
                all_goals (
                  refine HQ_then ?_
                  exact HQ_again (i + 1) (by omega) (by omega) (.cons rfl (.cons rfl (.cons rfl (.cons rfl .nil)))) (List.Sublist.refl _) (fun _ _ h => h)
                  skip)
                skip)
              skip)
          · try exact Bool.noConfusion h7
            all_goals try simp only [decide_eq_true_eq, decide_eq_false_iff_not, beq_iff_eq, beq_eq_false_iff_ne, bne_iff_ne, bne_eq_false_iff_eq, Bool.not_eq_true', Bool.not_eq_false', ne_eq, Int.not_lt, Int.not_le, ge_iff_le, gt_iff_lt] at h7
            all_goals (
              refine HC_exit ?_
              refine HQ_thenE ?_; clear hK5 K5
              refine HQ_thenE ?_
              refine HQ_blockE ?_
              refine HQ_then ?_
              refine hK3 _ _ _ _ ?_; clear hK3 K3
              have hi32 : i = 32 := by omega
              subst hi32
              refine HC_seq fun K9 hK9 => ?_
              refine HC_region ?_
              all_goals refine HL_r rfl rfl rfl rfl (R_loadArr (xs := (stW f 32).map uV) rfl (known_L (k := 0) rfl) rfl rfl rfl) ?_
              all_goals refine HL_storeArr (k := 1) (n := 4) (ys := (stW f 32).map uV) rfl rfl rfl rfl rfl rfl rfl rfl rfl ?_
              all_goals refine HL_nil ?_
              all_goals (
                refine HQ_then ?_
                refine hK9 _ _ _ _ ?_; clear hK9 K9
                refine HC_ret ?_
                first
                  | refine HQ_post rfl rfl (.cons (res_cellA (vs := [_, _, _, _]) rfl (known_L (k := 0) rfl) rfl rfl) .nil) (fun w1 hs1 => ?_)
                  | refine HQ_post rfl rfl (.cons (res_cellA (vs := [_, _, _, _]) rfl (known_L (k := 1) rfl) rfl rfl) .nil) (fun w1 hs1 => ?_)
                  | refine HQ_post rfl rfl (.cons (res_cellA (vs := [_, _, _, _]) rfl (known_L (k := 2) rfl) rfl rfl) .nil) (fun w1 hs1 => ?_)
                  | refine HQ_post rfl rfl (.cons (res_cellA (vs := [_, _, _, _]) rfl (known_L (k := 3) rfl) rfl rfl) .nil) (fun w1 hs1 => ?_)
                  | refine HQ_post rfl rfl (.cons (res_cellA (vs := [_, _, _, _]) rfl (known_L (k := 4) rfl) rfl rfl) .nil) (fun w1 hs1 => ?_)
                  | refine HQ_post rfl rfl (.cons (res_cellA (vs := [_, _, _, _]) rfl (known_L (k := 5) rfl) rfl rfl) .nil) (fun w1 hs1 => ?_)
                exact ⟨rfl, hs1.keep⟩
                skip)
              skip)
          skip)
        skip)
      skip)
    skip)
end Go.Proofs.YthfinkklgbiaeaaDoor
