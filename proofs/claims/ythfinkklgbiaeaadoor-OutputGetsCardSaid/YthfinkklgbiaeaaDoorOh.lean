import Derived.Test.YthfinkklgbiaeaaDoorOe
namespace Go.Proofs.YthfinkklgbiaeaaDoor
set_option linter.all false
open Go.SL Go.RowKit Go.Shelf
/-- What the reference's `Of` answers: the cells of its struct. -/
def ofV (g : Nat × List (List UInt8) × Nat × Int) : List Value := .int .i64 (g.1 : Int) :: (g.2.1.map sV ++ [uV g.2.2.1, .int .i64 g.2.2.2])
theorem ofV_len {m n : Nat} {p : List (List UInt8)} {e : Int} (h : p.length = 3) : (ofV (m, p, n, e)).length = 6 := by simp [ofV, h]
theorem ofV_one (g : Nat × List (List UInt8) × Nat × Int) : (ofV g).all oneB = true := by
  simp only [ofV, List.all_cons, List.all_append, mapS_one, List.all_nil, uV, oneB]; rfl
theorem ofV_part {m n : Nat} {s : List UInt8} {e : Int} (i : Nat) (hi : i < 3) : (ofV (m, partsS s i, n, e)).set (1 + i) (.string (bs (partO s i))) = ofV (m, partsS s (i + 1), n, e) := by
  have hl := partsS_len s i
  rw [Nat.add_comm]
  show .int .i64 (m : Int) :: ((partsS s i).map sV ++ _).set i _ = _
  rw [List.set_append_left _ _ (by rw [List.length_map]; omega), set_mapS (q := partsS s (i + 1)) rfl]; rfl
theorem ofV_num {m n n' : Nat} {p : List (List UInt8)} {e : Int} (h : p.length = 3) : (ofV (m, p, n, e)).set 4 (uV n') = ofV (m, p, n', e) := by
  obtain ⟨a, b, c, rfl⟩ := three h; rfl
theorem word_cases {w : List Nat} (h : WOk w) : w = [0, 0, 0, 0] ∨ w = [1, 0, 0, 0] ∨ ¬ (smallB w = true ∧ w.getD 0 0 ≤ 1) := by
  by_cases hs : smallB w = true ∧ w.getD 0 0 ≤ 1
  · have h1 := small_eq hs.1
    generalize w.getD 0 0 = m at h1 hs
    rcases Nat.lt_or_ge m 1 with h2 | h2
    · exact .inl (by rw [← h1, show m = 0 from by omega])
    · exact .inr (.inl (by rw [← h1, show m = 1 from by omega]))
  · exact .inr (.inr hs)
theorem eqU_false {p q : List Nat} (hl : p.length = q.length) (h : p ≠ q) : eqCells (p.map uV) (q.map uV) = false := by
  cases hb : eqCells (p.map uV) (q.map uV) with
  | false => rfl
  | true =>
    exfalso; apply h; clear h
    induction p generalizing q with
    | nil => cases q with
      | nil => rfl
      | cons b q => simp at hl
    | cons a p ih => cases q with
      | nil => simp at hl
      | cons b q =>
        simp only [List.map_cons, eqCells, Bool.and_eq_true] at hb
        have h1 := ih (by simpa using hl) hb.2
        have h2 : a = b := by have := hb.1; simp [uV, eqS] at this; omega
        rw [h1, h2]
theorem getR_lo' {s : List UInt8} {m : Nat} (h : ¬ s.length < 32) (h2 : wO s = [m, 0, 0, 0]) (hm : m ≤ 1) (h3 : s.length < 128 + 8 * m) : getR s = (0, partsS s 0, 0, 3) := getR_lo h (by rw [h2]; exact ⟨small_of _, hm⟩) (by rw [h2]; exact h3)
theorem getR_hi' {s : List UInt8} {m : Nat} (h : ¬ s.length < 32) (h2 : wO s = [m, 0, 0, 0]) (hm : m ≤ 1) (h3 : s.length > 128 + 8 * m) : getR s = (0, partsS s 0, 0, 4) := getR_hi h (by rw [h2]; exact ⟨small_of _, hm⟩) (by rw [h2]; exact h3)
theorem getR_0 {s : List UInt8} (h2 : wO s = [0, 0, 0, 0]) (h3 : s.length = 128) : getR s = (0, partsS s 3, 0, 0) := by
  rw [getR_ok (by rw [h2]; exact ⟨small_of _, by decide⟩) (by rw [h2]; exact h3), h2]; rfl
theorem getR_1 {s : List UInt8} (h2 : wO s = [1, 0, 0, 0]) (h3 : s.length = 136) : getR s = (1, partsS s 3, leV (s.drop 128), 0) := by
  rw [getR_ok (by rw [h2]; exact ⟨small_of _, by decide⟩) (by rw [h2]; exact h3), h2]; rfl
set_option maxRecDepth 10000 in
theorem P_ref_Of {s : List UInt8} (hs : s.length ≤ 9223372036854775807) : Pure Tryd.prog 19 [.string (bs s)].toArray (.agg (ofV (getR s)).toArray) := by
  refine pure_of_HC Tryd.func19 rfl rfl fun w => ?_
  have hwk : WOk (wO s) := unfW_ok _
  have hwl := hwk.1
  rcases word_cases hwk with h | h | h
  · skip
    refine HC_seq fun K1 hK1 => ?_
    refine HC_region ?_
    all_goals refine HL_alloc (cs := (ofV (0, partsS s 0, 0, 0)).toArray) rfl rfl rfl rfl fun r1 => ?_
    all_goals refine HL_nil ?_
    all_goals (
      refine HQ_then ?_
      refine hK1 _ _ _ _ ?_; clear hK1 K1
      refine HC_seq fun K2 hK2 => ?_
      refine HC_seq fun K3 hK3 => ?_
      refine HC_region ?_
      all_goals refine HL_r rfl rfl rfl rfl (R_move rfl) ?_
      all_goals first
        | (refine HL_r rfl rfl rfl rfl (R_lenBs rfl rfl) ?_)
        | (refine HL_r rfl rfl rfl rfl (R_lenSl rfl rfl) ?_)
        | (refine HL_r rfl rfl rfl rfl (R_lenStr rfl rfl rfl) ?_)
        | (refine HL_r rfl rfl rfl rfl (R_pure rfl rfl rfl) ?_)
      all_goals refine HL_r rfl rfl rfl rfl (R_pure rfl rfl rfl) ?_
      all_goals refine HL_nil ?_
      all_goals (
        refine HQ_then ?_
        refine hK3 _ _ _ _ ?_; clear hK3 K3
        refine HC_cond rfl (fun h4 => ?_) (fun h4 => ?_)
        · try exact Bool.noConfusion h4
          all_goals try simp only [decide_eq_true_eq, decide_eq_false_iff_not, beq_iff_eq, beq_eq_false_iff_ne, bne_iff_ne, bne_eq_false_iff_eq, Bool.not_eq_true', Bool.not_eq_false', ne_eq, Int.not_lt, Int.not_le, ge_iff_le, gt_iff_lt] at h4
          all_goals (
            refine HC_seq fun K5 hK5 => ?_
            refine HC_region ?_
            all_goals refine HL_r rfl rfl rfl rfl (R_build (r := [_, _, _, _, _, _]) rfl rfl) ?_
            all_goals refine HL_storeArr (k := 0) (n := 6) (ys := (ofV (0, partsS s 0, 0, 3))) rfl rfl rfl rfl rfl (by exact ofV_len (partsS_len _ _)) rfl (ofV_one _) rfl ?_
            all_goals refine HL_nil ?_
            all_goals (
              refine HQ_then ?_
              refine hK5 _ _ _ _ ?_; clear hK5 K5
              refine HC_ret ?_
              refine HQ_thenR ?_; clear hK2 K2
              first
                | (refine HQ_post rfl rfl (.cons (res_cellA (vs := (ofV (0, partsS s 3, 0, 0))) rfl (known_L (k := 2) rfl) rfl (by rw [ofV_len (partsS_len _ _)]; rfl)) .nil) (fun w1 hs1 => ?_)
                   exact ⟨by rw [getR_0 h (by omega)]; rfl, hs1.keep⟩)
                | (refine HQ_post rfl rfl (.cons (res_cellA (vs := (ofV (0, partsS s 0, 0, 3))) rfl (known_L (k := 1) rfl) rfl (by rw [ofV_len (partsS_len _ _)]; rfl)) .nil) (fun w1 hs1 => ?_)
                   exact ⟨by rw [getR_lo' (m := 0) (by omega) h (by decide) (by omega)]; rfl, hs1.keep⟩)
                | (refine HQ_post rfl rfl (.cons (res_cellA (vs := (ofV (0, partsS s 0, 0, 4))) rfl (known_L (k := 1) rfl) rfl (by rw [ofV_len (partsS_len _ _)]; rfl)) .nil) (fun w1 hs1 => ?_)
                   exact ⟨by rw [getR_hi' (m := 0) (by omega) h (by decide) (by omega)]; rfl, hs1.keep⟩)
                | (refine HQ_post rfl rfl (.cons (res_cellA (vs := (ofV (0, partsS s 0, 0, 3))) rfl (known_L (k := 0) rfl) rfl (by rw [ofV_len (partsS_len _ _)]; rfl)) .nil) (fun w1 hs1 => ?_)
                   exact ⟨by rw [getR_short (by omega)]; rfl, hs1.keep⟩)
              skip)
            skip)
        · try exact Bool.noConfusion h4
          all_goals try simp only [decide_eq_true_eq, decide_eq_false_iff_not, beq_iff_eq, beq_eq_false_iff_ne, bne_iff_ne, bne_eq_false_iff_eq, Bool.not_eq_true', Bool.not_eq_false', ne_eq, Int.not_lt, Int.not_le, ge_iff_le, gt_iff_lt] at h4
          all_goals (
            refine HC_skip ?_
            refine HQ_then ?_
            refine hK2 _ _ _ _ ?_; clear hK2 K2
            refine HC_seq fun K6 hK6 => ?_
            refine HC_region ?_
            all_goals refine HL_r rfl rfl rfl rfl (R_move rfl) ?_
            all_goals refine HL_r rfl rfl rfl rfl (R_sliceBs (kl := none) (kh := some (.i64, 32)) (m := 0) (n := 32) rfl rfl rfl rfl rfl rfl (by omega) (by omega) (show _ = s.take 32 from by simp)) ?_
            all_goals refine HL_callP rfl rfl rfl (enters_of Tryd.func38 (by kernel_rfl) rfl) (P_ref_Unfixed (s.take 32)) ?_; refine HL_as (congrArg resW ((unf_take (by omega)).trans (congrArg (fun w => (w, (0 : Int))) h))) ?_
            all_goals refine HL_r rfl rfl rfl rfl (R_move rfl) ?_
            all_goals refine HL_r rfl rfl rfl rfl (R_extract rfl rfl) ?_
            all_goals refine HL_r rfl rfl rfl rfl (R_extract rfl rfl) ?_
            all_goals refine HL_alloc (cs := (zW.map uV).toArray) rfl rfl rfl rfl fun r2 => ?_
            all_goals refine HL_storeArr (k := 0) (n := 4) (ys := ([0, 0, 0, 0]).map uV) rfl rfl rfl rfl rfl (by first | rfl | (rw [List.length_map]; exact hwl)) rfl (mapU_one _) rfl ?_
            all_goals refine HL_r rfl rfl rfl rfl (R_assign rfl) ?_
            all_goals refine HL_nil ?_
            all_goals (
              refine HQ_then ?_
              refine hK6 _ _ _ _ ?_; clear hK6 K6
              refine HC_seq fun K7 hK7 => ?_
              refine HC_seq fun K8 hK8 => ?_
              refine HC_region ?_
              all_goals first
                | (refine HL_r rfl rfl rfl rfl (R_loadArr (n := 4) rfl (known_L (k := 0) rfl) rfl rfl (by first | rfl | (rw [List.length_map]; exact hwl) | (with_reducible exact ofV_len (partsS_len _ _)))) ?_)
                | (refine HL_r rfl rfl rfl rfl (R_loadArr (n := 4) rfl (known_L (k := 1) rfl) rfl rfl (by first | rfl | (rw [List.length_map]; exact hwl) | (with_reducible exact ofV_len (partsS_len _ _)))) ?_)
                | (refine HL_r rfl rfl rfl rfl (R_loadArr (n := 4) rfl (known_L (k := 2) rfl) rfl rfl (by first | rfl | (rw [List.length_map]; exact hwl) | (with_reducible exact ofV_len (partsS_len _ _)))) ?_)
              all_goals refine HL_r rfl rfl rfl rfl (R_build (r := [_, _, _, _]) rfl rfl) ?_
              all_goals refine HL_r rfl rfl rfl rfl (R_neArr rfl rfl rfl rfl rfl (by kernel_rfl) (by first | rfl | (rw [List.length_map]; exact hwl) | (with_reducible exact ofV_len (partsS_len _ _))) (by first | rfl | (rw [List.length_map]; exact hwl) | (with_reducible exact ofV_len (partsS_len _ _))) (by first | exact scal_mapU rfl _ | rfl) (by first | exact scal_mapU rfl _ | rfl)) ?_
              all_goals first
                | (refine HL_as (show _ = Value.bool true from bool_eq' (rfl)) ?_)
                | (refine HL_as (show _ = Value.bool false from bool_eq' (rfl)) ?_)
                | skip
              all_goals refine HL_r rfl rfl rfl rfl (R_move rfl) ?_
              all_goals first
                | (refine HL_r rfl rfl rfl rfl (R_loadArr (n := 4) rfl (known_L (k := 0) rfl) rfl rfl (by first | rfl | (rw [List.length_map]; exact hwl) | (with_reducible exact ofV_len (partsS_len _ _)))) ?_)
                | (refine HL_r rfl rfl rfl rfl (R_loadArr (n := 4) rfl (known_L (k := 1) rfl) rfl rfl (by first | rfl | (rw [List.length_map]; exact hwl) | (with_reducible exact ofV_len (partsS_len _ _)))) ?_)
                | (refine HL_r rfl rfl rfl rfl (R_loadArr (n := 4) rfl (known_L (k := 2) rfl) rfl rfl (by first | rfl | (rw [List.length_map]; exact hwl) | (with_reducible exact ofV_len (partsS_len _ _)))) ?_)
                | (refine HL_skip rfl rfl rfl ?_)
                | (refine HL_case 21 rfl (fun hb9 => ?_) (fun hb9 => ?_) <;> (try simp only [decide_eq_true_eq, decide_eq_false_iff_not, beq_iff_eq, beq_eq_false_iff_ne, bne_iff_ne, bne_eq_false_iff_eq, Bool.not_eq_true', Bool.not_eq_false', ne_eq, Int.not_lt, Int.not_le, ge_iff_le, gt_iff_lt] at hb9) <;> first | (refine HL_r rfl rfl rfl rfl (R_loadArr (n := 4) rfl (known_L (k := 0) rfl) rfl rfl (by first | rfl | (rw [List.length_map]; exact hwl) | (with_reducible exact ofV_len (partsS_len _ _)))) ?_) | (refine HL_r rfl rfl rfl rfl (R_loadArr (n := 4) rfl (known_L (k := 1) rfl) rfl rfl (by first | rfl | (rw [List.length_map]; exact hwl) | (with_reducible exact ofV_len (partsS_len _ _)))) ?_) | (refine HL_r rfl rfl rfl rfl (R_loadArr (n := 4) rfl (known_L (k := 2) rfl) rfl rfl (by first | rfl | (rw [List.length_map]; exact hwl) | (with_reducible exact ofV_len (partsS_len _ _)))) ?_) | (refine HL_skip rfl rfl rfl ?_))
              all_goals first
                | (refine HL_r rfl rfl rfl rfl (R_build (r := [_, _, _, _]) rfl rfl) ?_)
                | (refine HL_skip rfl rfl rfl ?_)
                | (refine HL_case 21 rfl (fun hb10 => ?_) (fun hb10 => ?_) <;> (try simp only [decide_eq_true_eq, decide_eq_false_iff_not, beq_iff_eq, beq_eq_false_iff_ne, bne_iff_ne, bne_eq_false_iff_eq, Bool.not_eq_true', Bool.not_eq_false', ne_eq, Int.not_lt, Int.not_le, ge_iff_le, gt_iff_lt] at hb10) <;> first | (refine HL_r rfl rfl rfl rfl (R_build (r := [_, _, _, _]) rfl rfl) ?_) | (refine HL_skip rfl rfl rfl ?_))
              all_goals first
                | (refine HL_r rfl rfl rfl rfl (R_neArr rfl rfl rfl rfl rfl (by kernel_rfl) (by first | rfl | (rw [List.length_map]; exact hwl) | (with_reducible exact ofV_len (partsS_len _ _))) (by first | rfl | (rw [List.length_map]; exact hwl) | (with_reducible exact ofV_len (partsS_len _ _))) (by first | exact scal_mapU rfl _ | rfl) (by first | exact scal_mapU rfl _ | rfl)) ?_)
                | (refine HL_skip rfl rfl rfl ?_)
                | (refine HL_case 21 rfl (fun hb11 => ?_) (fun hb11 => ?_) <;> (try simp only [decide_eq_true_eq, decide_eq_false_iff_not, beq_iff_eq, beq_eq_false_iff_ne, bne_iff_ne, bne_eq_false_iff_eq, Bool.not_eq_true', Bool.not_eq_false', ne_eq, Int.not_lt, Int.not_le, ge_iff_le, gt_iff_lt] at hb11) <;> first | (refine HL_r rfl rfl rfl rfl (R_neArr rfl rfl rfl rfl rfl (by kernel_rfl) (by first | rfl | (rw [List.length_map]; exact hwl) | (with_reducible exact ofV_len (partsS_len _ _))) (by first | rfl | (rw [List.length_map]; exact hwl) | (with_reducible exact ofV_len (partsS_len _ _))) (by first | exact scal_mapU rfl _ | rfl) (by first | exact scal_mapU rfl _ | rfl)) ?_) | (refine HL_skip rfl rfl rfl ?_))
              all_goals first
                | (refine HL_as (show _ = Value.bool true from bool_eq' (rfl)) ?_)
                | (refine HL_as (show _ = Value.bool false from bool_eq' (rfl)) ?_)
                | skip
              all_goals first
                | (refine HL_r rfl rfl rfl rfl (R_pickT rfl rfl) ?_)
                | (refine HL_r rfl rfl rfl rfl (R_pickF rfl rfl) ?_)
              all_goals refine HL_nil ?_
              all_goals (
                refine HQ_then ?_
                refine hK8 _ _ _ _ ?_; clear hK8 K8
                refine HC_cond rfl (fun h12 => ?_) (fun h12 => ?_)
                · try exact Bool.noConfusion h12
                  all_goals try simp only [decide_eq_true_eq, decide_eq_false_iff_not, beq_iff_eq, beq_eq_false_iff_ne, bne_iff_ne, bne_eq_false_iff_eq, Bool.not_eq_true', Bool.not_eq_false', ne_eq, Int.not_lt, Int.not_le, ge_iff_le, gt_iff_lt] at h12
                  all_goals (
                    refine HC_seq fun K13 hK13 => ?_
                    refine HC_region ?_
                    all_goals refine HL_r rfl rfl rfl rfl (R_build (r := [_, _, _, _, _, _]) rfl rfl) ?_
                    all_goals refine HL_storeArr (k := 1) (n := 6) (ys := (ofV (0, partsS s 0, 0, 9))) rfl rfl rfl rfl rfl (by exact ofV_len (partsS_len _ _)) rfl (ofV_one _) rfl ?_
                    all_goals refine HL_nil ?_
                    all_goals (
                      refine HQ_then ?_
                      refine hK13 _ _ _ _ ?_; clear hK13 K13
                      refine HC_ret ?_
                      refine HQ_thenR ?_; clear hK7 K7
                      first
                        | (refine HQ_post rfl rfl (.cons (res_cellA (vs := (ofV (0, partsS s 3, 0, 0))) rfl (known_L (k := 2) rfl) rfl (by rw [ofV_len (partsS_len _ _)]; rfl)) .nil) (fun w1 hs1 => ?_)
                           exact ⟨by rw [getR_0 h (by omega)]; rfl, hs1.keep⟩)
                        | (refine HQ_post rfl rfl (.cons (res_cellA (vs := (ofV (0, partsS s 0, 0, 3))) rfl (known_L (k := 1) rfl) rfl (by rw [ofV_len (partsS_len _ _)]; rfl)) .nil) (fun w1 hs1 => ?_)
                           exact ⟨by rw [getR_lo' (m := 0) (by omega) h (by decide) (by omega)]; rfl, hs1.keep⟩)
                        | (refine HQ_post rfl rfl (.cons (res_cellA (vs := (ofV (0, partsS s 0, 0, 4))) rfl (known_L (k := 1) rfl) rfl (by rw [ofV_len (partsS_len _ _)]; rfl)) .nil) (fun w1 hs1 => ?_)
                           exact ⟨by rw [getR_hi' (m := 0) (by omega) h (by decide) (by omega)]; rfl, hs1.keep⟩)
                        | (refine HQ_post rfl rfl (.cons (res_cellA (vs := (ofV (0, partsS s 0, 0, 3))) rfl (known_L (k := 0) rfl) rfl (by rw [ofV_len (partsS_len _ _)]; rfl)) .nil) (fun w1 hs1 => ?_)
                           exact ⟨by rw [getR_short (by omega)]; rfl, hs1.keep⟩)
                      skip)
                    skip)
                · try exact Bool.noConfusion h12
                  all_goals try simp only [decide_eq_true_eq, decide_eq_false_iff_not, beq_iff_eq, beq_eq_false_iff_ne, bne_iff_ne, bne_eq_false_iff_eq, Bool.not_eq_true', Bool.not_eq_false', ne_eq, Int.not_lt, Int.not_le, ge_iff_le, gt_iff_lt] at h12
                  all_goals (
                    refine HC_skip ?_
                    refine HQ_then ?_
                    refine hK7 _ _ _ _ ?_; clear hK7 K7
                    refine HC_seq fun K14 hK14 => ?_
                    refine HC_region ?_
                    all_goals refine HL_r rfl rfl rfl rfl (R_indexA (j := 0) rfl rfl rfl rfl rfl (by first | decide | omega) (by first | (simp only [Nat.zero_add, Nat.reduceAdd, Nat.reduceMul, Nat.zero_mul, Nat.mul_one, Nat.add_zero]; exact rfl) | exact rfl)) ?_
                    all_goals first
                      | (refine HL_r rfl rfl rfl rfl (R_load rfl (known_L (k := 0) rfl) rfl rfl) ?_)
                      | (refine HL_r rfl rfl rfl rfl (R_load rfl (known_L (k := 1) rfl) rfl rfl) ?_)
                      | (refine HL_r rfl rfl rfl rfl (R_load rfl (known_L (k := 2) rfl) rfl rfl) ?_)
                    all_goals first
                      | (refine HL_r rfl rfl rfl rfl (R_pure rfl rfl rfl) ?_; refine HL_wrap_i64 (by omega) (by omega) ?_)
                      | (refine HL_r rfl rfl rfl rfl (R_pure rfl rfl rfl) ?_)
                    all_goals first
                      | (refine HL_r rfl rfl rfl rfl (R_pure rfl rfl rfl) ?_; refine HL_wrap_i64 (by omega) (by omega) ?_)
                      | (refine HL_r rfl rfl rfl rfl (R_pure rfl rfl rfl) ?_)
                    all_goals first
                      | (refine HL_r rfl rfl rfl rfl (R_pure rfl rfl rfl) ?_; refine HL_wrap_i64 (by omega) (by omega) ?_)
                      | (refine HL_r rfl rfl rfl rfl (R_pure rfl rfl rfl) ?_)
                    all_goals refine HL_r rfl rfl rfl rfl (R_assign rfl) ?_
                    all_goals refine HL_nil ?_
                    all_goals (
                      refine HQ_then ?_
                      refine hK14 _ _ _ _ ?_; clear hK14 K14
                      refine HC_seq fun K15 hK15 => ?_
                      refine HC_seq fun K16 hK16 => ?_
                      refine HC_region ?_
                      all_goals refine HL_r rfl rfl rfl rfl (R_move rfl) ?_
                      all_goals first
                        | (refine HL_r rfl rfl rfl rfl (R_lenBs rfl rfl) ?_)
                        | (refine HL_r rfl rfl rfl rfl (R_lenSl rfl rfl) ?_)
                        | (refine HL_r rfl rfl rfl rfl (R_lenStr rfl rfl rfl) ?_)
                        | (refine HL_r rfl rfl rfl rfl (R_pure rfl rfl rfl) ?_)
                      all_goals refine HL_r rfl rfl rfl rfl (R_move rfl) ?_
                      all_goals refine HL_r rfl rfl rfl rfl (R_pure rfl rfl rfl) ?_
                      all_goals refine HL_nil ?_
                      all_goals (
                        refine HQ_then ?_
                        refine hK16 _ _ _ _ ?_; clear hK16 K16
                        refine HC_cond rfl (fun h17 => ?_) (fun h17 => ?_)
                        · try exact Bool.noConfusion h17
                          all_goals try simp only [decide_eq_true_eq, decide_eq_false_iff_not, beq_iff_eq, beq_eq_false_iff_ne, bne_iff_ne, bne_eq_false_iff_eq, Bool.not_eq_true', Bool.not_eq_false', ne_eq, Int.not_lt, Int.not_le, ge_iff_le, gt_iff_lt] at h17
                          all_goals (
                            refine HC_seq fun K18 hK18 => ?_
                            refine HC_region ?_
                            all_goals refine HL_r rfl rfl rfl rfl (R_build (r := [_, _, _, _, _, _]) rfl rfl) ?_
                            all_goals refine HL_storeArr (k := 1) (n := 6) (ys := (ofV (0, partsS s 0, 0, 3))) rfl rfl rfl rfl rfl (by exact ofV_len (partsS_len _ _)) rfl (ofV_one _) rfl ?_
                            all_goals refine HL_nil ?_
                            all_goals (
                              refine HQ_then ?_
                              refine hK18 _ _ _ _ ?_; clear hK18 K18
                              refine HC_ret ?_
                              refine HQ_thenR ?_; clear hK15 K15
                              first
                                | (refine HQ_post rfl rfl (.cons (res_cellA (vs := (ofV (0, partsS s 3, 0, 0))) rfl (known_L (k := 2) rfl) rfl (by rw [ofV_len (partsS_len _ _)]; rfl)) .nil) (fun w1 hs1 => ?_)
                                   exact ⟨by rw [getR_0 h (by omega)]; rfl, hs1.keep⟩)
                                | (refine HQ_post rfl rfl (.cons (res_cellA (vs := (ofV (0, partsS s 0, 0, 3))) rfl (known_L (k := 1) rfl) rfl (by rw [ofV_len (partsS_len _ _)]; rfl)) .nil) (fun w1 hs1 => ?_)
                                   exact ⟨by rw [getR_lo' (m := 0) (by omega) h (by decide) (by omega)]; rfl, hs1.keep⟩)
                                | (refine HQ_post rfl rfl (.cons (res_cellA (vs := (ofV (0, partsS s 0, 0, 4))) rfl (known_L (k := 1) rfl) rfl (by rw [ofV_len (partsS_len _ _)]; rfl)) .nil) (fun w1 hs1 => ?_)
                                   exact ⟨by rw [getR_hi' (m := 0) (by omega) h (by decide) (by omega)]; rfl, hs1.keep⟩)
                                | (refine HQ_post rfl rfl (.cons (res_cellA (vs := (ofV (0, partsS s 0, 0, 3))) rfl (known_L (k := 0) rfl) rfl (by rw [ofV_len (partsS_len _ _)]; rfl)) .nil) (fun w1 hs1 => ?_)
                                   exact ⟨by rw [getR_short (by omega)]; rfl, hs1.keep⟩)
                              skip)
                            skip)
                        · try exact Bool.noConfusion h17
                          all_goals try simp only [decide_eq_true_eq, decide_eq_false_iff_not, beq_iff_eq, beq_eq_false_iff_ne, bne_iff_ne, bne_eq_false_iff_eq, Bool.not_eq_true', Bool.not_eq_false', ne_eq, Int.not_lt, Int.not_le, ge_iff_le, gt_iff_lt] at h17
                          all_goals (
                            refine HC_skip ?_
                            refine HQ_then ?_
                            refine hK15 _ _ _ _ ?_; clear hK15 K15
                            refine HC_seq fun K19 hK19 => ?_
                            refine HC_seq fun K20 hK20 => ?_
                            refine HC_region ?_
                            all_goals refine HL_r rfl rfl rfl rfl (R_move rfl) ?_
                            all_goals first
                              | (refine HL_r rfl rfl rfl rfl (R_lenBs rfl rfl) ?_)
                              | (refine HL_r rfl rfl rfl rfl (R_lenSl rfl rfl) ?_)
                              | (refine HL_r rfl rfl rfl rfl (R_lenStr rfl rfl rfl) ?_)
                              | (refine HL_r rfl rfl rfl rfl (R_pure rfl rfl rfl) ?_)
                            all_goals refine HL_r rfl rfl rfl rfl (R_move rfl) ?_
                            all_goals refine HL_r rfl rfl rfl rfl (R_pure rfl rfl rfl) ?_
                            all_goals refine HL_nil ?_
                            all_goals (
                              refine HQ_then ?_
                              refine hK20 _ _ _ _ ?_; clear hK20 K20
                              refine HC_cond rfl (fun h21 => ?_) (fun h21 => ?_)
                              · try exact Bool.noConfusion h21
                                all_goals try simp only [decide_eq_true_eq, decide_eq_false_iff_not, beq_iff_eq, beq_eq_false_iff_ne, bne_iff_ne, bne_eq_false_iff_eq, Bool.not_eq_true', Bool.not_eq_false', ne_eq, Int.not_lt, Int.not_le, ge_iff_le, gt_iff_lt] at h21
                                all_goals (
                                  refine HC_seq fun K22 hK22 => ?_
                                  refine HC_region ?_
                                  all_goals refine HL_r rfl rfl rfl rfl (R_build (r := [_, _, _, _, _, _]) rfl rfl) ?_
                                  all_goals refine HL_storeArr (k := 1) (n := 6) (ys := (ofV (0, partsS s 0, 0, 4))) rfl rfl rfl rfl rfl (by exact ofV_len (partsS_len _ _)) rfl (ofV_one _) rfl ?_
                                  all_goals refine HL_nil ?_
                                  all_goals (
                                    refine HQ_then ?_
                                    refine hK22 _ _ _ _ ?_; clear hK22 K22
                                    refine HC_ret ?_
                                    refine HQ_thenR ?_; clear hK19 K19
                                    first
                                      | (refine HQ_post rfl rfl (.cons (res_cellA (vs := (ofV (0, partsS s 3, 0, 0))) rfl (known_L (k := 2) rfl) rfl (by rw [ofV_len (partsS_len _ _)]; rfl)) .nil) (fun w1 hs1 => ?_)
                                         exact ⟨by rw [getR_0 h (by omega)]; rfl, hs1.keep⟩)
                                      | (refine HQ_post rfl rfl (.cons (res_cellA (vs := (ofV (0, partsS s 0, 0, 3))) rfl (known_L (k := 1) rfl) rfl (by rw [ofV_len (partsS_len _ _)]; rfl)) .nil) (fun w1 hs1 => ?_)
                                         exact ⟨by rw [getR_lo' (m := 0) (by omega) h (by decide) (by omega)]; rfl, hs1.keep⟩)
                                      | (refine HQ_post rfl rfl (.cons (res_cellA (vs := (ofV (0, partsS s 0, 0, 4))) rfl (known_L (k := 1) rfl) rfl (by rw [ofV_len (partsS_len _ _)]; rfl)) .nil) (fun w1 hs1 => ?_)
                                         exact ⟨by rw [getR_hi' (m := 0) (by omega) h (by decide) (by omega)]; rfl, hs1.keep⟩)
                                      | (refine HQ_post rfl rfl (.cons (res_cellA (vs := (ofV (0, partsS s 0, 0, 3))) rfl (known_L (k := 0) rfl) rfl (by rw [ofV_len (partsS_len _ _)]; rfl)) .nil) (fun w1 hs1 => ?_)
                                         exact ⟨by rw [getR_short (by omega)]; rfl, hs1.keep⟩)
                                    skip)
                                  skip)
                              · try exact Bool.noConfusion h21
                                all_goals try simp only [decide_eq_true_eq, decide_eq_false_iff_not, beq_iff_eq, beq_eq_false_iff_ne, bne_iff_ne, bne_eq_false_iff_eq, Bool.not_eq_true', Bool.not_eq_false', ne_eq, Int.not_lt, Int.not_le, ge_iff_le, gt_iff_lt] at h21
                                all_goals (
                                  refine HC_skip ?_
                                  refine HQ_then ?_
                                  refine hK19 _ _ _ _ ?_; clear hK19 K19
                                  refine HC_seq fun K23 hK23 => ?_
                                  refine HC_region ?_
                                  all_goals refine HL_r rfl rfl rfl rfl (R_indexA (j := 0) rfl rfl rfl rfl rfl (by first | decide | omega) (by first | (simp only [Nat.zero_add, Nat.reduceAdd, Nat.reduceMul, Nat.zero_mul, Nat.mul_one, Nat.add_zero]; exact rfl) | exact rfl)) ?_
                                  all_goals first
                                    | (refine HL_r rfl rfl rfl rfl (R_load rfl (known_L (k := 0) rfl) rfl rfl) ?_)
                                    | (refine HL_r rfl rfl rfl rfl (R_load rfl (known_L (k := 1) rfl) rfl rfl) ?_)
                                    | (refine HL_r rfl rfl rfl rfl (R_load rfl (known_L (k := 2) rfl) rfl rfl) ?_)
                                  all_goals first
                                    | (refine HL_r rfl rfl rfl rfl (R_pure rfl rfl rfl) ?_; refine HL_wrap_i64 (by omega) (by omega) ?_)
                                    | (refine HL_r rfl rfl rfl rfl (R_pure rfl rfl rfl) ?_)
                                  all_goals refine HL_r rfl rfl rfl rfl (R_build (r := [_, _, _, _, _, _]) rfl rfl) ?_
                                  all_goals refine HL_alloc (cs := (ofV (0, partsS s 0, 0, 0)).toArray) rfl rfl rfl rfl fun r3 => ?_
                                  all_goals refine HL_storeArr (k := 0) (n := 6) (ys := (ofV (0, partsS s 0, 0, 0))) rfl rfl rfl rfl rfl (by exact ofV_len (partsS_len _ _)) rfl (ofV_one _) rfl ?_
                                  all_goals refine HL_nil ?_
                                  all_goals (
                                    refine HQ_then ?_
                                    refine hK23 _ _ _ _ ?_; clear hK23 K23
                                    refine HC_seq fun K24 hK24 => ?_
                                    refine HC_seq fun K25 hK25 => ?_
                                    refine HC_region ?_
                                    all_goals refine HL_r rfl rfl rfl rfl (R_assign rfl) ?_
                                    all_goals refine HL_nil ?_
                                    all_goals (
                                      refine HQ_then ?_
                                      refine hK25 _ _ _ _ ?_; clear hK25 K25
                                      refine HC_block ?_
                                      refine HC_loop (σ := Nat) (fun i => i ≤ 3) (fun i => [(0, .string (bs s)), (2, .pointer (some ⟨r1, 0, none⟩)), (3, .pointer (some ⟨r2, 0, none⟩)), (6, .pointer (some ⟨r3, 0, none⟩)), (7, .int .i64 (i : Int))]) (fun i => [(r3, .cells (ofV (0, partsS s i, 0, 0)).toArray 33 (0, 0)), (r2, .cells (([0, 0, 0, 0]).map uV).toArray 51 (0, 0)), (r1, .cells (ofV (0, partsS s 0, 0, 0)).toArray 33 (0, 0))]) (fun _ _ _ => True) (fun i => 3 - i) 0 (Nat.zero_le _) (.cons rfl (.cons rfl (.cons rfl (.cons rfl (.cons rfl .nil))))) (List.Sublist.refl _) (fun _ _ h => h) ?_
                                      intro i hi
                                      refine HC_seq fun K26 hK26 => ?_
                                      refine HC_seq fun K27 hK27 => ?_
                                      refine HC_region ?_
                                      all_goals refine HL_r rfl rfl rfl rfl (R_move rfl) ?_
                                      all_goals refine HL_r rfl rfl rfl rfl (R_pure rfl rfl rfl) ?_
                                      all_goals refine HL_nil ?_
                                      all_goals (
                                        refine HQ_then ?_
                                        refine hK27 _ _ _ _ ?_; clear hK27 K27
                                        refine HC_cond rfl (fun h28 => ?_) (fun h28 => ?_)
                                        · try exact Bool.noConfusion h28
                                          all_goals try simp only [decide_eq_true_eq, decide_eq_false_iff_not, beq_iff_eq, beq_eq_false_iff_ne, bne_iff_ne, bne_eq_false_iff_eq, Bool.not_eq_true', Bool.not_eq_false', ne_eq, Int.not_lt, Int.not_le, ge_iff_le, gt_iff_lt] at h28
                                          all_goals (
                                            refine HC_skip ?_
                                            refine HQ_then ?_
                                            refine hK26 _ _ _ _ ?_; clear hK26 K26
                                            refine HC_seq fun K29 hK29 => ?_
                                            refine HC_block ?_
                                            refine HC_region ?_
                                            all_goals refine HL_r rfl rfl rfl rfl (R_move rfl) ?_
                                            all_goals refine HL_r rfl rfl rfl rfl (R_move rfl) ?_
                                            all_goals refine HL_r rfl rfl rfl rfl (R_move rfl) ?_
                                            all_goals refine HL_r rfl rfl rfl rfl (R_pure rfl rfl rfl) ?_; refine HL_as (show _ = Value.int .i64 ((32 * i : Nat) : Int) from congrArg (Value.int .i64) (by rw [wrap_i64 (by omega) (by omega)]; omega)) ?_
                                            all_goals refine HL_r rfl rfl rfl rfl (R_pure rfl rfl rfl) ?_; refine HL_as (show _ = Value.int .i64 ((32 * (i + 1) : Nat) : Int) from congrArg (Value.int .i64) (by rw [wrap_i64 (by omega) (by omega)]; omega)) ?_
                                            all_goals refine HL_r rfl rfl rfl rfl (R_move rfl) ?_
                                            all_goals refine HL_r rfl rfl rfl rfl (R_pure rfl rfl rfl) ?_; refine HL_as (show _ = Value.int .i64 ((32 * i : Nat) : Int) from congrArg (Value.int .i64) (by rw [wrap_i64 (by omega) (by omega)]; omega)) ?_
                                            all_goals refine HL_r rfl rfl rfl rfl (R_pure rfl rfl rfl) ?_; refine HL_as (show _ = Value.int .i64 ((32 * (i + 2) : Nat) : Int) from congrArg (Value.int .i64) (by rw [wrap_i64 (by omega) (by omega)]; omega)) ?_
                                            all_goals refine HL_r rfl rfl rfl rfl (R_sliceBs (kl := some (.i64, ((32 * (i + 1) : Nat) : Int))) (kh := some (.i64, ((32 * (i + 2) : Nat) : Int))) (m := 32 * (i + 1)) (n := 32 * (i + 2)) rfl rfl rfl rfl rfl rfl (by omega) (by omega) (show _ = partO s i from rfl)) ?_
                                            all_goals refine HL_r rfl rfl rfl rfl (R_fieldAddr (off' := 1) rfl rfl rfl) ?_
                                            all_goals refine HL_r rfl rfl rfl rfl (R_indexA (j := i) (m := 1) (off' := 1 + i) rfl rfl rfl rfl (by omega) (by omega) (by omega)) ?_
                                            all_goals refine HL_storeAt (k := 0) (off := 1 + i) (xs := (ofV (0, partsS s i, 0, 0))) (ys := (ofV (0, partsS s (i + 1), 0, 0))) rfl rfl rfl rfl rfl rfl (by rw [ofV_len (partsS_len _ _)]; omega) (ofV_part i (by omega)) rfl ?_
                                            all_goals refine HL_nil ?_
                                            all_goals (
                                              refine HQ_blockN ?_
                                              refine HQ_then ?_
                                              refine hK29 _ _ _ _ ?_; clear hK29 K29
                                              refine HC_region ?_
                                              all_goals refine HL_r rfl rfl rfl rfl (R_move rfl) ?_
                                              all_goals first
                                                | (refine HL_r rfl rfl rfl rfl (R_pure rfl rfl rfl) ?_; refine HL_wrap_i64 (by omega) (by omega) ?_)
                                                | (refine HL_r rfl rfl rfl rfl (R_pure rfl rfl rfl) ?_)
                                              all_goals refine HL_r rfl rfl rfl rfl (R_assign rfl) ?_
                                              all_goals refine HL_nil ?_
                                              all_goals (
                                                refine HQ_then ?_
                                                exact HQ_again (i + 1) (by omega) (by omega) (.cons rfl (.cons rfl (.cons rfl (.cons rfl (.cons rfl .nil))))) (List.Sublist.refl _) (fun _ _ h => h)
                                                skip)
                                              skip)
                                            skip)
                                        · try exact Bool.noConfusion h28
                                          all_goals try simp only [decide_eq_true_eq, decide_eq_false_iff_not, beq_iff_eq, beq_eq_false_iff_ne, bne_iff_ne, bne_eq_false_iff_eq, Bool.not_eq_true', Bool.not_eq_false', ne_eq, Int.not_lt, Int.not_le, ge_iff_le, gt_iff_lt] at h28
                                          all_goals (
                                            refine HC_exit ?_
                                            refine HQ_thenE ?_; clear hK26 K26
                                            refine HQ_thenE ?_
                                            refine HQ_blockE ?_
                                            refine HQ_then ?_
                                            refine hK24 _ _ _ _ ?_; clear hK24 K24
                                            refine HC_seq fun K30 hK30 => ?_
                                            refine HC_seq fun K31 hK31 => ?_
                                            have hi3 : 3 = i := by omega
                                            subst hi3
                                            refine HC_region ?_
                                            all_goals refine HL_r rfl rfl rfl rfl (R_indexA (j := 0) rfl rfl rfl rfl rfl (by first | decide | omega) (by first | (simp only [Nat.zero_add, Nat.reduceAdd, Nat.reduceMul, Nat.zero_mul, Nat.mul_one, Nat.add_zero]; exact rfl) | exact rfl)) ?_
                                            all_goals first
                                              | (refine HL_r rfl rfl rfl rfl (R_load rfl (known_L (k := 0) rfl) rfl rfl) ?_)
                                              | (refine HL_r rfl rfl rfl rfl (R_load rfl (known_L (k := 1) rfl) rfl rfl) ?_)
                                              | (refine HL_r rfl rfl rfl rfl (R_load rfl (known_L (k := 2) rfl) rfl rfl) ?_)
                                            all_goals refine HL_r rfl rfl rfl rfl (R_pure rfl rfl rfl) ?_
                                            all_goals refine HL_nil ?_
                                            all_goals (
                                              refine HQ_then ?_
                                              refine hK31 _ _ _ _ ?_; clear hK31 K31
                                              refine HC_cond rfl (fun h32 => ?_) (fun h32 => ?_)
                                              · try exact Bool.noConfusion h32
                                                all_goals try simp only [decide_eq_true_eq, decide_eq_false_iff_not, beq_iff_eq, beq_eq_false_iff_ne, bne_iff_ne, bne_eq_false_iff_eq, Bool.not_eq_true', Bool.not_eq_false', ne_eq, Int.not_lt, Int.not_le, ge_iff_le, gt_iff_lt] at h32
                                                all_goals (
                                                  refine HC_region ?_
                                                  all_goals refine HL_r rfl rfl rfl rfl (R_move rfl) ?_
                                                  all_goals refine HL_r rfl rfl rfl rfl (R_sliceBs (kl := some (.i64, 128)) (kh := none) (m := 128) (n := s.length) rfl rfl rfl rfl rfl rfl (by omega) (by omega) (show _ = s.drop 128 from by rw [List.take_length])) ?_
                                                  all_goals refine HL_callP rfl rfl rfl (enters_of Tryd.func39 (by kernel_rfl) rfl) (P_ref_Unle (s.drop 128)) ?_; refine HL_as (congrArg resN (unle8 (by omega))) ?_
                                                  all_goals refine HL_r rfl rfl rfl rfl (R_move rfl) ?_
                                                  all_goals refine HL_r rfl rfl rfl rfl (R_extract rfl rfl) ?_
                                                  all_goals refine HL_r rfl rfl rfl rfl (R_extract rfl rfl) ?_
                                                  all_goals refine HL_r rfl rfl rfl rfl (R_fieldAddr (off' := 4) rfl rfl rfl) ?_
                                                  all_goals refine HL_storeAt (k := 0) (off := 4) (xs := (ofV (0, partsS s 3, 0, 0))) (ys := (ofV (0, partsS s 3, 0, 0))) rfl rfl rfl rfl rfl rfl (by rw [ofV_len (partsS_len _ _)]; omega) (ofV_num (partsS_len _ _)) rfl ?_
                                                  all_goals refine HL_nil ?_
                                                  all_goals (
                                                    refine HQ_then ?_
                                                    refine hK30 _ _ _ _ ?_; clear hK30 K30
                                                    refine HC_seq fun K33 hK33 => ?_
                                                    refine HC_region ?_
                                                    all_goals refine HL_r rfl rfl rfl rfl (R_loadArr (xs := (ofV (0, partsS s 3, 0, 0))) (n := 6) rfl (known_L (k := 0) rfl) rfl rfl (by exact ofV_len (partsS_len _ _))) ?_
                                                    all_goals refine HL_storeArr (k := 2) (n := 6) (ys := (ofV (0, partsS s 3, 0, 0))) rfl rfl rfl rfl rfl (by exact ofV_len (partsS_len _ _)) rfl (ofV_one _) rfl ?_
                                                    all_goals refine HL_nil ?_
                                                    all_goals (
                                                      refine HQ_then ?_
                                                      refine hK33 _ _ _ _ ?_; clear hK33 K33
                                                      refine HC_ret ?_
                                                      first
                                                        | (refine HQ_post rfl rfl (.cons (res_cellA (vs := (ofV (0, partsS s 3, 0, 0))) rfl (known_L (k := 2) rfl) rfl (by rw [ofV_len (partsS_len _ _)]; rfl)) .nil) (fun w1 hs1 => ?_)
                                                           exact ⟨by rw [getR_0 h (by omega)]; rfl, hs1.keep⟩)
                                                        | (refine HQ_post rfl rfl (.cons (res_cellA (vs := (ofV (0, partsS s 0, 0, 3))) rfl (known_L (k := 1) rfl) rfl (by rw [ofV_len (partsS_len _ _)]; rfl)) .nil) (fun w1 hs1 => ?_)
                                                           exact ⟨by rw [getR_lo' (m := 0) (by omega) h (by decide) (by omega)]; rfl, hs1.keep⟩)
                                                        | (refine HQ_post rfl rfl (.cons (res_cellA (vs := (ofV (0, partsS s 0, 0, 4))) rfl (known_L (k := 1) rfl) rfl (by rw [ofV_len (partsS_len _ _)]; rfl)) .nil) (fun w1 hs1 => ?_)
                                                           exact ⟨by rw [getR_hi' (m := 0) (by omega) h (by decide) (by omega)]; rfl, hs1.keep⟩)
                                                        | (refine HQ_post rfl rfl (.cons (res_cellA (vs := (ofV (0, partsS s 0, 0, 3))) rfl (known_L (k := 0) rfl) rfl (by rw [ofV_len (partsS_len _ _)]; rfl)) .nil) (fun w1 hs1 => ?_)
                                                           exact ⟨by rw [getR_short (by omega)]; rfl, hs1.keep⟩)
                                                      skip)
                                                    skip)
                                                  skip)
                                              · try exact Bool.noConfusion h32
                                                all_goals try simp only [decide_eq_true_eq, decide_eq_false_iff_not, beq_iff_eq, beq_eq_false_iff_ne, bne_iff_ne, bne_eq_false_iff_eq, Bool.not_eq_true', Bool.not_eq_false', ne_eq, Int.not_lt, Int.not_le, ge_iff_le, gt_iff_lt] at h32
                                                all_goals (
                                                  refine HC_skip ?_
                                                  refine HQ_then ?_
                                                  refine hK30 _ _ _ _ ?_; clear hK30 K30
                                                  refine HC_seq fun K34 hK34 => ?_
                                                  refine HC_region ?_
                                                  all_goals refine HL_r rfl rfl rfl rfl (R_loadArr (xs := (ofV (0, partsS s 3, 0, 0))) (n := 6) rfl (known_L (k := 0) rfl) rfl rfl (by exact ofV_len (partsS_len _ _))) ?_
                                                  all_goals refine HL_storeArr (k := 2) (n := 6) (ys := (ofV (0, partsS s 3, 0, 0))) rfl rfl rfl rfl rfl (by exact ofV_len (partsS_len _ _)) rfl (ofV_one _) rfl ?_
                                                  all_goals refine HL_nil ?_
                                                  all_goals (
                                                    refine HQ_then ?_
                                                    refine hK34 _ _ _ _ ?_; clear hK34 K34
                                                    refine HC_ret ?_
                                                    first
                                                      | (refine HQ_post rfl rfl (.cons (res_cellA (vs := (ofV (0, partsS s 3, 0, 0))) rfl (known_L (k := 2) rfl) rfl (by rw [ofV_len (partsS_len _ _)]; rfl)) .nil) (fun w1 hs1 => ?_)
                                                         exact ⟨by rw [getR_0 h (by omega)]; rfl, hs1.keep⟩)
                                                      | (refine HQ_post rfl rfl (.cons (res_cellA (vs := (ofV (0, partsS s 0, 0, 3))) rfl (known_L (k := 1) rfl) rfl (by rw [ofV_len (partsS_len _ _)]; rfl)) .nil) (fun w1 hs1 => ?_)
                                                         exact ⟨by rw [getR_lo' (m := 0) (by omega) h (by decide) (by omega)]; rfl, hs1.keep⟩)
                                                      | (refine HQ_post rfl rfl (.cons (res_cellA (vs := (ofV (0, partsS s 0, 0, 4))) rfl (known_L (k := 1) rfl) rfl (by rw [ofV_len (partsS_len _ _)]; rfl)) .nil) (fun w1 hs1 => ?_)
                                                         exact ⟨by rw [getR_hi' (m := 0) (by omega) h (by decide) (by omega)]; rfl, hs1.keep⟩)
                                                      | (refine HQ_post rfl rfl (.cons (res_cellA (vs := (ofV (0, partsS s 0, 0, 3))) rfl (known_L (k := 0) rfl) rfl (by rw [ofV_len (partsS_len _ _)]; rfl)) .nil) (fun w1 hs1 => ?_)
                                                         exact ⟨by rw [getR_short (by omega)]; rfl, hs1.keep⟩)
                                                    skip)
                                                  skip)
                                              skip)
                                            skip)
                                        skip)
                                      skip)
                                    skip)
                                  skip)
                              skip)
                            skip)
                        skip)
                      skip)
                    skip)
                skip)
              skip)
            skip)
        skip)
      skip)
  · skip
    refine HC_seq fun K1 hK1 => ?_
    refine HC_region ?_
    all_goals refine HL_alloc (cs := (ofV (0, partsS s 0, 0, 0)).toArray) rfl rfl rfl rfl fun r1 => ?_
    all_goals refine HL_nil ?_
    all_goals (
      refine HQ_then ?_
      refine hK1 _ _ _ _ ?_; clear hK1 K1
      refine HC_seq fun K2 hK2 => ?_
      refine HC_seq fun K3 hK3 => ?_
      refine HC_region ?_
      all_goals refine HL_r rfl rfl rfl rfl (R_move rfl) ?_
      all_goals first
        | (refine HL_r rfl rfl rfl rfl (R_lenBs rfl rfl) ?_)
        | (refine HL_r rfl rfl rfl rfl (R_lenSl rfl rfl) ?_)
        | (refine HL_r rfl rfl rfl rfl (R_lenStr rfl rfl rfl) ?_)
        | (refine HL_r rfl rfl rfl rfl (R_pure rfl rfl rfl) ?_)
      all_goals refine HL_r rfl rfl rfl rfl (R_pure rfl rfl rfl) ?_
      all_goals refine HL_nil ?_
      all_goals (
        refine HQ_then ?_
        refine hK3 _ _ _ _ ?_; clear hK3 K3
        refine HC_cond rfl (fun h4 => ?_) (fun h4 => ?_)
        · try exact Bool.noConfusion h4
          all_goals try simp only [decide_eq_true_eq, decide_eq_false_iff_not, beq_iff_eq, beq_eq_false_iff_ne, bne_iff_ne, bne_eq_false_iff_eq, Bool.not_eq_true', Bool.not_eq_false', ne_eq, Int.not_lt, Int.not_le, ge_iff_le, gt_iff_lt] at h4
          all_goals (
            refine HC_seq fun K5 hK5 => ?_
            refine HC_region ?_
            all_goals refine HL_r rfl rfl rfl rfl (R_build (r := [_, _, _, _, _, _]) rfl rfl) ?_
            all_goals refine HL_storeArr (k := 0) (n := 6) (ys := (ofV (0, partsS s 0, 0, 3))) rfl rfl rfl rfl rfl (by exact ofV_len (partsS_len _ _)) rfl (ofV_one _) rfl ?_
            all_goals refine HL_nil ?_
            all_goals (
              refine HQ_then ?_
              refine hK5 _ _ _ _ ?_; clear hK5 K5
              refine HC_ret ?_
              refine HQ_thenR ?_; clear hK2 K2
              first
                | (refine HQ_post rfl rfl (.cons (res_cellA (vs := (ofV (1, partsS s 3, (leV (s.drop 128)), 0))) rfl (known_L (k := 2) rfl) rfl (by rw [ofV_len (partsS_len _ _)]; rfl)) .nil) (fun w1 hs1 => ?_)
                   exact ⟨by rw [getR_1 h (by omega)]; rfl, hs1.keep⟩)
                | (refine HQ_post rfl rfl (.cons (res_cellA (vs := (ofV (0, partsS s 0, 0, 3))) rfl (known_L (k := 1) rfl) rfl (by rw [ofV_len (partsS_len _ _)]; rfl)) .nil) (fun w1 hs1 => ?_)
                   exact ⟨by rw [getR_lo' (m := 1) (by omega) h (by decide) (by omega)]; rfl, hs1.keep⟩)
                | (refine HQ_post rfl rfl (.cons (res_cellA (vs := (ofV (0, partsS s 0, 0, 4))) rfl (known_L (k := 1) rfl) rfl (by rw [ofV_len (partsS_len _ _)]; rfl)) .nil) (fun w1 hs1 => ?_)
                   exact ⟨by rw [getR_hi' (m := 1) (by omega) h (by decide) (by omega)]; rfl, hs1.keep⟩)
                | (refine HQ_post rfl rfl (.cons (res_cellA (vs := (ofV (0, partsS s 0, 0, 3))) rfl (known_L (k := 0) rfl) rfl (by rw [ofV_len (partsS_len _ _)]; rfl)) .nil) (fun w1 hs1 => ?_)
                   exact ⟨by rw [getR_short (by omega)]; rfl, hs1.keep⟩)
              skip)
            skip)
        · try exact Bool.noConfusion h4
          all_goals try simp only [decide_eq_true_eq, decide_eq_false_iff_not, beq_iff_eq, beq_eq_false_iff_ne, bne_iff_ne, bne_eq_false_iff_eq, Bool.not_eq_true', Bool.not_eq_false', ne_eq, Int.not_lt, Int.not_le, ge_iff_le, gt_iff_lt] at h4
          all_goals (
            refine HC_skip ?_
            refine HQ_then ?_
            refine hK2 _ _ _ _ ?_; clear hK2 K2
            refine HC_seq fun K6 hK6 => ?_
            refine HC_region ?_
            all_goals refine HL_r rfl rfl rfl rfl (R_move rfl) ?_
            all_goals refine HL_r rfl rfl rfl rfl (R_sliceBs (kl := none) (kh := some (.i64, 32)) (m := 0) (n := 32) rfl rfl rfl rfl rfl rfl (by omega) (by omega) (show _ = s.take 32 from by simp)) ?_
            all_goals refine HL_callP rfl rfl rfl (enters_of Tryd.func38 (by kernel_rfl) rfl) (P_ref_Unfixed (s.take 32)) ?_; refine HL_as (congrArg resW ((unf_take (by omega)).trans (congrArg (fun w => (w, (0 : Int))) h))) ?_
            all_goals refine HL_r rfl rfl rfl rfl (R_move rfl) ?_
            all_goals refine HL_r rfl rfl rfl rfl (R_extract rfl rfl) ?_
            all_goals refine HL_r rfl rfl rfl rfl (R_extract rfl rfl) ?_
            all_goals refine HL_alloc (cs := (zW.map uV).toArray) rfl rfl rfl rfl fun r2 => ?_
            all_goals refine HL_storeArr (k := 0) (n := 4) (ys := ([1, 0, 0, 0]).map uV) rfl rfl rfl rfl rfl (by first | rfl | (rw [List.length_map]; exact hwl)) rfl (mapU_one _) rfl ?_
            all_goals refine HL_r rfl rfl rfl rfl (R_assign rfl) ?_
            all_goals refine HL_nil ?_
            all_goals (
              refine HQ_then ?_
              refine hK6 _ _ _ _ ?_; clear hK6 K6
              refine HC_seq fun K7 hK7 => ?_
              refine HC_seq fun K8 hK8 => ?_
              refine HC_region ?_
              all_goals first
                | (refine HL_r rfl rfl rfl rfl (R_loadArr (n := 4) rfl (known_L (k := 0) rfl) rfl rfl (by first | rfl | (rw [List.length_map]; exact hwl) | (with_reducible exact ofV_len (partsS_len _ _)))) ?_)
                | (refine HL_r rfl rfl rfl rfl (R_loadArr (n := 4) rfl (known_L (k := 1) rfl) rfl rfl (by first | rfl | (rw [List.length_map]; exact hwl) | (with_reducible exact ofV_len (partsS_len _ _)))) ?_)
                | (refine HL_r rfl rfl rfl rfl (R_loadArr (n := 4) rfl (known_L (k := 2) rfl) rfl rfl (by first | rfl | (rw [List.length_map]; exact hwl) | (with_reducible exact ofV_len (partsS_len _ _)))) ?_)
              all_goals refine HL_r rfl rfl rfl rfl (R_build (r := [_, _, _, _]) rfl rfl) ?_
              all_goals refine HL_r rfl rfl rfl rfl (R_neArr rfl rfl rfl rfl rfl (by kernel_rfl) (by first | rfl | (rw [List.length_map]; exact hwl) | (with_reducible exact ofV_len (partsS_len _ _))) (by first | rfl | (rw [List.length_map]; exact hwl) | (with_reducible exact ofV_len (partsS_len _ _))) (by first | exact scal_mapU rfl _ | rfl) (by first | exact scal_mapU rfl _ | rfl)) ?_
              all_goals first
                | (refine HL_as (show _ = Value.bool true from bool_eq' (rfl)) ?_)
                | (refine HL_as (show _ = Value.bool false from bool_eq' (rfl)) ?_)
                | skip
              all_goals refine HL_r rfl rfl rfl rfl (R_move rfl) ?_
              all_goals first
                | (refine HL_r rfl rfl rfl rfl (R_loadArr (n := 4) rfl (known_L (k := 0) rfl) rfl rfl (by first | rfl | (rw [List.length_map]; exact hwl) | (with_reducible exact ofV_len (partsS_len _ _)))) ?_)
                | (refine HL_r rfl rfl rfl rfl (R_loadArr (n := 4) rfl (known_L (k := 1) rfl) rfl rfl (by first | rfl | (rw [List.length_map]; exact hwl) | (with_reducible exact ofV_len (partsS_len _ _)))) ?_)
                | (refine HL_r rfl rfl rfl rfl (R_loadArr (n := 4) rfl (known_L (k := 2) rfl) rfl rfl (by first | rfl | (rw [List.length_map]; exact hwl) | (with_reducible exact ofV_len (partsS_len _ _)))) ?_)
                | (refine HL_skip rfl rfl rfl ?_)
                | (refine HL_case 21 rfl (fun hb9 => ?_) (fun hb9 => ?_) <;> (try simp only [decide_eq_true_eq, decide_eq_false_iff_not, beq_iff_eq, beq_eq_false_iff_ne, bne_iff_ne, bne_eq_false_iff_eq, Bool.not_eq_true', Bool.not_eq_false', ne_eq, Int.not_lt, Int.not_le, ge_iff_le, gt_iff_lt] at hb9) <;> first | (refine HL_r rfl rfl rfl rfl (R_loadArr (n := 4) rfl (known_L (k := 0) rfl) rfl rfl (by first | rfl | (rw [List.length_map]; exact hwl) | (with_reducible exact ofV_len (partsS_len _ _)))) ?_) | (refine HL_r rfl rfl rfl rfl (R_loadArr (n := 4) rfl (known_L (k := 1) rfl) rfl rfl (by first | rfl | (rw [List.length_map]; exact hwl) | (with_reducible exact ofV_len (partsS_len _ _)))) ?_) | (refine HL_r rfl rfl rfl rfl (R_loadArr (n := 4) rfl (known_L (k := 2) rfl) rfl rfl (by first | rfl | (rw [List.length_map]; exact hwl) | (with_reducible exact ofV_len (partsS_len _ _)))) ?_) | (refine HL_skip rfl rfl rfl ?_))
              all_goals first
                | (refine HL_r rfl rfl rfl rfl (R_build (r := [_, _, _, _]) rfl rfl) ?_)
                | (refine HL_skip rfl rfl rfl ?_)
                | (refine HL_case 21 rfl (fun hb10 => ?_) (fun hb10 => ?_) <;> (try simp only [decide_eq_true_eq, decide_eq_false_iff_not, beq_iff_eq, beq_eq_false_iff_ne, bne_iff_ne, bne_eq_false_iff_eq, Bool.not_eq_true', Bool.not_eq_false', ne_eq, Int.not_lt, Int.not_le, ge_iff_le, gt_iff_lt] at hb10) <;> first | (refine HL_r rfl rfl rfl rfl (R_build (r := [_, _, _, _]) rfl rfl) ?_) | (refine HL_skip rfl rfl rfl ?_))
              all_goals first
                | (refine HL_r rfl rfl rfl rfl (R_neArr rfl rfl rfl rfl rfl (by kernel_rfl) (by first | rfl | (rw [List.length_map]; exact hwl) | (with_reducible exact ofV_len (partsS_len _ _))) (by first | rfl | (rw [List.length_map]; exact hwl) | (with_reducible exact ofV_len (partsS_len _ _))) (by first | exact scal_mapU rfl _ | rfl) (by first | exact scal_mapU rfl _ | rfl)) ?_)
                | (refine HL_skip rfl rfl rfl ?_)
                | (refine HL_case 21 rfl (fun hb11 => ?_) (fun hb11 => ?_) <;> (try simp only [decide_eq_true_eq, decide_eq_false_iff_not, beq_iff_eq, beq_eq_false_iff_ne, bne_iff_ne, bne_eq_false_iff_eq, Bool.not_eq_true', Bool.not_eq_false', ne_eq, Int.not_lt, Int.not_le, ge_iff_le, gt_iff_lt] at hb11) <;> first | (refine HL_r rfl rfl rfl rfl (R_neArr rfl rfl rfl rfl rfl (by kernel_rfl) (by first | rfl | (rw [List.length_map]; exact hwl) | (with_reducible exact ofV_len (partsS_len _ _))) (by first | rfl | (rw [List.length_map]; exact hwl) | (with_reducible exact ofV_len (partsS_len _ _))) (by first | exact scal_mapU rfl _ | rfl) (by first | exact scal_mapU rfl _ | rfl)) ?_) | (refine HL_skip rfl rfl rfl ?_))
              all_goals first
                | (refine HL_as (show _ = Value.bool true from bool_eq' (rfl)) ?_)
                | (refine HL_as (show _ = Value.bool false from bool_eq' (rfl)) ?_)
                | skip
              all_goals first
                | (refine HL_r rfl rfl rfl rfl (R_pickT rfl rfl) ?_)
                | (refine HL_r rfl rfl rfl rfl (R_pickF rfl rfl) ?_)
              all_goals refine HL_nil ?_
              all_goals (
                refine HQ_then ?_
                refine hK8 _ _ _ _ ?_; clear hK8 K8
                refine HC_cond rfl (fun h12 => ?_) (fun h12 => ?_)
                · try exact Bool.noConfusion h12
                  all_goals try simp only [decide_eq_true_eq, decide_eq_false_iff_not, beq_iff_eq, beq_eq_false_iff_ne, bne_iff_ne, bne_eq_false_iff_eq, Bool.not_eq_true', Bool.not_eq_false', ne_eq, Int.not_lt, Int.not_le, ge_iff_le, gt_iff_lt] at h12
                  all_goals (
                    refine HC_seq fun K13 hK13 => ?_
                    refine HC_region ?_
                    all_goals refine HL_r rfl rfl rfl rfl (R_build (r := [_, _, _, _, _, _]) rfl rfl) ?_
                    all_goals refine HL_storeArr (k := 1) (n := 6) (ys := (ofV (0, partsS s 0, 0, 9))) rfl rfl rfl rfl rfl (by exact ofV_len (partsS_len _ _)) rfl (ofV_one _) rfl ?_
                    all_goals refine HL_nil ?_
                    all_goals (
                      refine HQ_then ?_
                      refine hK13 _ _ _ _ ?_; clear hK13 K13
                      refine HC_ret ?_
                      refine HQ_thenR ?_; clear hK7 K7
                      first
                        | (refine HQ_post rfl rfl (.cons (res_cellA (vs := (ofV (1, partsS s 3, (leV (s.drop 128)), 0))) rfl (known_L (k := 2) rfl) rfl (by rw [ofV_len (partsS_len _ _)]; rfl)) .nil) (fun w1 hs1 => ?_)
                           exact ⟨by rw [getR_1 h (by omega)]; rfl, hs1.keep⟩)
                        | (refine HQ_post rfl rfl (.cons (res_cellA (vs := (ofV (0, partsS s 0, 0, 3))) rfl (known_L (k := 1) rfl) rfl (by rw [ofV_len (partsS_len _ _)]; rfl)) .nil) (fun w1 hs1 => ?_)
                           exact ⟨by rw [getR_lo' (m := 1) (by omega) h (by decide) (by omega)]; rfl, hs1.keep⟩)
                        | (refine HQ_post rfl rfl (.cons (res_cellA (vs := (ofV (0, partsS s 0, 0, 4))) rfl (known_L (k := 1) rfl) rfl (by rw [ofV_len (partsS_len _ _)]; rfl)) .nil) (fun w1 hs1 => ?_)
                           exact ⟨by rw [getR_hi' (m := 1) (by omega) h (by decide) (by omega)]; rfl, hs1.keep⟩)
                        | (refine HQ_post rfl rfl (.cons (res_cellA (vs := (ofV (0, partsS s 0, 0, 3))) rfl (known_L (k := 0) rfl) rfl (by rw [ofV_len (partsS_len _ _)]; rfl)) .nil) (fun w1 hs1 => ?_)
                           exact ⟨by rw [getR_short (by omega)]; rfl, hs1.keep⟩)
                      skip)
                    skip)
                · try exact Bool.noConfusion h12
                  all_goals try simp only [decide_eq_true_eq, decide_eq_false_iff_not, beq_iff_eq, beq_eq_false_iff_ne, bne_iff_ne, bne_eq_false_iff_eq, Bool.not_eq_true', Bool.not_eq_false', ne_eq, Int.not_lt, Int.not_le, ge_iff_le, gt_iff_lt] at h12
                  all_goals (
                    refine HC_skip ?_
                    refine HQ_then ?_
                    refine hK7 _ _ _ _ ?_; clear hK7 K7
                    refine HC_seq fun K14 hK14 => ?_
                    refine HC_region ?_
                    all_goals refine HL_r rfl rfl rfl rfl (R_indexA (j := 0) rfl rfl rfl rfl rfl (by first | decide | omega) (by first | (simp only [Nat.zero_add, Nat.reduceAdd, Nat.reduceMul, Nat.zero_mul, Nat.mul_one, Nat.add_zero]; exact rfl) | exact rfl)) ?_
                    all_goals first
                      | (refine HL_r rfl rfl rfl rfl (R_load rfl (known_L (k := 0) rfl) rfl rfl) ?_)
                      | (refine HL_r rfl rfl rfl rfl (R_load rfl (known_L (k := 1) rfl) rfl rfl) ?_)
                      | (refine HL_r rfl rfl rfl rfl (R_load rfl (known_L (k := 2) rfl) rfl rfl) ?_)
                    all_goals first
                      | (refine HL_r rfl rfl rfl rfl (R_pure rfl rfl rfl) ?_; refine HL_wrap_i64 (by omega) (by omega) ?_)
                      | (refine HL_r rfl rfl rfl rfl (R_pure rfl rfl rfl) ?_)
                    all_goals first
                      | (refine HL_r rfl rfl rfl rfl (R_pure rfl rfl rfl) ?_; refine HL_wrap_i64 (by omega) (by omega) ?_)
                      | (refine HL_r rfl rfl rfl rfl (R_pure rfl rfl rfl) ?_)
                    all_goals first
                      | (refine HL_r rfl rfl rfl rfl (R_pure rfl rfl rfl) ?_; refine HL_wrap_i64 (by omega) (by omega) ?_)
                      | (refine HL_r rfl rfl rfl rfl (R_pure rfl rfl rfl) ?_)
                    all_goals refine HL_r rfl rfl rfl rfl (R_assign rfl) ?_
                    all_goals refine HL_nil ?_
                    all_goals (
                      refine HQ_then ?_
                      refine hK14 _ _ _ _ ?_; clear hK14 K14
                      refine HC_seq fun K15 hK15 => ?_
                      refine HC_seq fun K16 hK16 => ?_
                      refine HC_region ?_
                      all_goals refine HL_r rfl rfl rfl rfl (R_move rfl) ?_
                      all_goals first
                        | (refine HL_r rfl rfl rfl rfl (R_lenBs rfl rfl) ?_)
                        | (refine HL_r rfl rfl rfl rfl (R_lenSl rfl rfl) ?_)
                        | (refine HL_r rfl rfl rfl rfl (R_lenStr rfl rfl rfl) ?_)
                        | (refine HL_r rfl rfl rfl rfl (R_pure rfl rfl rfl) ?_)
                      all_goals refine HL_r rfl rfl rfl rfl (R_move rfl) ?_
                      all_goals refine HL_r rfl rfl rfl rfl (R_pure rfl rfl rfl) ?_
                      all_goals refine HL_nil ?_
                      all_goals (
                        refine HQ_then ?_
                        refine hK16 _ _ _ _ ?_; clear hK16 K16
                        refine HC_cond rfl (fun h17 => ?_) (fun h17 => ?_)
                        · try exact Bool.noConfusion h17
                          all_goals try simp only [decide_eq_true_eq, decide_eq_false_iff_not, beq_iff_eq, beq_eq_false_iff_ne, bne_iff_ne, bne_eq_false_iff_eq, Bool.not_eq_true', Bool.not_eq_false', ne_eq, Int.not_lt, Int.not_le, ge_iff_le, gt_iff_lt] at h17
                          all_goals (
                            refine HC_seq fun K18 hK18 => ?_
                            refine HC_region ?_
                            all_goals refine HL_r rfl rfl rfl rfl (R_build (r := [_, _, _, _, _, _]) rfl rfl) ?_
                            all_goals refine HL_storeArr (k := 1) (n := 6) (ys := (ofV (0, partsS s 0, 0, 3))) rfl rfl rfl rfl rfl (by exact ofV_len (partsS_len _ _)) rfl (ofV_one _) rfl ?_
                            all_goals refine HL_nil ?_
                            all_goals (
                              refine HQ_then ?_
                              refine hK18 _ _ _ _ ?_; clear hK18 K18
                              refine HC_ret ?_
                              refine HQ_thenR ?_; clear hK15 K15
                              first
                                | (refine HQ_post rfl rfl (.cons (res_cellA (vs := (ofV (1, partsS s 3, (leV (s.drop 128)), 0))) rfl (known_L (k := 2) rfl) rfl (by rw [ofV_len (partsS_len _ _)]; rfl)) .nil) (fun w1 hs1 => ?_)
                                   exact ⟨by rw [getR_1 h (by omega)]; rfl, hs1.keep⟩)
                                | (refine HQ_post rfl rfl (.cons (res_cellA (vs := (ofV (0, partsS s 0, 0, 3))) rfl (known_L (k := 1) rfl) rfl (by rw [ofV_len (partsS_len _ _)]; rfl)) .nil) (fun w1 hs1 => ?_)
                                   exact ⟨by rw [getR_lo' (m := 1) (by omega) h (by decide) (by omega)]; rfl, hs1.keep⟩)
                                | (refine HQ_post rfl rfl (.cons (res_cellA (vs := (ofV (0, partsS s 0, 0, 4))) rfl (known_L (k := 1) rfl) rfl (by rw [ofV_len (partsS_len _ _)]; rfl)) .nil) (fun w1 hs1 => ?_)
                                   exact ⟨by rw [getR_hi' (m := 1) (by omega) h (by decide) (by omega)]; rfl, hs1.keep⟩)
                                | (refine HQ_post rfl rfl (.cons (res_cellA (vs := (ofV (0, partsS s 0, 0, 3))) rfl (known_L (k := 0) rfl) rfl (by rw [ofV_len (partsS_len _ _)]; rfl)) .nil) (fun w1 hs1 => ?_)
                                   exact ⟨by rw [getR_short (by omega)]; rfl, hs1.keep⟩)
                              skip)
                            skip)
                        · try exact Bool.noConfusion h17
                          all_goals try simp only [decide_eq_true_eq, decide_eq_false_iff_not, beq_iff_eq, beq_eq_false_iff_ne, bne_iff_ne, bne_eq_false_iff_eq, Bool.not_eq_true', Bool.not_eq_false', ne_eq, Int.not_lt, Int.not_le, ge_iff_le, gt_iff_lt] at h17
                          all_goals (
                            refine HC_skip ?_
                            refine HQ_then ?_
                            refine hK15 _ _ _ _ ?_; clear hK15 K15
                            refine HC_seq fun K19 hK19 => ?_
                            refine HC_seq fun K20 hK20 => ?_
                            refine HC_region ?_
                            all_goals refine HL_r rfl rfl rfl rfl (R_move rfl) ?_
                            all_goals first
                              | (refine HL_r rfl rfl rfl rfl (R_lenBs rfl rfl) ?_)
                              | (refine HL_r rfl rfl rfl rfl (R_lenSl rfl rfl) ?_)
                              | (refine HL_r rfl rfl rfl rfl (R_lenStr rfl rfl rfl) ?_)
                              | (refine HL_r rfl rfl rfl rfl (R_pure rfl rfl rfl) ?_)
                            all_goals refine HL_r rfl rfl rfl rfl (R_move rfl) ?_
                            all_goals refine HL_r rfl rfl rfl rfl (R_pure rfl rfl rfl) ?_
                            all_goals refine HL_nil ?_
                            all_goals (
                              refine HQ_then ?_
                              refine hK20 _ _ _ _ ?_; clear hK20 K20
                              refine HC_cond rfl (fun h21 => ?_) (fun h21 => ?_)
                              · try exact Bool.noConfusion h21
                                all_goals try simp only [decide_eq_true_eq, decide_eq_false_iff_not, beq_iff_eq, beq_eq_false_iff_ne, bne_iff_ne, bne_eq_false_iff_eq, Bool.not_eq_true', Bool.not_eq_false', ne_eq, Int.not_lt, Int.not_le, ge_iff_le, gt_iff_lt] at h21
                                all_goals (
                                  refine HC_seq fun K22 hK22 => ?_
                                  refine HC_region ?_
                                  all_goals refine HL_r rfl rfl rfl rfl (R_build (r := [_, _, _, _, _, _]) rfl rfl) ?_
                                  all_goals refine HL_storeArr (k := 1) (n := 6) (ys := (ofV (0, partsS s 0, 0, 4))) rfl rfl rfl rfl rfl (by exact ofV_len (partsS_len _ _)) rfl (ofV_one _) rfl ?_
                                  all_goals refine HL_nil ?_
                                  all_goals (
                                    refine HQ_then ?_
                                    refine hK22 _ _ _ _ ?_; clear hK22 K22
                                    refine HC_ret ?_
                                    refine HQ_thenR ?_; clear hK19 K19
                                    first
                                      | (refine HQ_post rfl rfl (.cons (res_cellA (vs := (ofV (1, partsS s 3, (leV (s.drop 128)), 0))) rfl (known_L (k := 2) rfl) rfl (by rw [ofV_len (partsS_len _ _)]; rfl)) .nil) (fun w1 hs1 => ?_)
                                         exact ⟨by rw [getR_1 h (by omega)]; rfl, hs1.keep⟩)
                                      | (refine HQ_post rfl rfl (.cons (res_cellA (vs := (ofV (0, partsS s 0, 0, 3))) rfl (known_L (k := 1) rfl) rfl (by rw [ofV_len (partsS_len _ _)]; rfl)) .nil) (fun w1 hs1 => ?_)
                                         exact ⟨by rw [getR_lo' (m := 1) (by omega) h (by decide) (by omega)]; rfl, hs1.keep⟩)
                                      | (refine HQ_post rfl rfl (.cons (res_cellA (vs := (ofV (0, partsS s 0, 0, 4))) rfl (known_L (k := 1) rfl) rfl (by rw [ofV_len (partsS_len _ _)]; rfl)) .nil) (fun w1 hs1 => ?_)
                                         exact ⟨by rw [getR_hi' (m := 1) (by omega) h (by decide) (by omega)]; rfl, hs1.keep⟩)
                                      | (refine HQ_post rfl rfl (.cons (res_cellA (vs := (ofV (0, partsS s 0, 0, 3))) rfl (known_L (k := 0) rfl) rfl (by rw [ofV_len (partsS_len _ _)]; rfl)) .nil) (fun w1 hs1 => ?_)
                                         exact ⟨by rw [getR_short (by omega)]; rfl, hs1.keep⟩)
                                    skip)
                                  skip)
                              · try exact Bool.noConfusion h21
                                all_goals try simp only [decide_eq_true_eq, decide_eq_false_iff_not, beq_iff_eq, beq_eq_false_iff_ne, bne_iff_ne, bne_eq_false_iff_eq, Bool.not_eq_true', Bool.not_eq_false', ne_eq, Int.not_lt, Int.not_le, ge_iff_le, gt_iff_lt] at h21
                                all_goals (
                                  refine HC_skip ?_
                                  refine HQ_then ?_
                                  refine hK19 _ _ _ _ ?_; clear hK19 K19
                                  refine HC_seq fun K23 hK23 => ?_
                                  refine HC_region ?_
                                  all_goals refine HL_r rfl rfl rfl rfl (R_indexA (j := 0) rfl rfl rfl rfl rfl (by first | decide | omega) (by first | (simp only [Nat.zero_add, Nat.reduceAdd, Nat.reduceMul, Nat.zero_mul, Nat.mul_one, Nat.add_zero]; exact rfl) | exact rfl)) ?_
                                  all_goals first
                                    | (refine HL_r rfl rfl rfl rfl (R_load rfl (known_L (k := 0) rfl) rfl rfl) ?_)
                                    | (refine HL_r rfl rfl rfl rfl (R_load rfl (known_L (k := 1) rfl) rfl rfl) ?_)
                                    | (refine HL_r rfl rfl rfl rfl (R_load rfl (known_L (k := 2) rfl) rfl rfl) ?_)
                                  all_goals first
                                    | (refine HL_r rfl rfl rfl rfl (R_pure rfl rfl rfl) ?_; refine HL_wrap_i64 (by omega) (by omega) ?_)
                                    | (refine HL_r rfl rfl rfl rfl (R_pure rfl rfl rfl) ?_)
                                  all_goals refine HL_r rfl rfl rfl rfl (R_build (r := [_, _, _, _, _, _]) rfl rfl) ?_
                                  all_goals refine HL_alloc (cs := (ofV (0, partsS s 0, 0, 0)).toArray) rfl rfl rfl rfl fun r3 => ?_
                                  all_goals refine HL_storeArr (k := 0) (n := 6) (ys := (ofV (1, partsS s 0, 0, 0))) rfl rfl rfl rfl rfl (by exact ofV_len (partsS_len _ _)) rfl (ofV_one _) rfl ?_
                                  all_goals refine HL_nil ?_
                                  all_goals (
                                    refine HQ_then ?_
                                    refine hK23 _ _ _ _ ?_; clear hK23 K23
                                    refine HC_seq fun K24 hK24 => ?_
                                    refine HC_seq fun K25 hK25 => ?_
                                    refine HC_region ?_
                                    all_goals refine HL_r rfl rfl rfl rfl (R_assign rfl) ?_
                                    all_goals refine HL_nil ?_
                                    all_goals (
                                      refine HQ_then ?_
                                      refine hK25 _ _ _ _ ?_; clear hK25 K25
                                      refine HC_block ?_
                                      refine HC_loop (σ := Nat) (fun i => i ≤ 3) (fun i => [(0, .string (bs s)), (2, .pointer (some ⟨r1, 0, none⟩)), (3, .pointer (some ⟨r2, 0, none⟩)), (6, .pointer (some ⟨r3, 0, none⟩)), (7, .int .i64 (i : Int))]) (fun i => [(r3, .cells (ofV (1, partsS s i, 0, 0)).toArray 33 (0, 0)), (r2, .cells (([1, 0, 0, 0]).map uV).toArray 51 (0, 0)), (r1, .cells (ofV (0, partsS s 0, 0, 0)).toArray 33 (0, 0))]) (fun _ _ _ => True) (fun i => 3 - i) 0 (Nat.zero_le _) (.cons rfl (.cons rfl (.cons rfl (.cons rfl (.cons rfl .nil))))) (List.Sublist.refl _) (fun _ _ h => h) ?_
                                      intro i hi
                                      refine HC_seq fun K26 hK26 => ?_
                                      refine HC_seq fun K27 hK27 => ?_
                                      refine HC_region ?_
                                      all_goals refine HL_r rfl rfl rfl rfl (R_move rfl) ?_
                                      all_goals refine HL_r rfl rfl rfl rfl (R_pure rfl rfl rfl) ?_
                                      all_goals refine HL_nil ?_
                                      all_goals (
                                        refine HQ_then ?_
                                        refine hK27 _ _ _ _ ?_; clear hK27 K27
                                        refine HC_cond rfl (fun h28 => ?_) (fun h28 => ?_)
                                        · try exact Bool.noConfusion h28
                                          all_goals try simp only [decide_eq_true_eq, decide_eq_false_iff_not, beq_iff_eq, beq_eq_false_iff_ne, bne_iff_ne, bne_eq_false_iff_eq, Bool.not_eq_true', Bool.not_eq_false', ne_eq, Int.not_lt, Int.not_le, ge_iff_le, gt_iff_lt] at h28
                                          all_goals (
                                            refine HC_skip ?_
                                            refine HQ_then ?_
                                            refine hK26 _ _ _ _ ?_; clear hK26 K26
                                            refine HC_seq fun K29 hK29 => ?_
                                            refine HC_block ?_
                                            refine HC_region ?_
                                            all_goals refine HL_r rfl rfl rfl rfl (R_move rfl) ?_
                                            all_goals refine HL_r rfl rfl rfl rfl (R_move rfl) ?_
                                            all_goals refine HL_r rfl rfl rfl rfl (R_move rfl) ?_
                                            all_goals refine HL_r rfl rfl rfl rfl (R_pure rfl rfl rfl) ?_; refine HL_as (show _ = Value.int .i64 ((32 * i : Nat) : Int) from congrArg (Value.int .i64) (by rw [wrap_i64 (by omega) (by omega)]; omega)) ?_
                                            all_goals refine HL_r rfl rfl rfl rfl (R_pure rfl rfl rfl) ?_; refine HL_as (show _ = Value.int .i64 ((32 * (i + 1) : Nat) : Int) from congrArg (Value.int .i64) (by rw [wrap_i64 (by omega) (by omega)]; omega)) ?_
                                            all_goals refine HL_r rfl rfl rfl rfl (R_move rfl) ?_
                                            all_goals refine HL_r rfl rfl rfl rfl (R_pure rfl rfl rfl) ?_; refine HL_as (show _ = Value.int .i64 ((32 * i : Nat) : Int) from congrArg (Value.int .i64) (by rw [wrap_i64 (by omega) (by omega)]; omega)) ?_
                                            all_goals refine HL_r rfl rfl rfl rfl (R_pure rfl rfl rfl) ?_; refine HL_as (show _ = Value.int .i64 ((32 * (i + 2) : Nat) : Int) from congrArg (Value.int .i64) (by rw [wrap_i64 (by omega) (by omega)]; omega)) ?_
                                            all_goals refine HL_r rfl rfl rfl rfl (R_sliceBs (kl := some (.i64, ((32 * (i + 1) : Nat) : Int))) (kh := some (.i64, ((32 * (i + 2) : Nat) : Int))) (m := 32 * (i + 1)) (n := 32 * (i + 2)) rfl rfl rfl rfl rfl rfl (by omega) (by omega) (show _ = partO s i from rfl)) ?_
                                            all_goals refine HL_r rfl rfl rfl rfl (R_fieldAddr (off' := 1) rfl rfl rfl) ?_
                                            all_goals refine HL_r rfl rfl rfl rfl (R_indexA (j := i) (m := 1) (off' := 1 + i) rfl rfl rfl rfl (by omega) (by omega) (by omega)) ?_
                                            all_goals refine HL_storeAt (k := 0) (off := 1 + i) (xs := (ofV (1, partsS s i, 0, 0))) (ys := (ofV (1, partsS s (i + 1), 0, 0))) rfl rfl rfl rfl rfl rfl (by rw [ofV_len (partsS_len _ _)]; omega) (ofV_part i (by omega)) rfl ?_
                                            all_goals refine HL_nil ?_
                                            all_goals (
                                              refine HQ_blockN ?_
                                              refine HQ_then ?_
                                              refine hK29 _ _ _ _ ?_; clear hK29 K29
                                              refine HC_region ?_
                                              all_goals refine HL_r rfl rfl rfl rfl (R_move rfl) ?_
                                              all_goals first
                                                | (refine HL_r rfl rfl rfl rfl (R_pure rfl rfl rfl) ?_; refine HL_wrap_i64 (by omega) (by omega) ?_)
                                                | (refine HL_r rfl rfl rfl rfl (R_pure rfl rfl rfl) ?_)
                                              all_goals refine HL_r rfl rfl rfl rfl (R_assign rfl) ?_
                                              all_goals refine HL_nil ?_
                                              all_goals (
                                                refine HQ_then ?_
                                                exact HQ_again (i + 1) (by omega) (by omega) (.cons rfl (.cons rfl (.cons rfl (.cons rfl (.cons rfl .nil))))) (List.Sublist.refl _) (fun _ _ h => h)
                                                skip)
                                              skip)
                                            skip)
                                        · try exact Bool.noConfusion h28
                                          all_goals try simp only [decide_eq_true_eq, decide_eq_false_iff_not, beq_iff_eq, beq_eq_false_iff_ne, bne_iff_ne, bne_eq_false_iff_eq, Bool.not_eq_true', Bool.not_eq_false', ne_eq, Int.not_lt, Int.not_le, ge_iff_le, gt_iff_lt] at h28
                                          all_goals (
                                            refine HC_exit ?_
                                            refine HQ_thenE ?_; clear hK26 K26
                                            refine HQ_thenE ?_
                                            refine HQ_blockE ?_
                                            refine HQ_then ?_
                                            refine hK24 _ _ _ _ ?_; clear hK24 K24
                                            refine HC_seq fun K30 hK30 => ?_
                                            refine HC_seq fun K31 hK31 => ?_
                                            have hi3 : 3 = i := by omega
                                            subst hi3
                                            refine HC_region ?_
                                            all_goals refine HL_r rfl rfl rfl rfl (R_indexA (j := 0) rfl rfl rfl rfl rfl (by first | decide | omega) (by first | (simp only [Nat.zero_add, Nat.reduceAdd, Nat.reduceMul, Nat.zero_mul, Nat.mul_one, Nat.add_zero]; exact rfl) | exact rfl)) ?_
                                            all_goals first
                                              | (refine HL_r rfl rfl rfl rfl (R_load rfl (known_L (k := 0) rfl) rfl rfl) ?_)
                                              | (refine HL_r rfl rfl rfl rfl (R_load rfl (known_L (k := 1) rfl) rfl rfl) ?_)
                                              | (refine HL_r rfl rfl rfl rfl (R_load rfl (known_L (k := 2) rfl) rfl rfl) ?_)
                                            all_goals refine HL_r rfl rfl rfl rfl (R_pure rfl rfl rfl) ?_
                                            all_goals refine HL_nil ?_
                                            all_goals (
                                              refine HQ_then ?_
                                              refine hK31 _ _ _ _ ?_; clear hK31 K31
                                              refine HC_cond rfl (fun h32 => ?_) (fun h32 => ?_)
                                              · try exact Bool.noConfusion h32
                                                all_goals try simp only [decide_eq_true_eq, decide_eq_false_iff_not, beq_iff_eq, beq_eq_false_iff_ne, bne_iff_ne, bne_eq_false_iff_eq, Bool.not_eq_true', Bool.not_eq_false', ne_eq, Int.not_lt, Int.not_le, ge_iff_le, gt_iff_lt] at h32
                                                all_goals (
                                                  refine HC_region ?_
                                                  all_goals refine HL_r rfl rfl rfl rfl (R_move rfl) ?_
                                                  all_goals refine HL_r rfl rfl rfl rfl (R_sliceBs (kl := some (.i64, 128)) (kh := none) (m := 128) (n := s.length) rfl rfl rfl rfl rfl rfl (by omega) (by omega) (show _ = s.drop 128 from by rw [List.take_length])) ?_
                                                  all_goals refine HL_callP rfl rfl rfl (enters_of Tryd.func39 (by kernel_rfl) rfl) (P_ref_Unle (s.drop 128)) ?_; refine HL_as (congrArg resN (unle8 (by omega))) ?_
                                                  all_goals refine HL_r rfl rfl rfl rfl (R_move rfl) ?_
                                                  all_goals refine HL_r rfl rfl rfl rfl (R_extract rfl rfl) ?_
                                                  all_goals refine HL_r rfl rfl rfl rfl (R_extract rfl rfl) ?_
                                                  all_goals refine HL_r rfl rfl rfl rfl (R_fieldAddr (off' := 4) rfl rfl rfl) ?_
                                                  all_goals refine HL_storeAt (k := 0) (off := 4) (xs := (ofV (1, partsS s 3, 0, 0))) (ys := (ofV (1, partsS s 3, (leV (s.drop 128)), 0))) rfl rfl rfl rfl rfl rfl (by rw [ofV_len (partsS_len _ _)]; omega) (ofV_num (partsS_len _ _)) rfl ?_
                                                  all_goals refine HL_nil ?_
                                                  all_goals (
                                                    refine HQ_then ?_
                                                    refine hK30 _ _ _ _ ?_; clear hK30 K30
                                                    refine HC_seq fun K33 hK33 => ?_
                                                    refine HC_region ?_
                                                    all_goals refine HL_r rfl rfl rfl rfl (R_loadArr (xs := (ofV (1, partsS s 3, (leV (s.drop 128)), 0))) (n := 6) rfl (known_L (k := 0) rfl) rfl rfl (by exact ofV_len (partsS_len _ _))) ?_
                                                    all_goals refine HL_storeArr (k := 2) (n := 6) (ys := (ofV (1, partsS s 3, (leV (s.drop 128)), 0))) rfl rfl rfl rfl rfl (by exact ofV_len (partsS_len _ _)) rfl (ofV_one _) rfl ?_
                                                    all_goals refine HL_nil ?_
                                                    all_goals (
                                                      refine HQ_then ?_
                                                      refine hK33 _ _ _ _ ?_; clear hK33 K33
                                                      refine HC_ret ?_
                                                      first
                                                        | (refine HQ_post rfl rfl (.cons (res_cellA (vs := (ofV (1, partsS s 3, (leV (s.drop 128)), 0))) rfl (known_L (k := 2) rfl) rfl (by rw [ofV_len (partsS_len _ _)]; rfl)) .nil) (fun w1 hs1 => ?_)
                                                           exact ⟨by rw [getR_1 h (by omega)]; rfl, hs1.keep⟩)
                                                        | (refine HQ_post rfl rfl (.cons (res_cellA (vs := (ofV (0, partsS s 0, 0, 3))) rfl (known_L (k := 1) rfl) rfl (by rw [ofV_len (partsS_len _ _)]; rfl)) .nil) (fun w1 hs1 => ?_)
                                                           exact ⟨by rw [getR_lo' (m := 1) (by omega) h (by decide) (by omega)]; rfl, hs1.keep⟩)
                                                        | (refine HQ_post rfl rfl (.cons (res_cellA (vs := (ofV (0, partsS s 0, 0, 4))) rfl (known_L (k := 1) rfl) rfl (by rw [ofV_len (partsS_len _ _)]; rfl)) .nil) (fun w1 hs1 => ?_)
                                                           exact ⟨by rw [getR_hi' (m := 1) (by omega) h (by decide) (by omega)]; rfl, hs1.keep⟩)
                                                        | (refine HQ_post rfl rfl (.cons (res_cellA (vs := (ofV (0, partsS s 0, 0, 3))) rfl (known_L (k := 0) rfl) rfl (by rw [ofV_len (partsS_len _ _)]; rfl)) .nil) (fun w1 hs1 => ?_)
                                                           exact ⟨by rw [getR_short (by omega)]; rfl, hs1.keep⟩)
                                                      skip)
                                                    skip)
                                                  skip)
                                              · try exact Bool.noConfusion h32
                                                all_goals try simp only [decide_eq_true_eq, decide_eq_false_iff_not, beq_iff_eq, beq_eq_false_iff_ne, bne_iff_ne, bne_eq_false_iff_eq, Bool.not_eq_true', Bool.not_eq_false', ne_eq, Int.not_lt, Int.not_le, ge_iff_le, gt_iff_lt] at h32
                                                all_goals (
                                                  refine HC_skip ?_
                                                  refine HQ_then ?_
                                                  refine hK30 _ _ _ _ ?_; clear hK30 K30
                                                  refine HC_seq fun K34 hK34 => ?_
                                                  refine HC_region ?_
                                                  all_goals refine HL_r rfl rfl rfl rfl (R_loadArr (xs := (ofV (1, partsS s 3, (leV (s.drop 128)), 0))) (n := 6) rfl (known_L (k := 0) rfl) rfl rfl (by exact ofV_len (partsS_len _ _))) ?_
                                                  all_goals refine HL_storeArr (k := 2) (n := 6) (ys := (ofV (1, partsS s 3, (leV (s.drop 128)), 0))) rfl rfl rfl rfl rfl (by exact ofV_len (partsS_len _ _)) rfl (ofV_one _) rfl ?_
                                                  all_goals refine HL_nil ?_
                                                  all_goals (
                                                    refine HQ_then ?_
                                                    refine hK34 _ _ _ _ ?_; clear hK34 K34
                                                    refine HC_ret ?_
                                                    first
                                                      | (refine HQ_post rfl rfl (.cons (res_cellA (vs := (ofV (1, partsS s 3, (leV (s.drop 128)), 0))) rfl (known_L (k := 2) rfl) rfl (by rw [ofV_len (partsS_len _ _)]; rfl)) .nil) (fun w1 hs1 => ?_)
                                                         exact ⟨by rw [getR_1 h (by omega)]; rfl, hs1.keep⟩)
                                                      | (refine HQ_post rfl rfl (.cons (res_cellA (vs := (ofV (0, partsS s 0, 0, 3))) rfl (known_L (k := 1) rfl) rfl (by rw [ofV_len (partsS_len _ _)]; rfl)) .nil) (fun w1 hs1 => ?_)
                                                         exact ⟨by rw [getR_lo' (m := 1) (by omega) h (by decide) (by omega)]; rfl, hs1.keep⟩)
                                                      | (refine HQ_post rfl rfl (.cons (res_cellA (vs := (ofV (0, partsS s 0, 0, 4))) rfl (known_L (k := 1) rfl) rfl (by rw [ofV_len (partsS_len _ _)]; rfl)) .nil) (fun w1 hs1 => ?_)
                                                         exact ⟨by rw [getR_hi' (m := 1) (by omega) h (by decide) (by omega)]; rfl, hs1.keep⟩)
                                                      | (refine HQ_post rfl rfl (.cons (res_cellA (vs := (ofV (0, partsS s 0, 0, 3))) rfl (known_L (k := 0) rfl) rfl (by rw [ofV_len (partsS_len _ _)]; rfl)) .nil) (fun w1 hs1 => ?_)
                                                         exact ⟨by rw [getR_short (by omega)]; rfl, hs1.keep⟩)
                                                    skip)
                                                  skip)
                                              skip)
                                            skip)
                                        skip)
                                      skip)
                                    skip)
                                  skip)
                              skip)
                            skip)
                        skip)
                      skip)
                    skip)
                skip)
              skip)
            skip)
        skip)
      skip)
  · have ne0 : wO s ≠ [0, 0, 0, 0] := fun e => h (by rw [e]; exact ⟨small_of _, by decide⟩)
    have ne1 : wO s ≠ [1, 0, 0, 0] := fun e => h (by rw [e]; exact ⟨small_of _, by decide⟩)
    refine HC_seq fun K1 hK1 => ?_
    refine HC_region ?_
    all_goals refine HL_alloc (cs := (ofV (0, partsS s 0, 0, 0)).toArray) rfl rfl rfl rfl fun r1 => ?_
    all_goals refine HL_nil ?_
    all_goals (
      refine HQ_then ?_
      refine hK1 _ _ _ _ ?_; clear hK1 K1
      refine HC_seq fun K2 hK2 => ?_
      refine HC_seq fun K3 hK3 => ?_
      refine HC_region ?_
      all_goals refine HL_r rfl rfl rfl rfl (R_move rfl) ?_
      all_goals first
        | (refine HL_r rfl rfl rfl rfl (R_lenBs rfl rfl) ?_)
        | (refine HL_r rfl rfl rfl rfl (R_lenSl rfl rfl) ?_)
        | (refine HL_r rfl rfl rfl rfl (R_lenStr rfl rfl rfl) ?_)
        | (refine HL_r rfl rfl rfl rfl (R_pure rfl rfl rfl) ?_)
      all_goals refine HL_r rfl rfl rfl rfl (R_pure rfl rfl rfl) ?_
      all_goals refine HL_nil ?_
      all_goals (
        refine HQ_then ?_
        refine hK3 _ _ _ _ ?_; clear hK3 K3
        refine HC_cond rfl (fun h4 => ?_) (fun h4 => ?_)
        · try exact Bool.noConfusion h4
          all_goals try simp only [decide_eq_true_eq, decide_eq_false_iff_not, beq_iff_eq, beq_eq_false_iff_ne, bne_iff_ne, bne_eq_false_iff_eq, Bool.not_eq_true', Bool.not_eq_false', ne_eq, Int.not_lt, Int.not_le, ge_iff_le, gt_iff_lt] at h4
          all_goals (
            refine HC_seq fun K5 hK5 => ?_
            refine HC_region ?_
            all_goals refine HL_r rfl rfl rfl rfl (R_build (r := [_, _, _, _, _, _]) rfl rfl) ?_
            all_goals refine HL_storeArr (k := 0) (n := 6) (ys := (ofV (0, partsS s 0, 0, 3))) rfl rfl rfl rfl rfl (by exact ofV_len (partsS_len _ _)) rfl (ofV_one _) rfl ?_
            all_goals refine HL_nil ?_
            all_goals (
              refine HQ_then ?_
              refine hK5 _ _ _ _ ?_; clear hK5 K5
              refine HC_ret ?_
              refine HQ_thenR ?_; clear hK2 K2
              first
                | (refine HQ_post rfl rfl (.cons (res_cellA (vs := (ofV (0, partsS s 0, 0, 9))) rfl (known_L (k := 1) rfl) rfl (by rw [ofV_len (partsS_len _ _)]; rfl)) .nil) (fun w1 hs1 => ?_)
                   exact ⟨by rw [getR_kind (by omega) h]; rfl, hs1.keep⟩)
                | (refine HQ_post rfl rfl (.cons (res_cellA (vs := (ofV (0, partsS s 0, 0, 3))) rfl (known_L (k := 0) rfl) rfl (by rw [ofV_len (partsS_len _ _)]; rfl)) .nil) (fun w1 hs1 => ?_)
                   exact ⟨by rw [getR_short (by omega)]; rfl, hs1.keep⟩)
              skip)
            skip)
        · try exact Bool.noConfusion h4
          all_goals try simp only [decide_eq_true_eq, decide_eq_false_iff_not, beq_iff_eq, beq_eq_false_iff_ne, bne_iff_ne, bne_eq_false_iff_eq, Bool.not_eq_true', Bool.not_eq_false', ne_eq, Int.not_lt, Int.not_le, ge_iff_le, gt_iff_lt] at h4
          all_goals (
            refine HC_skip ?_
            refine HQ_then ?_
            refine hK2 _ _ _ _ ?_; clear hK2 K2
            refine HC_seq fun K6 hK6 => ?_
            refine HC_region ?_
            all_goals refine HL_r rfl rfl rfl rfl (R_move rfl) ?_
            all_goals refine HL_r rfl rfl rfl rfl (R_sliceBs (kl := none) (kh := some (.i64, 32)) (m := 0) (n := 32) rfl rfl rfl rfl rfl rfl (by omega) (by omega) (show _ = s.take 32 from by simp)) ?_
            all_goals refine HL_callP rfl rfl rfl (enters_of Tryd.func38 (by kernel_rfl) rfl) (P_ref_Unfixed (s.take 32)) ?_; refine HL_as (congrArg resW ((unf_take (by omega)).trans (congrArg (fun w => (w, (0 : Int))) rfl))) ?_
            all_goals refine HL_r rfl rfl rfl rfl (R_move rfl) ?_
            all_goals refine HL_r rfl rfl rfl rfl (R_extract rfl rfl) ?_
            all_goals refine HL_r rfl rfl rfl rfl (R_extract rfl rfl) ?_
            all_goals refine HL_alloc (cs := (zW.map uV).toArray) rfl rfl rfl rfl fun r2 => ?_
            all_goals refine HL_storeArr (k := 0) (n := 4) (ys := (wO s).map uV) rfl rfl rfl rfl rfl (by first | rfl | (rw [List.length_map]; exact hwl)) rfl (mapU_one _) rfl ?_
            all_goals refine HL_r rfl rfl rfl rfl (R_assign rfl) ?_
            all_goals refine HL_nil ?_
            all_goals (
              refine HQ_then ?_
              refine hK6 _ _ _ _ ?_; clear hK6 K6
              refine HC_seq fun K7 hK7 => ?_
              refine HC_seq fun K8 hK8 => ?_
              refine HC_region ?_
              all_goals first
                | (refine HL_r rfl rfl rfl rfl (R_loadArr (n := 4) rfl (known_L (k := 0) rfl) rfl rfl (by first | rfl | (rw [List.length_map]; exact hwl) | (with_reducible exact ofV_len (partsS_len _ _)))) ?_)
                | (refine HL_r rfl rfl rfl rfl (R_loadArr (n := 4) rfl (known_L (k := 1) rfl) rfl rfl (by first | rfl | (rw [List.length_map]; exact hwl) | (with_reducible exact ofV_len (partsS_len _ _)))) ?_)
                | (refine HL_r rfl rfl rfl rfl (R_loadArr (n := 4) rfl (known_L (k := 2) rfl) rfl rfl (by first | rfl | (rw [List.length_map]; exact hwl) | (with_reducible exact ofV_len (partsS_len _ _)))) ?_)
              all_goals refine HL_r rfl rfl rfl rfl (R_build (r := [_, _, _, _]) rfl rfl) ?_
              all_goals refine HL_r rfl rfl rfl rfl (R_neArr rfl rfl rfl rfl rfl (by kernel_rfl) (by first | rfl | (rw [List.length_map]; exact hwl) | (with_reducible exact ofV_len (partsS_len _ _))) (by first | rfl | (rw [List.length_map]; exact hwl) | (with_reducible exact ofV_len (partsS_len _ _))) (by first | exact scal_mapU rfl _ | rfl) (by first | exact scal_mapU rfl _ | rfl)) ?_
              all_goals first
                | (refine HL_as (show _ = Value.bool true from bool_eq' (by show (!eqCells ((wO s).map uV) ([0, 0, 0, 0].map uV)) = true; rw [eqU_false (q := [0, 0, 0, 0]) hwl ne0]; rfl)) ?_)
                | (refine HL_as (show _ = Value.bool false from bool_eq' (by show (!eqCells ((wO s).map uV) ([0, 0, 0, 0].map uV)) = true; rw [eqU_false (q := [0, 0, 0, 0]) hwl ne0]; rfl)) ?_)
                | skip
              all_goals refine HL_r rfl rfl rfl rfl (R_move rfl) ?_
              all_goals first
                | (refine HL_r rfl rfl rfl rfl (R_loadArr (n := 4) rfl (known_L (k := 0) rfl) rfl rfl (by first | rfl | (rw [List.length_map]; exact hwl) | (with_reducible exact ofV_len (partsS_len _ _)))) ?_)
                | (refine HL_r rfl rfl rfl rfl (R_loadArr (n := 4) rfl (known_L (k := 1) rfl) rfl rfl (by first | rfl | (rw [List.length_map]; exact hwl) | (with_reducible exact ofV_len (partsS_len _ _)))) ?_)
                | (refine HL_r rfl rfl rfl rfl (R_loadArr (n := 4) rfl (known_L (k := 2) rfl) rfl rfl (by first | rfl | (rw [List.length_map]; exact hwl) | (with_reducible exact ofV_len (partsS_len _ _)))) ?_)
                | (refine HL_skip rfl rfl rfl ?_)
                | (refine HL_case 21 rfl (fun hb9 => ?_) (fun hb9 => ?_) <;> (try simp only [decide_eq_true_eq, decide_eq_false_iff_not, beq_iff_eq, beq_eq_false_iff_ne, bne_iff_ne, bne_eq_false_iff_eq, Bool.not_eq_true', Bool.not_eq_false', ne_eq, Int.not_lt, Int.not_le, ge_iff_le, gt_iff_lt] at hb9) <;> first | (refine HL_r rfl rfl rfl rfl (R_loadArr (n := 4) rfl (known_L (k := 0) rfl) rfl rfl (by first | rfl | (rw [List.length_map]; exact hwl) | (with_reducible exact ofV_len (partsS_len _ _)))) ?_) | (refine HL_r rfl rfl rfl rfl (R_loadArr (n := 4) rfl (known_L (k := 1) rfl) rfl rfl (by first | rfl | (rw [List.length_map]; exact hwl) | (with_reducible exact ofV_len (partsS_len _ _)))) ?_) | (refine HL_r rfl rfl rfl rfl (R_loadArr (n := 4) rfl (known_L (k := 2) rfl) rfl rfl (by first | rfl | (rw [List.length_map]; exact hwl) | (with_reducible exact ofV_len (partsS_len _ _)))) ?_) | (refine HL_skip rfl rfl rfl ?_))
              all_goals first
                | (refine HL_r rfl rfl rfl rfl (R_build (r := [_, _, _, _]) rfl rfl) ?_)
                | (refine HL_skip rfl rfl rfl ?_)
                | (refine HL_case 21 rfl (fun hb10 => ?_) (fun hb10 => ?_) <;> (try simp only [decide_eq_true_eq, decide_eq_false_iff_not, beq_iff_eq, beq_eq_false_iff_ne, bne_iff_ne, bne_eq_false_iff_eq, Bool.not_eq_true', Bool.not_eq_false', ne_eq, Int.not_lt, Int.not_le, ge_iff_le, gt_iff_lt] at hb10) <;> first | (refine HL_r rfl rfl rfl rfl (R_build (r := [_, _, _, _]) rfl rfl) ?_) | (refine HL_skip rfl rfl rfl ?_))
              all_goals first
                | (refine HL_r rfl rfl rfl rfl (R_neArr rfl rfl rfl rfl rfl (by kernel_rfl) (by first | rfl | (rw [List.length_map]; exact hwl) | (with_reducible exact ofV_len (partsS_len _ _))) (by first | rfl | (rw [List.length_map]; exact hwl) | (with_reducible exact ofV_len (partsS_len _ _))) (by first | exact scal_mapU rfl _ | rfl) (by first | exact scal_mapU rfl _ | rfl)) ?_)
                | (refine HL_skip rfl rfl rfl ?_)
                | (refine HL_case 21 rfl (fun hb11 => ?_) (fun hb11 => ?_) <;> (try simp only [decide_eq_true_eq, decide_eq_false_iff_not, beq_iff_eq, beq_eq_false_iff_ne, bne_iff_ne, bne_eq_false_iff_eq, Bool.not_eq_true', Bool.not_eq_false', ne_eq, Int.not_lt, Int.not_le, ge_iff_le, gt_iff_lt] at hb11) <;> first | (refine HL_r rfl rfl rfl rfl (R_neArr rfl rfl rfl rfl rfl (by kernel_rfl) (by first | rfl | (rw [List.length_map]; exact hwl) | (with_reducible exact ofV_len (partsS_len _ _))) (by first | rfl | (rw [List.length_map]; exact hwl) | (with_reducible exact ofV_len (partsS_len _ _))) (by first | exact scal_mapU rfl _ | rfl) (by first | exact scal_mapU rfl _ | rfl)) ?_) | (refine HL_skip rfl rfl rfl ?_))
              all_goals first
                | (refine HL_as (show _ = Value.bool true from bool_eq' (by show (!eqCells ((wO s).map uV) ([1, 0, 0, 0].map uV)) = true; rw [eqU_false (q := [1, 0, 0, 0]) hwl ne1]; rfl)) ?_)
                | (refine HL_as (show _ = Value.bool false from bool_eq' (by show (!eqCells ((wO s).map uV) ([1, 0, 0, 0].map uV)) = true; rw [eqU_false (q := [1, 0, 0, 0]) hwl ne1]; rfl)) ?_)
                | skip
              all_goals first
                | (refine HL_r rfl rfl rfl rfl (R_pickT rfl rfl) ?_)
                | (refine HL_r rfl rfl rfl rfl (R_pickF rfl rfl) ?_)
              all_goals refine HL_nil ?_
              all_goals (
                refine HQ_then ?_
                refine hK8 _ _ _ _ ?_; clear hK8 K8
                refine HC_cond rfl (fun h12 => ?_) (fun h12 => ?_)
                · try exact Bool.noConfusion h12
                  all_goals try simp only [decide_eq_true_eq, decide_eq_false_iff_not, beq_iff_eq, beq_eq_false_iff_ne, bne_iff_ne, bne_eq_false_iff_eq, Bool.not_eq_true', Bool.not_eq_false', ne_eq, Int.not_lt, Int.not_le, ge_iff_le, gt_iff_lt] at h12
                  all_goals (
                    refine HC_seq fun K13 hK13 => ?_
                    refine HC_region ?_
                    all_goals refine HL_r rfl rfl rfl rfl (R_build (r := [_, _, _, _, _, _]) rfl rfl) ?_
                    all_goals refine HL_storeArr (k := 1) (n := 6) (ys := (ofV (0, partsS s 0, 0, 9))) rfl rfl rfl rfl rfl (by exact ofV_len (partsS_len _ _)) rfl (ofV_one _) rfl ?_
                    all_goals refine HL_nil ?_
                    all_goals (
                      refine HQ_then ?_
                      refine hK13 _ _ _ _ ?_; clear hK13 K13
                      refine HC_ret ?_
                      refine HQ_thenR ?_; clear hK7 K7
                      first
                        | (refine HQ_post rfl rfl (.cons (res_cellA (vs := (ofV (0, partsS s 0, 0, 9))) rfl (known_L (k := 1) rfl) rfl (by rw [ofV_len (partsS_len _ _)]; rfl)) .nil) (fun w1 hs1 => ?_)
                           exact ⟨by rw [getR_kind (by omega) h]; rfl, hs1.keep⟩)
                        | (refine HQ_post rfl rfl (.cons (res_cellA (vs := (ofV (0, partsS s 0, 0, 3))) rfl (known_L (k := 0) rfl) rfl (by rw [ofV_len (partsS_len _ _)]; rfl)) .nil) (fun w1 hs1 => ?_)
                           exact ⟨by rw [getR_short (by omega)]; rfl, hs1.keep⟩)
                      skip)
                    skip)
                · try exact Bool.noConfusion h12
                  all_goals try simp only [decide_eq_true_eq, decide_eq_false_iff_not, beq_iff_eq, beq_eq_false_iff_ne, bne_iff_ne, bne_eq_false_iff_eq, Bool.not_eq_true', Bool.not_eq_false', ne_eq, Int.not_lt, Int.not_le, ge_iff_le, gt_iff_lt] at h12
                  all_goals (
                    refine HC_skip ?_
                    refine HQ_then ?_
                    refine hK7 _ _ _ _ ?_; clear hK7 K7
                    refine HC_seq fun K14 hK14 => ?_
                    refine HC_region ?_
                    all_goals refine HL_r rfl rfl rfl rfl (R_indexA (j := 0) rfl rfl rfl rfl rfl (by first | decide | omega) (by first | (simp only [Nat.zero_add, Nat.reduceAdd, Nat.reduceMul, Nat.zero_mul, Nat.mul_one, Nat.add_zero]; exact rfl) | exact rfl)) ?_
                    all_goals first
                      | (refine HL_r rfl rfl rfl rfl (R_load rfl (known_L (k := 0) rfl) rfl rfl) ?_)
                      | (refine HL_r rfl rfl rfl rfl (R_load rfl (known_L (k := 1) rfl) rfl rfl) ?_)
                      | (refine HL_r rfl rfl rfl rfl (R_load rfl (known_L (k := 2) rfl) rfl rfl) ?_)
                    all_goals first
                      | (refine HL_r rfl rfl rfl rfl (R_pure rfl rfl rfl) ?_; refine HL_wrap_i64 (by omega) (by omega) ?_)
                      | (refine HL_r rfl rfl rfl rfl (R_pure rfl rfl rfl) ?_)
                    all_goals first
                      | (refine HL_r rfl rfl rfl rfl (R_pure rfl rfl rfl) ?_; refine HL_wrap_i64 (by omega) (by omega) ?_)
                      | (refine HL_r rfl rfl rfl rfl (R_pure rfl rfl rfl) ?_)
                    all_goals first
                      | (refine HL_r rfl rfl rfl rfl (R_pure rfl rfl rfl) ?_; refine HL_wrap_i64 (by omega) (by omega) ?_)
                      | (refine HL_r rfl rfl rfl rfl (R_pure rfl rfl rfl) ?_)
                    all_goals refine HL_r rfl rfl rfl rfl (R_assign rfl) ?_
                    all_goals refine HL_nil ?_
                    all_goals (
                      refine HQ_then ?_
                      refine hK14 _ _ _ _ ?_; clear hK14 K14
                      refine HC_seq fun K15 hK15 => ?_
                      refine HC_seq fun K16 hK16 => ?_
                      refine HC_region ?_
                      all_goals refine HL_r rfl rfl rfl rfl (R_move rfl) ?_
                      all_goals first
                        | (refine HL_r rfl rfl rfl rfl (R_lenBs rfl rfl) ?_)
                        | (refine HL_r rfl rfl rfl rfl (R_lenSl rfl rfl) ?_)
                        | (refine HL_r rfl rfl rfl rfl (R_lenStr rfl rfl rfl) ?_)
                        | (refine HL_r rfl rfl rfl rfl (R_pure rfl rfl rfl) ?_)
                      all_goals refine HL_r rfl rfl rfl rfl (R_move rfl) ?_
                      all_goals refine HL_r rfl rfl rfl rfl (R_pure rfl rfl rfl) ?_
                      all_goals refine HL_nil ?_
                      all_goals (
                        refine HQ_then ?_
                        refine hK16 _ _ _ _ ?_; clear hK16 K16
                        refine HC_cond rfl (fun h17 => ?_) (fun h17 => ?_)
                        · try exact Bool.noConfusion h17
                          all_goals try simp only [decide_eq_true_eq, decide_eq_false_iff_not, beq_iff_eq, beq_eq_false_iff_ne, bne_iff_ne, bne_eq_false_iff_eq, Bool.not_eq_true', Bool.not_eq_false', ne_eq, Int.not_lt, Int.not_le, ge_iff_le, gt_iff_lt] at h17
                          all_goals (
                            refine HC_seq fun K18 hK18 => ?_
                            refine HC_region ?_
                            all_goals refine HL_r rfl rfl rfl rfl (R_build (r := [_, _, _, _, _, _]) rfl rfl) ?_
                            all_goals refine HL_storeArr (k := 1) (n := 6) (ys := (ofV (0, partsS s 0, 0, 3))) rfl rfl rfl rfl rfl (by exact ofV_len (partsS_len _ _)) rfl (ofV_one _) rfl ?_
                            all_goals refine HL_nil ?_
                            all_goals (
                              refine HQ_then ?_
                              refine hK18 _ _ _ _ ?_; clear hK18 K18
                              refine HC_ret ?_
                              refine HQ_thenR ?_; clear hK15 K15
                              first
                                | (refine HQ_post rfl rfl (.cons (res_cellA (vs := (ofV (0, partsS s 0, 0, 9))) rfl (known_L (k := 1) rfl) rfl (by rw [ofV_len (partsS_len _ _)]; rfl)) .nil) (fun w1 hs1 => ?_)
                                   exact ⟨by rw [getR_kind (by omega) h]; rfl, hs1.keep⟩)
                                | (refine HQ_post rfl rfl (.cons (res_cellA (vs := (ofV (0, partsS s 0, 0, 3))) rfl (known_L (k := 0) rfl) rfl (by rw [ofV_len (partsS_len _ _)]; rfl)) .nil) (fun w1 hs1 => ?_)
                                   exact ⟨by rw [getR_short (by omega)]; rfl, hs1.keep⟩)
                              skip)
                            skip)
                        · try exact Bool.noConfusion h17
                          all_goals try simp only [decide_eq_true_eq, decide_eq_false_iff_not, beq_iff_eq, beq_eq_false_iff_ne, bne_iff_ne, bne_eq_false_iff_eq, Bool.not_eq_true', Bool.not_eq_false', ne_eq, Int.not_lt, Int.not_le, ge_iff_le, gt_iff_lt] at h17
                          all_goals (
                            refine HC_skip ?_
                            refine HQ_then ?_
                            refine hK15 _ _ _ _ ?_; clear hK15 K15
                            refine HC_seq fun K19 hK19 => ?_
                            refine HC_seq fun K20 hK20 => ?_
                            refine HC_region ?_
                            all_goals refine HL_r rfl rfl rfl rfl (R_move rfl) ?_
                            all_goals first
                              | (refine HL_r rfl rfl rfl rfl (R_lenBs rfl rfl) ?_)
                              | (refine HL_r rfl rfl rfl rfl (R_lenSl rfl rfl) ?_)
                              | (refine HL_r rfl rfl rfl rfl (R_lenStr rfl rfl rfl) ?_)
                              | (refine HL_r rfl rfl rfl rfl (R_pure rfl rfl rfl) ?_)
                            all_goals refine HL_r rfl rfl rfl rfl (R_move rfl) ?_
                            all_goals refine HL_r rfl rfl rfl rfl (R_pure rfl rfl rfl) ?_
                            all_goals refine HL_nil ?_
                            all_goals (
                              refine HQ_then ?_
                              refine hK20 _ _ _ _ ?_; clear hK20 K20
                              refine HC_cond rfl (fun h21 => ?_) (fun h21 => ?_)
                              · try exact Bool.noConfusion h21
                                all_goals try simp only [decide_eq_true_eq, decide_eq_false_iff_not, beq_iff_eq, beq_eq_false_iff_ne, bne_iff_ne, bne_eq_false_iff_eq, Bool.not_eq_true', Bool.not_eq_false', ne_eq, Int.not_lt, Int.not_le, ge_iff_le, gt_iff_lt] at h21
                                all_goals (
                                  refine HC_seq fun K22 hK22 => ?_
                                  refine HC_region ?_
                                  all_goals refine HL_r rfl rfl rfl rfl (R_build (r := [_, _, _, _, _, _]) rfl rfl) ?_
                                  all_goals refine HL_storeArr (k := 1) (n := 6) (ys := (ofV (0, partsS s 0, 0, 4))) rfl rfl rfl rfl rfl (by exact ofV_len (partsS_len _ _)) rfl (ofV_one _) rfl ?_
                                  all_goals refine HL_nil ?_
                                  all_goals (
                                    refine HQ_then ?_
                                    refine hK22 _ _ _ _ ?_; clear hK22 K22
                                    refine HC_ret ?_
                                    refine HQ_thenR ?_; clear hK19 K19
                                    first
                                      | (refine HQ_post rfl rfl (.cons (res_cellA (vs := (ofV (0, partsS s 0, 0, 9))) rfl (known_L (k := 1) rfl) rfl (by rw [ofV_len (partsS_len _ _)]; rfl)) .nil) (fun w1 hs1 => ?_)
                                         exact ⟨by rw [getR_kind (by omega) h]; rfl, hs1.keep⟩)
                                      | (refine HQ_post rfl rfl (.cons (res_cellA (vs := (ofV (0, partsS s 0, 0, 3))) rfl (known_L (k := 0) rfl) rfl (by rw [ofV_len (partsS_len _ _)]; rfl)) .nil) (fun w1 hs1 => ?_)
                                         exact ⟨by rw [getR_short (by omega)]; rfl, hs1.keep⟩)
                                    skip)
                                  skip)
                              · try exact Bool.noConfusion h21
                                all_goals try simp only [decide_eq_true_eq, decide_eq_false_iff_not, beq_iff_eq, beq_eq_false_iff_ne, bne_iff_ne, bne_eq_false_iff_eq, Bool.not_eq_true', Bool.not_eq_false', ne_eq, Int.not_lt, Int.not_le, ge_iff_le, gt_iff_lt] at h21
                                all_goals (
                                  refine HC_skip ?_
                                  refine HQ_then ?_
                                  refine hK19 _ _ _ _ ?_; clear hK19 K19
                                  refine HC_seq fun K23 hK23 => ?_
                                  refine HC_region ?_
                                  all_goals refine HL_r rfl rfl rfl rfl (R_indexA (j := 0) rfl rfl rfl rfl rfl (by first | decide | omega) (by first | (simp only [Nat.zero_add, Nat.reduceAdd, Nat.reduceMul, Nat.zero_mul, Nat.mul_one, Nat.add_zero]; exact rfl) | exact rfl)) ?_
                                  all_goals first
                                    | (refine HL_r rfl rfl rfl rfl (R_load rfl (known_L (k := 0) rfl) rfl rfl) ?_)
                                    | (refine HL_r rfl rfl rfl rfl (R_load rfl (known_L (k := 1) rfl) rfl rfl) ?_)
                                    | (refine HL_r rfl rfl rfl rfl (R_load rfl (known_L (k := 2) rfl) rfl rfl) ?_)
                                  all_goals first
                                    | (refine HL_r rfl rfl rfl rfl (R_pure rfl rfl rfl) ?_; refine HL_wrap_i64 (by omega) (by omega) ?_)
                                    | (refine HL_r rfl rfl rfl rfl (R_pure rfl rfl rfl) ?_)
                                  all_goals refine HL_r rfl rfl rfl rfl (R_build (r := [_, _, _, _, _, _]) rfl rfl) ?_
                                  all_goals refine HL_alloc (cs := (ofV (0, partsS s 0, 0, 0)).toArray) rfl rfl rfl rfl fun r3 => ?_
                                  all_goals refine HL_storeArr (k := 0) (n := 6) (ys := (ofV (0, partsS s 0, 0, 0))) rfl rfl rfl rfl rfl (by exact ofV_len (partsS_len _ _)) rfl (ofV_one _) rfl ?_
                                  all_goals refine HL_nil ?_
                                  all_goals (
                                    refine HQ_then ?_
                                    refine hK23 _ _ _ _ ?_; clear hK23 K23
                                    refine HC_seq fun K24 hK24 => ?_
                                    refine HC_seq fun K25 hK25 => ?_
                                    refine HC_region ?_
                                    all_goals refine HL_r rfl rfl rfl rfl (R_assign rfl) ?_
                                    all_goals refine HL_nil ?_
                                    all_goals (
                                      refine HQ_then ?_
                                      refine hK25 _ _ _ _ ?_; clear hK25 K25
                                      refine HC_block ?_
                                      refine HC_loop (σ := Nat) (fun i => i ≤ 3) (fun i => [(0, .string (bs s)), (2, .pointer (some ⟨r1, 0, none⟩)), (3, .pointer (some ⟨r2, 0, none⟩)), (6, .pointer (some ⟨r3, 0, none⟩)), (7, .int .i64 (i : Int))]) (fun i => [(r3, .cells (ofV (0, partsS s i, 0, 0)).toArray 33 (0, 0)), (r2, .cells ((wO s).map uV).toArray 51 (0, 0)), (r1, .cells (ofV (0, partsS s 0, 0, 0)).toArray 33 (0, 0))]) (fun _ _ _ => True) (fun i => 3 - i) 0 (Nat.zero_le _) (.cons rfl (.cons rfl (.cons rfl (.cons rfl (.cons rfl .nil))))) (List.Sublist.refl _) (fun _ _ h => h) ?_
                                      intro i hi
                                      refine HC_seq fun K26 hK26 => ?_
                                      refine HC_seq fun K27 hK27 => ?_
                                      refine HC_region ?_
                                      all_goals refine HL_r rfl rfl rfl rfl (R_move rfl) ?_
                                      all_goals refine HL_r rfl rfl rfl rfl (R_pure rfl rfl rfl) ?_
                                      all_goals refine HL_nil ?_
                                      all_goals (
                                        refine HQ_then ?_
                                        refine hK27 _ _ _ _ ?_; clear hK27 K27
                                        refine HC_cond rfl (fun h28 => ?_) (fun h28 => ?_)
                                        · try exact Bool.noConfusion h28
                                          all_goals try simp only [decide_eq_true_eq, decide_eq_false_iff_not, beq_iff_eq, beq_eq_false_iff_ne, bne_iff_ne, bne_eq_false_iff_eq, Bool.not_eq_true', Bool.not_eq_false', ne_eq, Int.not_lt, Int.not_le, ge_iff_le, gt_iff_lt] at h28
                                          all_goals (
                                            refine HC_skip ?_
                                            refine HQ_then ?_
                                            refine hK26 _ _ _ _ ?_; clear hK26 K26
                                            refine HC_seq fun K29 hK29 => ?_
                                            refine HC_block ?_
                                            refine HC_region ?_
                                            all_goals refine HL_r rfl rfl rfl rfl (R_move rfl) ?_
                                            all_goals refine HL_r rfl rfl rfl rfl (R_move rfl) ?_
                                            all_goals refine HL_r rfl rfl rfl rfl (R_move rfl) ?_
                                            all_goals refine HL_r rfl rfl rfl rfl (R_pure rfl rfl rfl) ?_; refine HL_as (show _ = Value.int .i64 ((32 * i : Nat) : Int) from congrArg (Value.int .i64) (by rw [wrap_i64 (by omega) (by omega)]; omega)) ?_
                                            all_goals refine HL_r rfl rfl rfl rfl (R_pure rfl rfl rfl) ?_; refine HL_as (show _ = Value.int .i64 ((32 * (i + 1) : Nat) : Int) from congrArg (Value.int .i64) (by rw [wrap_i64 (by omega) (by omega)]; omega)) ?_
                                            all_goals refine HL_r rfl rfl rfl rfl (R_move rfl) ?_
                                            all_goals refine HL_r rfl rfl rfl rfl (R_pure rfl rfl rfl) ?_; refine HL_as (show _ = Value.int .i64 ((32 * i : Nat) : Int) from congrArg (Value.int .i64) (by rw [wrap_i64 (by omega) (by omega)]; omega)) ?_
                                            all_goals refine HL_r rfl rfl rfl rfl (R_pure rfl rfl rfl) ?_; refine HL_as (show _ = Value.int .i64 ((32 * (i + 2) : Nat) : Int) from congrArg (Value.int .i64) (by rw [wrap_i64 (by omega) (by omega)]; omega)) ?_
                                            all_goals refine HL_r rfl rfl rfl rfl (R_sliceBs (kl := some (.i64, ((32 * (i + 1) : Nat) : Int))) (kh := some (.i64, ((32 * (i + 2) : Nat) : Int))) (m := 32 * (i + 1)) (n := 32 * (i + 2)) rfl rfl rfl rfl rfl rfl (by omega) (by omega) (show _ = partO s i from rfl)) ?_
                                            all_goals refine HL_r rfl rfl rfl rfl (R_fieldAddr (off' := 1) rfl rfl rfl) ?_
                                            all_goals refine HL_r rfl rfl rfl rfl (R_indexA (j := i) (m := 1) (off' := 1 + i) rfl rfl rfl rfl (by omega) (by omega) (by omega)) ?_
                                            all_goals refine HL_storeAt (k := 0) (off := 1 + i) (xs := (ofV (0, partsS s i, 0, 0))) (ys := (ofV (0, partsS s (i + 1), 0, 0))) rfl rfl rfl rfl rfl rfl (by rw [ofV_len (partsS_len _ _)]; omega) (ofV_part i (by omega)) rfl ?_
                                            all_goals refine HL_nil ?_
                                            all_goals (
                                              refine HQ_blockN ?_
                                              refine HQ_then ?_
                                              refine hK29 _ _ _ _ ?_; clear hK29 K29
                                              refine HC_region ?_
                                              all_goals refine HL_r rfl rfl rfl rfl (R_move rfl) ?_
                                              all_goals first
                                                | (refine HL_r rfl rfl rfl rfl (R_pure rfl rfl rfl) ?_; refine HL_wrap_i64 (by omega) (by omega) ?_)
                                                | (refine HL_r rfl rfl rfl rfl (R_pure rfl rfl rfl) ?_)
                                              all_goals refine HL_r rfl rfl rfl rfl (R_assign rfl) ?_
                                              all_goals refine HL_nil ?_
                                              all_goals (
                                                refine HQ_then ?_
                                                exact HQ_again (i + 1) (by omega) (by omega) (.cons rfl (.cons rfl (.cons rfl (.cons rfl (.cons rfl .nil))))) (List.Sublist.refl _) (fun _ _ h => h)
                                                skip)
                                              skip)
                                            skip)
                                        · try exact Bool.noConfusion h28
                                          all_goals try simp only [decide_eq_true_eq, decide_eq_false_iff_not, beq_iff_eq, beq_eq_false_iff_ne, bne_iff_ne, bne_eq_false_iff_eq, Bool.not_eq_true', Bool.not_eq_false', ne_eq, Int.not_lt, Int.not_le, ge_iff_le, gt_iff_lt] at h28
                                          all_goals (
                                            refine HC_exit ?_
                                            refine HQ_thenE ?_; clear hK26 K26
                                            refine HQ_thenE ?_
                                            refine HQ_blockE ?_
                                            refine HQ_then ?_
                                            refine hK24 _ _ _ _ ?_; clear hK24 K24
                                            refine HC_seq fun K30 hK30 => ?_
                                            refine HC_seq fun K31 hK31 => ?_
                                            have hi3 : 3 = i := by omega
                                            subst hi3
                                            refine HC_region ?_
                                            all_goals refine HL_r rfl rfl rfl rfl (R_indexA (j := 0) rfl rfl rfl rfl rfl (by first | decide | omega) (by first | (simp only [Nat.zero_add, Nat.reduceAdd, Nat.reduceMul, Nat.zero_mul, Nat.mul_one, Nat.add_zero]; exact rfl) | exact rfl)) ?_
                                            all_goals first
                                              | (refine HL_r rfl rfl rfl rfl (R_load rfl (known_L (k := 0) rfl) rfl rfl) ?_)
                                              | (refine HL_r rfl rfl rfl rfl (R_load rfl (known_L (k := 1) rfl) rfl rfl) ?_)
                                              | (refine HL_r rfl rfl rfl rfl (R_load rfl (known_L (k := 2) rfl) rfl rfl) ?_)
                                            all_goals refine HL_r rfl rfl rfl rfl (R_pure rfl rfl rfl) ?_
                                            all_goals refine HL_nil ?_
                                            all_goals (
                                              refine HQ_then ?_
                                              refine hK31 _ _ _ _ ?_; clear hK31 K31
                                              refine HC_cond rfl (fun h32 => ?_) (fun h32 => ?_)
                                              · try exact Bool.noConfusion h32
                                                all_goals try simp only [decide_eq_true_eq, decide_eq_false_iff_not, beq_iff_eq, beq_eq_false_iff_ne, bne_iff_ne, bne_eq_false_iff_eq, Bool.not_eq_true', Bool.not_eq_false', ne_eq, Int.not_lt, Int.not_le, ge_iff_le, gt_iff_lt] at h32
                                                all_goals (
                                                  refine HC_region ?_
                                                  all_goals refine HL_r rfl rfl rfl rfl (R_move rfl) ?_
                                                  all_goals refine HL_r rfl rfl rfl rfl (R_sliceBs (kl := some (.i64, 128)) (kh := none) (m := 128) (n := s.length) rfl rfl rfl rfl rfl rfl (by omega) (by omega) (show _ = s.drop 128 from by rw [List.take_length])) ?_
                                                  all_goals refine HL_callP rfl rfl rfl (enters_of Tryd.func39 (by kernel_rfl) rfl) (P_ref_Unle (s.drop 128)) ?_; refine HL_as (congrArg resN (unle8 (by omega))) ?_
                                                  all_goals refine HL_r rfl rfl rfl rfl (R_move rfl) ?_
                                                  all_goals refine HL_r rfl rfl rfl rfl (R_extract rfl rfl) ?_
                                                  all_goals refine HL_r rfl rfl rfl rfl (R_extract rfl rfl) ?_
                                                  all_goals refine HL_r rfl rfl rfl rfl (R_fieldAddr (off' := 4) rfl rfl rfl) ?_
                                                  all_goals refine HL_storeAt (k := 0) (off := 4) (xs := (ofV (0, partsS s 3, 0, 0))) (ys := (ofV (0, partsS s 3, 0, 0))) rfl rfl rfl rfl rfl rfl (by rw [ofV_len (partsS_len _ _)]; omega) (ofV_num (partsS_len _ _)) rfl ?_
                                                  all_goals refine HL_nil ?_
                                                  all_goals (
                                                    refine HQ_then ?_
                                                    refine hK30 _ _ _ _ ?_; clear hK30 K30
                                                    refine HC_seq fun K33 hK33 => ?_
                                                    refine HC_region ?_
                                                    all_goals refine HL_r rfl rfl rfl rfl (R_loadArr (xs := (ofV (0, partsS s 3, 0, 0))) (n := 6) rfl (known_L (k := 0) rfl) rfl rfl (by exact ofV_len (partsS_len _ _))) ?_
                                                    all_goals refine HL_storeArr (k := 2) (n := 6) (ys := (ofV (0, partsS s 3, 0, 0))) rfl rfl rfl rfl rfl (by exact ofV_len (partsS_len _ _)) rfl (ofV_one _) rfl ?_
                                                    all_goals refine HL_nil ?_
                                                    all_goals (
                                                      refine HQ_then ?_
                                                      refine hK33 _ _ _ _ ?_; clear hK33 K33
                                                      refine HC_ret ?_
                                                      first
                                                        | (refine HQ_post rfl rfl (.cons (res_cellA (vs := (ofV (0, partsS s 0, 0, 9))) rfl (known_L (k := 1) rfl) rfl (by rw [ofV_len (partsS_len _ _)]; rfl)) .nil) (fun w1 hs1 => ?_)
                                                           exact ⟨by rw [getR_kind (by omega) h]; rfl, hs1.keep⟩)
                                                        | (refine HQ_post rfl rfl (.cons (res_cellA (vs := (ofV (0, partsS s 0, 0, 3))) rfl (known_L (k := 0) rfl) rfl (by rw [ofV_len (partsS_len _ _)]; rfl)) .nil) (fun w1 hs1 => ?_)
                                                           exact ⟨by rw [getR_short (by omega)]; rfl, hs1.keep⟩)
                                                      skip)
                                                    skip)
                                                  skip)
                                              · try exact Bool.noConfusion h32
                                                all_goals try simp only [decide_eq_true_eq, decide_eq_false_iff_not, beq_iff_eq, beq_eq_false_iff_ne, bne_iff_ne, bne_eq_false_iff_eq, Bool.not_eq_true', Bool.not_eq_false', ne_eq, Int.not_lt, Int.not_le, ge_iff_le, gt_iff_lt] at h32
                                                all_goals (
                                                  refine HC_skip ?_
                                                  refine HQ_then ?_
                                                  refine hK30 _ _ _ _ ?_; clear hK30 K30
                                                  refine HC_seq fun K34 hK34 => ?_
                                                  refine HC_region ?_
                                                  all_goals refine HL_r rfl rfl rfl rfl (R_loadArr (xs := (ofV (0, partsS s 3, 0, 0))) (n := 6) rfl (known_L (k := 0) rfl) rfl rfl (by exact ofV_len (partsS_len _ _))) ?_
                                                  all_goals refine HL_storeArr (k := 2) (n := 6) (ys := (ofV (0, partsS s 3, 0, 0))) rfl rfl rfl rfl rfl (by exact ofV_len (partsS_len _ _)) rfl (ofV_one _) rfl ?_
                                                  all_goals refine HL_nil ?_
                                                  all_goals (
                                                    refine HQ_then ?_
                                                    refine hK34 _ _ _ _ ?_; clear hK34 K34
                                                    refine HC_ret ?_
                                                    first
                                                      | (refine HQ_post rfl rfl (.cons (res_cellA (vs := (ofV (0, partsS s 0, 0, 9))) rfl (known_L (k := 1) rfl) rfl (by rw [ofV_len (partsS_len _ _)]; rfl)) .nil) (fun w1 hs1 => ?_)
                                                         exact ⟨by rw [getR_kind (by omega) h]; rfl, hs1.keep⟩)
                                                      | (refine HQ_post rfl rfl (.cons (res_cellA (vs := (ofV (0, partsS s 0, 0, 3))) rfl (known_L (k := 0) rfl) rfl (by rw [ofV_len (partsS_len _ _)]; rfl)) .nil) (fun w1 hs1 => ?_)
                                                         exact ⟨by rw [getR_short (by omega)]; rfl, hs1.keep⟩)
                                                    skip)
                                                  skip)
                                              skip)
                                            skip)
                                        skip)
                                      skip)
                                    skip)
                                  skip)
                              skip)
                            skip)
                        skip)
                      skip)
                    skip)
                skip)
              skip)
            skip)
        skip)
      skip)
end Go.Proofs.YthfinkklgbiaeaaDoor
