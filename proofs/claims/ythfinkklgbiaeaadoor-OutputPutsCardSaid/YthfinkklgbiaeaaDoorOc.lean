import Derived.Test.YthfinkklgbiaeaaDoorOb
namespace Go.Proofs.YthfinkklgbiaeaaDoor
set_option linter.all false
open Go.SL Go.RowKit Go.Shelf
def partO (s : List UInt8) (i : Nat) : List UInt8 := (s.take (32 * (i + 2))).drop (32 * (i + 1))
def partsS (s : List UInt8) : Nat → List (List UInt8)
  | 0 => [[], [], []]
  | i + 1 => (partsS s i).set i (partO s i)
theorem partsS_len (s : List UInt8) : ∀ i, (partsS s i).length = 3
  | 0 => rfl
  | i + 1 => by simp [partsS, partsS_len s i]
def wO (s : List UInt8) : List Nat := unfW (s.take 32)
def getR (s : List UInt8) : Nat × List (List UInt8) × Nat × Int :=
  if s.length < 32 then (0, partsS s 0, 0, 3) else if ¬ (smallB (wO s) = true ∧ (wO s).getD 0 0 ≤ 1) then (0, partsS s 0, 0, 9)
  else if s.length < 128 + 8 * (wO s).getD 0 0 then (0, partsS s 0, 0, 3) else if s.length > 128 + 8 * (wO s).getD 0 0 then (0, partsS s 0, 0, 4)
  else ((wO s).getD 0 0, partsS s 3, if (wO s).getD 0 0 = 1 then leV (s.drop 128) else 0, 0)
def resG (g : Nat × List (List UInt8) × Nat × Int) : Value := .tuple #[.int .i64 (g.1 : Int), pV g.2.1, uV g.2.2.1, .int .i64 g.2.2.2]
theorem getR_short {s : List UInt8} (h : s.length < 32) : getR s = (0, partsS s 0, 0, 3) := by unfold getR; rw [if_pos h]
theorem getR_kind {s : List UInt8} (h : ¬ s.length < 32) (h2 : ¬ (smallB (wO s) = true ∧ (wO s).getD 0 0 ≤ 1)) : getR s = (0, partsS s 0, 0, 9) := by unfold getR; rw [if_neg h, if_pos h2]
theorem getR_lo {s : List UInt8} (h : ¬ s.length < 32) (h2 : smallB (wO s) = true ∧ (wO s).getD 0 0 ≤ 1) (h3 : s.length < 128 + 8 * (wO s).getD 0 0) : getR s = (0, partsS s 0, 0, 3) := by unfold getR; rw [if_neg h, if_neg (not_not_intro h2), if_pos h3]
theorem getR_hi {s : List UInt8} (h : ¬ s.length < 32) (h2 : smallB (wO s) = true ∧ (wO s).getD 0 0 ≤ 1) (h3 : s.length > 128 + 8 * (wO s).getD 0 0) : getR s = (0, partsS s 0, 0, 4) := by unfold getR; rw [if_neg h, if_neg (not_not_intro h2), if_neg (by omega), if_pos h3]
theorem getR_ok {s : List UInt8} (h2 : smallB (wO s) = true ∧ (wO s).getD 0 0 ≤ 1) (h3 : s.length = 128 + 8 * (wO s).getD 0 0) : getR s = ((wO s).getD 0 0, partsS s 3, if (wO s).getD 0 0 = 1 then leV (s.drop 128) else 0, 0) := by
  unfold getR; rw [if_neg (by omega), if_neg (not_not_intro h2), if_neg (by omega), if_neg (by omega)]
theorem unf_take {s : List UInt8} (h : ¬ s.length < 32) : unfR (s.take 32) = (wO s, 0) := by unfold unfR; rw [if_pos (by rw [List.length_take]; omega)]; rfl
theorem small_two {w : List Nat} : (∃ m, smallV w = .tuple #[uV m, .bool true] ∧ smallB w = true ∧ m = w.getD 0 0) ∨ (∃ m, smallV w = .tuple #[uV m, .bool false] ∧ smallB w = false ∧ m = 0) := by
  cases h : smallB w with
  | true => exact .inl ⟨_, by unfold smallV; rw [h]; rfl, rfl, rfl⟩
  | false => exact .inr ⟨_, by unfold smallV; rw [h]; rfl, rfl, rfl⟩
theorem unle8 {s : List UInt8} (h : s.length = 136) : unleR (s.drop 128) = (leV (s.drop 128), 0) := by unfold unleR; rw [if_neg (by rw [List.length_drop]; omega)]
theorem set_mapS {p q : List (List UInt8)} {j : Nat} {x : List UInt8} (h : p.set j x = q) : (p.map sV).set j (.string (bs x)) = q.map sV := by rw [← h, List.map_set]; rfl
set_option maxRecDepth 10000 in
theorem P_out_Get {s : List UInt8} (hs : s.length ≤ 9223372036854775807) : Pure Tryd.prog 18 [.string (bs s)].toArray (resG (getR s)) := by
  refine pure_of_HC Tryd.func18 rfl rfl fun w => ?_
  have hwk : WOk (wO s) := unfW_ok _
  have hwl := hwk.1
  obtain ⟨W, hW⟩ : ∃ W, W = wO s := ⟨_, rfl⟩
  rcases small_two (w := wO s) with ⟨m, hv, hsm, hm⟩ | ⟨m, hv, hsm, hm⟩
  all_goals (
    refine HC_seq fun K1 hK1 => ?_
    refine HC_region ?_
    all_goals refine HL_r rfl rfl rfl rfl (R_assign rfl) ?_
    all_goals refine HL_alloc (cs := ((partsS s 0).map sV).toArray) rfl rfl rfl rfl fun r1 => ?_
    all_goals refine HL_r rfl rfl rfl rfl (R_assign rfl) ?_
    all_goals refine HL_r rfl rfl rfl rfl (R_assign rfl) ?_
    all_goals refine HL_nil ?_
    all_goals (
      refine HQ_then ?_
      refine hK1 _ _ _ _ ?_; clear hK1 K1
      refine HC_seq fun K2 hK2 => ?_
      refine HC_region ?_
      all_goals refine HL_alloc (cs := ((partsS s 0).map sV).toArray) rfl rfl rfl rfl fun r2 => ?_
      all_goals refine HL_nil ?_
      all_goals (
        refine HQ_then ?_
        refine hK2 _ _ _ _ ?_; clear hK2 K2
        refine HC_seq fun K3 hK3 => ?_
        refine HC_seq fun K4 hK4 => ?_
        refine HC_region ?_
        all_goals refine HL_r rfl rfl rfl rfl (R_move rfl) ?_
        all_goals first
          | (refine HL_r rfl rfl rfl rfl (R_lenBs rfl rfl) ?_)
          | (refine HL_r rfl rfl rfl rfl (R_lenSl rfl rfl) ?_)
          | (refine HL_r rfl rfl rfl rfl (R_lenStr rfl rfl rfl) ?_)
          | (refine HL_r rfl rfl rfl rfl (R_pure rfl rfl rfl) ?_)
        all_goals refine HL_r rfl rfl rfl rfl (R_pure rfl rfl rfl) ?_
        all_goals refine HL_nil ?_
        all_goals (
          refine HQ_then ?_
          refine hK4 _ _ _ _ ?_; clear hK4 K4
          refine HC_cond rfl (fun h5 => ?_) (fun h5 => ?_)
          · try exact Bool.noConfusion h5
            all_goals try simp only [decide_eq_true_eq, decide_eq_false_iff_not, beq_iff_eq, beq_eq_false_iff_ne, bne_iff_ne, bne_eq_false_iff_eq, Bool.not_eq_true', Bool.not_eq_false', ne_eq, Int.not_lt, Int.not_le, ge_iff_le, gt_iff_lt] at h5
            all_goals (
              refine HC_seq fun K6 hK6 => ?_
              refine HC_draw 2 (by kernel_rfl) (by kernel_rfl) ?_
              all_goals refine HD_r rfl rfl rfl (R_loadArr (xs := (partsS s 0).map sV) (n := 3) rfl (known_L (k := 0) rfl) rfl rfl (by rw [List.length_map, partsS_len])) ?_
              all_goals refine HD_r rfl rfl rfl (R_assign rfl) ?_
              all_goals refine HD_end ?_
              all_goals refine HL_storeArr (k := 1) (n := 3) (ys := (partsS s 0).map sV) rfl rfl rfl rfl rfl (by rw [List.length_map, partsS_len]) rfl (mapS_one _) rfl ?_
              all_goals refine HL_r rfl rfl rfl rfl (R_assign rfl) ?_
              all_goals refine HL_r rfl rfl rfl rfl (R_assign rfl) ?_
              all_goals refine HL_nil ?_
              all_goals (
                refine HQ_then ?_
                refine hK6 _ _ _ _ ?_; clear hK6 K6
                refine HC_ret ?_
                refine HQ_thenR ?_; clear hK3 K3
                first
                  | (refine HQ_post rfl rfl (.cons (res_tmp rfl) (.cons (res_cellA (vs := (partsS s 3).map sV) rfl (known_L (k := 2) rfl) rfl (by rw [List.length_map, partsS_len]; rfl)) (.cons (res_tmp rfl) (.cons (res_tmp rfl) .nil)))) (fun w1 hs1 => ?_)
                     refine ⟨?_, hs1.keep⟩
                     rw [getR_ok ⟨hsm, by omega⟩ (by omega), ← hm]; first | (rw [if_pos (by omega)]; rfl) | (rw [if_neg (by omega)]; rfl))
                  | (refine HQ_post rfl rfl (.cons (res_tmp rfl) (.cons (res_cellA (vs := (partsS s 0).map sV) rfl (known_L (k := 2) rfl) rfl (by rw [List.length_map, partsS_len]; rfl)) (.cons (res_tmp rfl) (.cons (res_tmp rfl) .nil)))) (fun w1 hs1 => ?_)
                     refine ⟨?_, hs1.keep⟩
                     first
                       | (rw [getR_kind (by omega) (by rw [hsm]; rintro ⟨h1, h2⟩; first | omega | cases h1)]; rfl)
                       | (rw [getR_lo (by omega) ⟨hsm, by omega⟩ (by omega)]; rfl)
                       | (rw [getR_hi (by omega) ⟨hsm, by omega⟩ (by omega)]; rfl))
                  | (refine HQ_post rfl rfl (.cons (res_tmp rfl) (.cons (res_cellA (vs := (partsS s 0).map sV) rfl (known_L (k := 1) rfl) rfl (by rw [List.length_map, partsS_len]; rfl)) (.cons (res_tmp rfl) (.cons (res_tmp rfl) .nil)))) (fun w1 hs1 => ?_)
                     exact ⟨by rw [getR_short (by omega)]; rfl, hs1.keep⟩)
                skip)
              skip)
          · try exact Bool.noConfusion h5
            all_goals try simp only [decide_eq_true_eq, decide_eq_false_iff_not, beq_iff_eq, beq_eq_false_iff_ne, bne_iff_ne, bne_eq_false_iff_eq, Bool.not_eq_true', Bool.not_eq_false', ne_eq, Int.not_lt, Int.not_le, ge_iff_le, gt_iff_lt] at h5
            all_goals (
              refine HC_skip ?_
              refine HQ_then ?_
              refine hK3 _ _ _ _ ?_; clear hK3 K3
              refine HC_seq fun K7 hK7 => ?_
              refine HC_region ?_
              all_goals refine HL_r rfl rfl rfl rfl (R_move rfl) ?_
              all_goals refine HL_r rfl rfl rfl rfl (R_sliceBs (kl := none) (kh := some (.i64, 32)) (m := 0) (n := 32) rfl rfl rfl rfl rfl rfl (by omega) (by omega) (show _ = s.take 32 from by simp)) ?_
              all_goals refine HL_callP rfl rfl rfl (enters_of Tryd.func35 (by kernel_rfl) rfl) (P_word_Unfixed (s.take 32)) ?_; refine HL_as (congrArg resW (unf_take (by omega))) ?_
              all_goals refine HL_r rfl rfl rfl rfl (R_move rfl) ?_
              all_goals refine HL_r rfl rfl rfl rfl (R_extract rfl rfl) ?_
              all_goals refine HL_r rfl rfl rfl rfl (R_extract rfl rfl) ?_
              all_goals refine HL_alloc (cs := (zW.map uV).toArray) rfl rfl rfl rfl fun r3 => ?_
              all_goals refine HL_storeArr (k := 0) (n := 4) (ys := (wO s).map uV) rfl rfl rfl rfl rfl (by rw [List.length_map, hwl]) rfl (mapU_one _) rfl ?_
              all_goals refine HL_r rfl rfl rfl rfl (R_assign rfl) ?_
              all_goals refine HL_nil ?_
              all_goals (
                refine HQ_then ?_
                refine hK7 _ _ _ _ ?_; clear hK7 K7
                refine HC_seq fun K8 hK8 => ?_
                refine HC_region ?_
                all_goals refine HL_r rfl rfl rfl rfl (R_loadArr (xs := (wO s).map uV) (n := 4) rfl (known_L (k := 0) rfl) rfl rfl (by rw [List.length_map, hwl])) ?_
                all_goals refine HL_callP rfl rfl rfl (enters_of Tryd.func36 (by kernel_rfl) rfl) (P_word_Small hwk) ?_; refine HL_as (hv) ?_
                all_goals refine HL_r rfl rfl rfl rfl (R_move rfl) ?_
                all_goals refine HL_r rfl rfl rfl rfl (R_extract rfl rfl) ?_
                all_goals refine HL_r rfl rfl rfl rfl (R_extract rfl rfl) ?_
                all_goals refine HL_r rfl rfl rfl rfl (R_assign rfl) ?_
                all_goals refine HL_r rfl rfl rfl rfl (R_assign rfl) ?_
                all_goals refine HL_nil ?_
                all_goals (
                  refine HQ_then ?_
                  refine hK8 _ _ _ _ ?_; clear hK8 K8
                  refine HC_seq fun K9 hK9 => ?_
                  refine HC_block ?_
                  refine HC_seq fun K10 hK10 => ?_
                  refine HC_region ?_
                  all_goals refine HL_r rfl rfl rfl rfl (R_move rfl) ?_
                  all_goals refine HL_r rfl rfl rfl rfl (R_pure rfl rfl rfl) ?_
                  all_goals refine HL_r rfl rfl rfl rfl (R_move rfl) ?_
                  all_goals first
                    | (refine HL_r rfl rfl rfl rfl (R_move rfl) ?_)
                    | (refine HL_skip rfl rfl rfl ?_)
                    | (refine HL_case 31 rfl (fun hb11 => ?_) (fun hb11 => ?_) <;> (try simp only [decide_eq_true_eq, decide_eq_false_iff_not, beq_iff_eq, beq_eq_false_iff_ne, bne_iff_ne, bne_eq_false_iff_eq, Bool.not_eq_true', Bool.not_eq_false', ne_eq, Int.not_lt, Int.not_le, ge_iff_le, gt_iff_lt] at hb11) <;> first | (refine HL_r rfl rfl rfl rfl (R_move rfl) ?_) | (refine HL_skip rfl rfl rfl ?_))
                  all_goals first
                    | (refine HL_r rfl rfl rfl rfl (R_pure rfl rfl rfl) ?_)
                    | (refine HL_skip rfl rfl rfl ?_)
                    | (refine HL_case 31 rfl (fun hb12 => ?_) (fun hb12 => ?_) <;> (try simp only [decide_eq_true_eq, decide_eq_false_iff_not, beq_iff_eq, beq_eq_false_iff_ne, bne_iff_ne, bne_eq_false_iff_eq, Bool.not_eq_true', Bool.not_eq_false', ne_eq, Int.not_lt, Int.not_le, ge_iff_le, gt_iff_lt] at hb12) <;> first | (refine HL_r rfl rfl rfl rfl (R_pure rfl rfl rfl) ?_) | (refine HL_skip rfl rfl rfl ?_))
                  all_goals first
                    | (refine HL_r rfl rfl rfl rfl (R_pickT rfl rfl) ?_)
                    | (refine HL_r rfl rfl rfl rfl (R_pickF rfl rfl) ?_)
                  all_goals refine HL_r rfl rfl rfl rfl (R_assign rfl) ?_
                  all_goals refine HL_nil ?_
                  all_goals (
                    refine HQ_then ?_
                    refine hK10 _ _ _ _ ?_; clear hK10 K10
                    refine HC_cond rfl (fun h13 => ?_) (fun h13 => ?_)
                    · try exact Bool.noConfusion h13
                      all_goals try simp only [decide_eq_true_eq, decide_eq_false_iff_not, beq_iff_eq, beq_eq_false_iff_ne, bne_iff_ne, bne_eq_false_iff_eq, Bool.not_eq_true', Bool.not_eq_false', ne_eq, Int.not_lt, Int.not_le, ge_iff_le, gt_iff_lt] at h13
                      all_goals (
                        refine HC_seq fun K14 hK14 => ?_
                        refine HC_draw 2 (by kernel_rfl) (by kernel_rfl) ?_
                        all_goals refine HD_r rfl rfl rfl (R_loadArr (xs := (partsS s 0).map sV) (n := 3) rfl (known_L (k := 1) rfl) rfl rfl (by rw [List.length_map, partsS_len])) ?_
                        all_goals refine HD_r rfl rfl rfl (R_assign rfl) ?_
                        all_goals refine HD_end ?_
                        all_goals refine HL_storeArr (k := 2) (n := 3) (ys := (partsS s 0).map sV) rfl rfl rfl rfl rfl (by rw [List.length_map, partsS_len]) rfl (mapS_one _) rfl ?_
                        all_goals refine HL_r rfl rfl rfl rfl (R_assign rfl) ?_
                        all_goals refine HL_r rfl rfl rfl rfl (R_assign rfl) ?_
                        all_goals refine HL_nil ?_
                        all_goals (
                          refine HQ_then ?_
                          refine hK14 _ _ _ _ ?_; clear hK14 K14
                          refine HC_ret ?_
                          refine HQ_blockR ?_
                          refine HQ_thenR ?_; clear hK9 K9
                          first
                            | (refine HQ_post rfl rfl (.cons (res_tmp rfl) (.cons (res_cellA (vs := (partsS s 3).map sV) rfl (known_L (k := 2) rfl) rfl (by rw [List.length_map, partsS_len]; rfl)) (.cons (res_tmp rfl) (.cons (res_tmp rfl) .nil)))) (fun w1 hs1 => ?_)
                               refine ⟨?_, hs1.keep⟩
                               rw [getR_ok ⟨hsm, by omega⟩ (by omega), ← hm]; first | (rw [if_pos (by omega)]; rfl) | (rw [if_neg (by omega)]; rfl))
                            | (refine HQ_post rfl rfl (.cons (res_tmp rfl) (.cons (res_cellA (vs := (partsS s 0).map sV) rfl (known_L (k := 2) rfl) rfl (by rw [List.length_map, partsS_len]; rfl)) (.cons (res_tmp rfl) (.cons (res_tmp rfl) .nil)))) (fun w1 hs1 => ?_)
                               refine ⟨?_, hs1.keep⟩
                               first
                                 | (rw [getR_kind (by omega) (by rw [hsm]; rintro ⟨h1, h2⟩; first | omega | cases h1)]; rfl)
                                 | (rw [getR_lo (by omega) ⟨hsm, by omega⟩ (by omega)]; rfl)
                                 | (rw [getR_hi (by omega) ⟨hsm, by omega⟩ (by omega)]; rfl))
                            | (refine HQ_post rfl rfl (.cons (res_tmp rfl) (.cons (res_cellA (vs := (partsS s 0).map sV) rfl (known_L (k := 1) rfl) rfl (by rw [List.length_map, partsS_len]; rfl)) (.cons (res_tmp rfl) (.cons (res_tmp rfl) .nil)))) (fun w1 hs1 => ?_)
                               exact ⟨by rw [getR_short (by omega)]; rfl, hs1.keep⟩)
                          skip)
                        skip)
                    · try exact Bool.noConfusion h13
                      all_goals try simp only [decide_eq_true_eq, decide_eq_false_iff_not, beq_iff_eq, beq_eq_false_iff_ne, bne_iff_ne, bne_eq_false_iff_eq, Bool.not_eq_true', Bool.not_eq_false', ne_eq, Int.not_lt, Int.not_le, ge_iff_le, gt_iff_lt] at h13
                      all_goals (
                        refine HC_seq fun K15 hK15 => ?_
                        refine HC_region ?_
                        all_goals refine HL_r rfl rfl rfl rfl (R_move rfl) ?_
                        all_goals first
                          | (refine HL_r rfl rfl rfl rfl (R_lenBs rfl rfl) ?_)
                          | (refine HL_r rfl rfl rfl rfl (R_lenSl rfl rfl) ?_)
                          | (refine HL_r rfl rfl rfl rfl (R_lenStr rfl rfl rfl) ?_)
                          | (refine HL_r rfl rfl rfl rfl (R_pure rfl rfl rfl) ?_)
                        all_goals refine HL_r rfl rfl rfl rfl (R_move rfl) ?_
                        all_goals first
                          | (refine HL_r rfl rfl rfl rfl (R_pure rfl rfl rfl) ?_; refine HL_wrap_i64 (by omega) (by omega) ?_)
                          | (refine HL_r rfl rfl rfl rfl (R_pure rfl rfl rfl) ?_)
                        all_goals refine HL_callP rfl rfl rfl (enters_of Tryd.func37 (by kernel_rfl) rfl) (P_size (v := m) (by omega)) ?_
                        all_goals refine HL_r rfl rfl rfl rfl (R_pure rfl rfl rfl) ?_
                        all_goals refine HL_r rfl rfl rfl rfl (R_assign rfl) ?_
                        all_goals refine HL_nil ?_
                        all_goals (
                          refine HQ_then ?_
                          refine hK15 _ _ _ _ ?_; clear hK15 K15
                          refine HC_cond rfl (fun h16 => ?_) (fun h16 => ?_)
                          · try exact Bool.noConfusion h16
                            all_goals try simp only [decide_eq_true_eq, decide_eq_false_iff_not, beq_iff_eq, beq_eq_false_iff_ne, bne_iff_ne, bne_eq_false_iff_eq, Bool.not_eq_true', Bool.not_eq_false', ne_eq, Int.not_lt, Int.not_le, ge_iff_le, gt_iff_lt] at h16
                            all_goals (
                              refine HC_seq fun K17 hK17 => ?_
                              refine HC_draw 2 (by kernel_rfl) (by kernel_rfl) ?_
                              all_goals refine HD_r rfl rfl rfl (R_loadArr (xs := (partsS s 0).map sV) (n := 3) rfl (known_L (k := 1) rfl) rfl rfl (by rw [List.length_map, partsS_len])) ?_
                              all_goals refine HD_r rfl rfl rfl (R_assign rfl) ?_
                              all_goals refine HD_end ?_
                              all_goals refine HL_storeArr (k := 2) (n := 3) (ys := (partsS s 0).map sV) rfl rfl rfl rfl rfl (by rw [List.length_map, partsS_len]) rfl (mapS_one _) rfl ?_
                              all_goals refine HL_r rfl rfl rfl rfl (R_assign rfl) ?_
                              all_goals refine HL_r rfl rfl rfl rfl (R_assign rfl) ?_
                              all_goals refine HL_nil ?_
                              all_goals (
                                refine HQ_then ?_
                                refine hK17 _ _ _ _ ?_; clear hK17 K17
                                refine HC_ret ?_
                                refine HQ_blockR ?_
                                refine HQ_thenR ?_; clear hK9 K9
                                first
                                  | (refine HQ_post rfl rfl (.cons (res_tmp rfl) (.cons (res_cellA (vs := (partsS s 3).map sV) rfl (known_L (k := 2) rfl) rfl (by rw [List.length_map, partsS_len]; rfl)) (.cons (res_tmp rfl) (.cons (res_tmp rfl) .nil)))) (fun w1 hs1 => ?_)
                                     refine ⟨?_, hs1.keep⟩
                                     rw [getR_ok ⟨hsm, by omega⟩ (by omega), ← hm]; first | (rw [if_pos (by omega)]; rfl) | (rw [if_neg (by omega)]; rfl))
                                  | (refine HQ_post rfl rfl (.cons (res_tmp rfl) (.cons (res_cellA (vs := (partsS s 0).map sV) rfl (known_L (k := 2) rfl) rfl (by rw [List.length_map, partsS_len]; rfl)) (.cons (res_tmp rfl) (.cons (res_tmp rfl) .nil)))) (fun w1 hs1 => ?_)
                                     refine ⟨?_, hs1.keep⟩
                                     first
                                       | (rw [getR_kind (by omega) (by rw [hsm]; rintro ⟨h1, h2⟩; first | omega | cases h1)]; rfl)
                                       | (rw [getR_lo (by omega) ⟨hsm, by omega⟩ (by omega)]; rfl)
                                       | (rw [getR_hi (by omega) ⟨hsm, by omega⟩ (by omega)]; rfl))
                                  | (refine HQ_post rfl rfl (.cons (res_tmp rfl) (.cons (res_cellA (vs := (partsS s 0).map sV) rfl (known_L (k := 1) rfl) rfl (by rw [List.length_map, partsS_len]; rfl)) (.cons (res_tmp rfl) (.cons (res_tmp rfl) .nil)))) (fun w1 hs1 => ?_)
                                     exact ⟨by rw [getR_short (by omega)]; rfl, hs1.keep⟩)
                                skip)
                              skip)
                          · try exact Bool.noConfusion h16
                            all_goals try simp only [decide_eq_true_eq, decide_eq_false_iff_not, beq_iff_eq, beq_eq_false_iff_ne, bne_iff_ne, bne_eq_false_iff_eq, Bool.not_eq_true', Bool.not_eq_false', ne_eq, Int.not_lt, Int.not_le, ge_iff_le, gt_iff_lt] at h16
                            all_goals (
                              refine HC_seq fun K18 hK18 => ?_
                              refine HC_region ?_
                              all_goals refine HL_r rfl rfl rfl rfl (R_move rfl) ?_
                              all_goals first
                                | (refine HL_r rfl rfl rfl rfl (R_lenBs rfl rfl) ?_)
                                | (refine HL_r rfl rfl rfl rfl (R_lenSl rfl rfl) ?_)
                                | (refine HL_r rfl rfl rfl rfl (R_lenStr rfl rfl rfl) ?_)
                                | (refine HL_r rfl rfl rfl rfl (R_pure rfl rfl rfl) ?_)
                              all_goals refine HL_r rfl rfl rfl rfl (R_move rfl) ?_
                              all_goals first
                                | (refine HL_r rfl rfl rfl rfl (R_pure rfl rfl rfl) ?_; refine HL_wrap_i64 (by omega) (by omega) ?_)
                                | (refine HL_r rfl rfl rfl rfl (R_pure rfl rfl rfl) ?_)
                              all_goals refine HL_callP rfl rfl rfl (enters_of Tryd.func37 (by kernel_rfl) rfl) (P_size (v := m) (by omega)) ?_
                              all_goals refine HL_r rfl rfl rfl rfl (R_pure rfl rfl rfl) ?_
                              all_goals refine HL_r rfl rfl rfl rfl (R_assign rfl) ?_
                              all_goals refine HL_nil ?_
                              all_goals (
                                refine HQ_then ?_
                                refine hK18 _ _ _ _ ?_; clear hK18 K18
                                refine HC_cond rfl (fun h19 => ?_) (fun h19 => ?_)
                                · try exact Bool.noConfusion h19
                                  all_goals try simp only [decide_eq_true_eq, decide_eq_false_iff_not, beq_iff_eq, beq_eq_false_iff_ne, bne_iff_ne, bne_eq_false_iff_eq, Bool.not_eq_true', Bool.not_eq_false', ne_eq, Int.not_lt, Int.not_le, ge_iff_le, gt_iff_lt] at h19
                                  all_goals (
                                    refine HC_seq fun K20 hK20 => ?_
                                    refine HC_draw 2 (by kernel_rfl) (by kernel_rfl) ?_
                                    all_goals refine HD_r rfl rfl rfl (R_loadArr (xs := (partsS s 0).map sV) (n := 3) rfl (known_L (k := 1) rfl) rfl rfl (by rw [List.length_map, partsS_len])) ?_
                                    all_goals refine HD_r rfl rfl rfl (R_assign rfl) ?_
                                    all_goals refine HD_end ?_
                                    all_goals refine HL_storeArr (k := 2) (n := 3) (ys := (partsS s 0).map sV) rfl rfl rfl rfl rfl (by rw [List.length_map, partsS_len]) rfl (mapS_one _) rfl ?_
                                    all_goals refine HL_r rfl rfl rfl rfl (R_assign rfl) ?_
                                    all_goals refine HL_r rfl rfl rfl rfl (R_assign rfl) ?_
                                    all_goals refine HL_nil ?_
                                    all_goals (
                                      refine HQ_then ?_
                                      refine hK20 _ _ _ _ ?_; clear hK20 K20
                                      refine HC_ret ?_
                                      refine HQ_blockR ?_
                                      refine HQ_thenR ?_; clear hK9 K9
                                      first
                                        | (refine HQ_post rfl rfl (.cons (res_tmp rfl) (.cons (res_cellA (vs := (partsS s 3).map sV) rfl (known_L (k := 2) rfl) rfl (by rw [List.length_map, partsS_len]; rfl)) (.cons (res_tmp rfl) (.cons (res_tmp rfl) .nil)))) (fun w1 hs1 => ?_)
                                           refine ⟨?_, hs1.keep⟩
                                           rw [getR_ok ⟨hsm, by omega⟩ (by omega), ← hm]; first | (rw [if_pos (by omega)]; rfl) | (rw [if_neg (by omega)]; rfl))
                                        | (refine HQ_post rfl rfl (.cons (res_tmp rfl) (.cons (res_cellA (vs := (partsS s 0).map sV) rfl (known_L (k := 2) rfl) rfl (by rw [List.length_map, partsS_len]; rfl)) (.cons (res_tmp rfl) (.cons (res_tmp rfl) .nil)))) (fun w1 hs1 => ?_)
                                           refine ⟨?_, hs1.keep⟩
                                           first
                                             | (rw [getR_kind (by omega) (by rw [hsm]; rintro ⟨h1, h2⟩; first | omega | cases h1)]; rfl)
                                             | (rw [getR_lo (by omega) ⟨hsm, by omega⟩ (by omega)]; rfl)
                                             | (rw [getR_hi (by omega) ⟨hsm, by omega⟩ (by omega)]; rfl))
                                        | (refine HQ_post rfl rfl (.cons (res_tmp rfl) (.cons (res_cellA (vs := (partsS s 0).map sV) rfl (known_L (k := 1) rfl) rfl (by rw [List.length_map, partsS_len]; rfl)) (.cons (res_tmp rfl) (.cons (res_tmp rfl) .nil)))) (fun w1 hs1 => ?_)
                                           exact ⟨by rw [getR_short (by omega)]; rfl, hs1.keep⟩)
                                      skip)
                                    skip)
                                · try exact Bool.noConfusion h19
                                  all_goals try simp only [decide_eq_true_eq, decide_eq_false_iff_not, beq_iff_eq, beq_eq_false_iff_ne, bne_iff_ne, bne_eq_false_iff_eq, Bool.not_eq_true', Bool.not_eq_false', ne_eq, Int.not_lt, Int.not_le, ge_iff_le, gt_iff_lt] at h19
                                  all_goals (
                                    refine HC_skip ?_
                                    refine HQ_blockN ?_
                                    refine HQ_then ?_
                                    refine hK9 _ _ _ _ ?_; clear hK9 K9
                                    refine HC_seq fun K21 hK21 => ?_
                                    refine HC_seq fun K22 hK22 => ?_
                                    refine HC_region ?_
                                    all_goals refine HL_r rfl rfl rfl rfl (R_move rfl) ?_
                                    all_goals refine HL_nil ?_
                                    all_goals (
                                      refine HQ_then ?_
                                      refine hK22 _ _ _ _ ?_; clear hK22 K22
                                      refine HC_block ?_
                                      refine HC_loop (σ := Nat) (fun i => i ≤ 3) (fun i => [(0, .string (bs s)), (3, .pointer (some ⟨r1, 0, none⟩)), (6, .pointer (some ⟨r2, 0, none⟩)), (9, uV m), (52, .int .i64 (i : Int))]) (fun i => [(r3, .cells ((wO s).map uV).toArray 51 (0, 0)), (r2, .cells ((partsS s i).map sV).toArray 22 (0, 0)), (r1, .cells ((partsS s 0).map sV).toArray 22 (0, 0))]) (fun _ _ _ => True) (fun i => 3 - i) 0 (Nat.zero_le _) (.cons rfl (.cons rfl (.cons rfl (.cons rfl (.cons rfl .nil))))) (List.Sublist.refl _) (fun _ _ h => h) ?_
                                      intro i hi
                                      refine HC_seq fun K23 hK23 => ?_
                                      refine HC_region ?_
                                      all_goals refine HL_r rfl rfl rfl rfl (R_pure rfl rfl rfl) ?_
                                      all_goals refine HL_nil ?_
                                      all_goals (
                                        refine HQ_then ?_
                                        refine hK23 _ _ _ _ ?_; clear hK23 K23
                                        refine HC_seq fun K24 hK24 => ?_
                                        refine HC_cond rfl (fun h25 => ?_) (fun h25 => ?_)
                                        · try exact Bool.noConfusion h25
                                          all_goals try simp only [decide_eq_true_eq, decide_eq_false_iff_not, beq_iff_eq, beq_eq_false_iff_ne, bne_iff_ne, bne_eq_false_iff_eq, Bool.not_eq_true', Bool.not_eq_false', ne_eq, Int.not_lt, Int.not_le, ge_iff_le, gt_iff_lt] at h25
                                          all_goals (
                                            refine HC_skip ?_
                                            refine HQ_then ?_
                                            refine hK24 _ _ _ _ ?_; clear hK24 K24
                                            refine HC_seq fun K26 hK26 => ?_
                                            refine HC_block ?_
                                            refine HC_seq fun K27 hK27 => ?_
                                            refine HC_region ?_
                                            all_goals refine HL_r rfl rfl rfl rfl (R_move rfl) ?_
                                            all_goals refine HL_r rfl rfl rfl rfl (R_assign rfl) ?_
                                            all_goals refine HL_nil ?_
                                            all_goals (
                                              refine HQ_then ?_
                                              refine hK27 _ _ _ _ ?_; clear hK27 K27
                                              refine HC_region ?_
                                              all_goals refine HL_r rfl rfl rfl rfl (R_move rfl) ?_
                                              all_goals refine HL_r rfl rfl rfl rfl (R_move rfl) ?_
                                              all_goals refine HL_r rfl rfl rfl rfl (R_move rfl) ?_
                                              all_goals refine HL_r rfl rfl rfl rfl (R_pure rfl rfl rfl) ?_; refine HL_as (show _ = Value.int .i64 ((i + 1 : Nat) : Int) from congrArg (Value.int .i64) (by rw [wrap_i64 (by omega) (by omega)]; omega)) ?_
                                              all_goals refine HL_r rfl rfl rfl rfl (R_pure rfl rfl rfl) ?_; refine HL_as (show _ = Value.int .i64 ((32 * (i + 1) : Nat) : Int) from congrArg (Value.int .i64) (by rw [wrap_i64 (by omega) (by omega)]; omega)) ?_
                                              all_goals refine HL_r rfl rfl rfl rfl (R_move rfl) ?_
                                              all_goals refine HL_r rfl rfl rfl rfl (R_pure rfl rfl rfl) ?_; refine HL_as (show _ = Value.int .i64 ((i + 2 : Nat) : Int) from congrArg (Value.int .i64) (by rw [wrap_i64 (by omega) (by omega)]; omega)) ?_
                                              all_goals refine HL_r rfl rfl rfl rfl (R_pure rfl rfl rfl) ?_; refine HL_as (show _ = Value.int .i64 ((32 * (i + 2) : Nat) : Int) from congrArg (Value.int .i64) (by rw [wrap_i64 (by omega) (by omega)]; omega)) ?_
                                              all_goals refine HL_r rfl rfl rfl rfl (R_sliceBs (kl := some (.i64, ((32 * (i + 1) : Nat) : Int))) (kh := some (.i64, ((32 * (i + 2) : Nat) : Int))) (m := 32 * (i + 1)) (n := 32 * (i + 2)) rfl rfl rfl rfl rfl rfl (by omega) (by omega) (show _ = partO s i from rfl)) ?_
                                              all_goals refine HL_r rfl rfl rfl rfl (R_indexA (j := i) (m := 1) (off' := i) rfl rfl rfl rfl (by omega) (by omega) (by omega)) ?_
                                              all_goals refine HL_storeAt (k := 1) (off := i) (xs := (partsS s i).map sV) (ys := (partsS s (i + 1)).map sV) rfl rfl rfl rfl rfl rfl (by rw [List.length_map, partsS_len]; omega) (set_mapS rfl) rfl ?_
                                              all_goals refine HL_nil ?_
                                              all_goals (
                                                refine HQ_blockN ?_
                                                refine HQ_then ?_
                                                refine hK26 _ _ _ _ ?_; clear hK26 K26
                                                refine HC_region ?_
                                                all_goals first
                                                  | (refine HL_r rfl rfl rfl rfl (R_pure rfl rfl rfl) ?_; refine HL_wrap_i64 (by omega) (by omega) ?_)
                                                  | (refine HL_r rfl rfl rfl rfl (R_pure rfl rfl rfl) ?_)
                                                all_goals refine HL_r rfl rfl rfl rfl (R_move rfl) ?_
                                                all_goals refine HL_nil ?_
                                                all_goals (
                                                  refine HQ_then ?_
                                                  exact HQ_again (i + 1) (by omega) (by omega) (.cons rfl (.cons rfl (.cons rfl (.cons rfl (.cons rfl .nil))))) (List.Sublist.refl _) (fun _ _ h => h)
                                                  skip)
                                                skip)
                                              skip)
                                            skip)
                                        · try exact Bool.noConfusion h25
                                          all_goals try simp only [decide_eq_true_eq, decide_eq_false_iff_not, beq_iff_eq, beq_eq_false_iff_ne, bne_iff_ne, bne_eq_false_iff_eq, Bool.not_eq_true', Bool.not_eq_false', ne_eq, Int.not_lt, Int.not_le, ge_iff_le, gt_iff_lt] at h25
                                          all_goals (
                                            refine HC_exit ?_
                                            refine HQ_thenE ?_; clear hK24 K24
                                            refine HQ_thenE ?_
                                            refine HQ_blockE ?_
                                            refine HQ_then ?_
                                            refine hK21 _ _ _ _ ?_; clear hK21 K21
                                            refine HC_seq fun K28 hK28 => ?_
                                            have hi3 : 3 = i := by omega
                                            subst hi3
                                            refine HC_region ?_
                                            all_goals refine HL_r rfl rfl rfl rfl (R_assign rfl) ?_
                                            all_goals refine HL_nil ?_
                                            all_goals (
                                              refine HQ_then ?_
                                              refine hK28 _ _ _ _ ?_; clear hK28 K28
                                              refine HC_seq fun K29 hK29 => ?_
                                              refine HC_seq fun K30 hK30 => ?_
                                              refine HC_region ?_
                                              all_goals refine HL_r rfl rfl rfl rfl (R_move rfl) ?_
                                              all_goals refine HL_r rfl rfl rfl rfl (R_pure rfl rfl rfl) ?_
                                              all_goals refine HL_nil ?_
                                              all_goals (
                                                refine HQ_then ?_
                                                refine hK30 _ _ _ _ ?_; clear hK30 K30
                                                refine HC_cond rfl (fun h31 => ?_) (fun h31 => ?_)
                                                · try exact Bool.noConfusion h31
                                                  all_goals try simp only [decide_eq_true_eq, decide_eq_false_iff_not, beq_iff_eq, beq_eq_false_iff_ne, bne_iff_ne, bne_eq_false_iff_eq, Bool.not_eq_true', Bool.not_eq_false', ne_eq, Int.not_lt, Int.not_le, ge_iff_le, gt_iff_lt] at h31
                                                  all_goals (
                                                    refine HC_region ?_
                                                    all_goals refine HL_r rfl rfl rfl rfl (R_move rfl) ?_
                                                    all_goals refine HL_r rfl rfl rfl rfl (R_sliceBs (kl := some (.i64, 128)) (kh := none) (m := 128) (n := s.length) rfl rfl rfl rfl rfl rfl (by omega) (by omega) (show _ = s.drop 128 from by rw [List.take_length])) ?_
                                                    all_goals refine HL_callP rfl rfl rfl (enters_of Tryd.func30 (by kernel_rfl) rfl) (P_num_Unle (s.drop 128)) ?_; refine HL_as (congrArg resN (unle8 (by omega))) ?_
                                                    all_goals refine HL_r rfl rfl rfl rfl (R_move rfl) ?_
                                                    all_goals refine HL_r rfl rfl rfl rfl (R_extract rfl rfl) ?_
                                                    all_goals refine HL_r rfl rfl rfl rfl (R_extract rfl rfl) ?_
                                                    all_goals refine HL_r rfl rfl rfl rfl (R_assign rfl) ?_
                                                    all_goals refine HL_nil ?_
                                                    all_goals (
                                                      refine HQ_then ?_
                                                      refine hK29 _ _ _ _ ?_; clear hK29 K29
                                                      refine HC_seq fun K32 hK32 => ?_
                                                      refine HC_drawA [] [(0, .pure), (1, .pure), (3, .pure), (4, .pure), (5, .act (aePut 2 (.cells ((partsS s 3).map sV).toArray 22 (0, 0)))), (6, .pure), (7, .pure)] 8 (by kernel_rfl) (by kernel_rfl) (by first | exact (fun _ h => nomatch h) | simp [SubS]) ?_
                                                      all_goals refine HA_p rfl rfl rfl rfl (fun _ hS => (R_move rfl)) ?_
                                                      all_goals first
                                                        | (refine HA_p rfl rfl rfl rfl (fun _ hS => (R_pure rfl rfl rfl)) ?_; refine HA_wrap_i64 (by omega) (by omega) ?_)
                                                        | (refine HA_p rfl rfl rfl rfl (fun _ hS => (R_pure rfl rfl rfl)) ?_)
                                                      all_goals refine HA_r rfl rfl rfl rfl (R_loadArr (xs := (partsS s 3).map sV) (n := 3) rfl (known_L (k := 1) rfl) rfl rfl (by rw [List.length_map, partsS_len])) ?_
                                                      all_goals refine HA_p rfl rfl rfl rfl (fun _ hS => (R_move rfl)) ?_
                                                      all_goals refine HA_p rfl rfl rfl rfl (fun _ hS => (R_assign rfl)) ?_
                                                      all_goals refine HA_storeArr (q := 2) (n := 3) rfl rfl rfl rfl rfl rfl rfl rfl rfl rfl rfl (by first | exact (fun _ h => nomatch h) | simp [SubS]) ?_
                                                      all_goals refine HA_p rfl rfl rfl rfl (fun _ hS => (R_assign rfl)) ?_
                                                      all_goals refine HA_p rfl rfl rfl rfl (fun _ hS => (R_assign rfl)) ?_
                                                      all_goals refine HA_end ?_
                                                      all_goals refine HL_nil ?_
                                                      all_goals (
                                                        refine HQ_then ?_
                                                        refine hK32 _ _ _ _ ?_; clear hK32 K32
                                                        refine HC_ret ?_
                                                        first
                                                          | (refine HQ_post rfl rfl (.cons (res_tmp rfl) (.cons (res_cellA (vs := (partsS s 3).map sV) rfl (known_L (k := 2) rfl) rfl (by rw [List.length_map, partsS_len]; rfl)) (.cons (res_tmp rfl) (.cons (res_tmp rfl) .nil)))) (fun w1 hs1 => ?_)
                                                             refine ⟨?_, hs1.keep⟩
                                                             rw [getR_ok ⟨hsm, by omega⟩ (by omega), ← hm]; first | (rw [if_pos (by omega)]; rfl) | (rw [if_neg (by omega)]; rfl))
                                                          | (refine HQ_post rfl rfl (.cons (res_tmp rfl) (.cons (res_cellA (vs := (partsS s 0).map sV) rfl (known_L (k := 2) rfl) rfl (by rw [List.length_map, partsS_len]; rfl)) (.cons (res_tmp rfl) (.cons (res_tmp rfl) .nil)))) (fun w1 hs1 => ?_)
                                                             refine ⟨?_, hs1.keep⟩
                                                             first
                                                               | (rw [getR_kind (by omega) (by rw [hsm]; rintro ⟨h1, h2⟩; first | omega | cases h1)]; rfl)
                                                               | (rw [getR_lo (by omega) ⟨hsm, by omega⟩ (by omega)]; rfl)
                                                               | (rw [getR_hi (by omega) ⟨hsm, by omega⟩ (by omega)]; rfl))
                                                          | (refine HQ_post rfl rfl (.cons (res_tmp rfl) (.cons (res_cellA (vs := (partsS s 0).map sV) rfl (known_L (k := 1) rfl) rfl (by rw [List.length_map, partsS_len]; rfl)) (.cons (res_tmp rfl) (.cons (res_tmp rfl) .nil)))) (fun w1 hs1 => ?_)
                                                             exact ⟨by rw [getR_short (by omega)]; rfl, hs1.keep⟩)
                                                        skip)
                                                      skip)
                                                    skip)
                                                · try exact Bool.noConfusion h31
                                                  all_goals try simp only [decide_eq_true_eq, decide_eq_false_iff_not, beq_iff_eq, beq_eq_false_iff_ne, bne_iff_ne, bne_eq_false_iff_eq, Bool.not_eq_true', Bool.not_eq_false', ne_eq, Int.not_lt, Int.not_le, ge_iff_le, gt_iff_lt] at h31
                                                  all_goals (
                                                    refine HC_skip ?_
                                                    refine HQ_then ?_
                                                    refine hK29 _ _ _ _ ?_; clear hK29 K29
                                                    refine HC_seq fun K33 hK33 => ?_
                                                    refine HC_drawA [] [(0, .pure), (1, .pure), (3, .pure), (4, .pure), (5, .act (aePut 2 (.cells ((partsS s 3).map sV).toArray 22 (0, 0)))), (6, .pure), (7, .pure)] 8 (by kernel_rfl) (by kernel_rfl) (by first | exact (fun _ h => nomatch h) | simp [SubS]) ?_
                                                    all_goals refine HA_p rfl rfl rfl rfl (fun _ hS => (R_move rfl)) ?_
                                                    all_goals first
                                                      | (refine HA_p rfl rfl rfl rfl (fun _ hS => (R_pure rfl rfl rfl)) ?_; refine HA_wrap_i64 (by omega) (by omega) ?_)
                                                      | (refine HA_p rfl rfl rfl rfl (fun _ hS => (R_pure rfl rfl rfl)) ?_)
                                                    all_goals refine HA_r rfl rfl rfl rfl (R_loadArr (xs := (partsS s 3).map sV) (n := 3) rfl (known_L (k := 1) rfl) rfl rfl (by rw [List.length_map, partsS_len])) ?_
                                                    all_goals refine HA_p rfl rfl rfl rfl (fun _ hS => (R_move rfl)) ?_
                                                    all_goals refine HA_p rfl rfl rfl rfl (fun _ hS => (R_assign rfl)) ?_
                                                    all_goals refine HA_storeArr (q := 2) (n := 3) rfl rfl rfl rfl rfl rfl rfl rfl rfl rfl rfl (by first | exact (fun _ h => nomatch h) | simp [SubS]) ?_
                                                    all_goals refine HA_p rfl rfl rfl rfl (fun _ hS => (R_assign rfl)) ?_
                                                    all_goals refine HA_p rfl rfl rfl rfl (fun _ hS => (R_assign rfl)) ?_
                                                    all_goals refine HA_end ?_
                                                    all_goals refine HL_nil ?_
                                                    all_goals (
                                                      refine HQ_then ?_
                                                      refine hK33 _ _ _ _ ?_; clear hK33 K33
                                                      refine HC_ret ?_
                                                      first
                                                        | (refine HQ_post rfl rfl (.cons (res_tmp rfl) (.cons (res_cellA (vs := (partsS s 3).map sV) rfl (known_L (k := 2) rfl) rfl (by rw [List.length_map, partsS_len]; rfl)) (.cons (res_tmp rfl) (.cons (res_tmp rfl) .nil)))) (fun w1 hs1 => ?_)
                                                           refine ⟨?_, hs1.keep⟩
                                                           rw [getR_ok ⟨hsm, by omega⟩ (by omega), ← hm]; first | (rw [if_pos (by omega)]; rfl) | (rw [if_neg (by omega)]; rfl))
                                                        | (refine HQ_post rfl rfl (.cons (res_tmp rfl) (.cons (res_cellA (vs := (partsS s 0).map sV) rfl (known_L (k := 2) rfl) rfl (by rw [List.length_map, partsS_len]; rfl)) (.cons (res_tmp rfl) (.cons (res_tmp rfl) .nil)))) (fun w1 hs1 => ?_)
                                                           refine ⟨?_, hs1.keep⟩
                                                           first
                                                             | (rw [getR_kind (by omega) (by rw [hsm]; rintro ⟨h1, h2⟩; first | omega | cases h1)]; rfl)
                                                             | (rw [getR_lo (by omega) ⟨hsm, by omega⟩ (by omega)]; rfl)
                                                             | (rw [getR_hi (by omega) ⟨hsm, by omega⟩ (by omega)]; rfl))
                                                        | (refine HQ_post rfl rfl (.cons (res_tmp rfl) (.cons (res_cellA (vs := (partsS s 0).map sV) rfl (known_L (k := 1) rfl) rfl (by rw [List.length_map, partsS_len]; rfl)) (.cons (res_tmp rfl) (.cons (res_tmp rfl) .nil)))) (fun w1 hs1 => ?_)
                                                           exact ⟨by rw [getR_short (by omega)]; rfl, hs1.keep⟩)
                                                      skip)
                                                    skip)
                                                skip)
                                              skip)
                                            skip)
                                        skip)
                                      skip)
                                    skip)
                                skip)
                              skip)
                          skip)
                        skip)
                    skip)
                  skip)
                skip)
              skip)
          skip)
        skip)
      skip)
    skip)
end Go.Proofs.YthfinkklgbiaeaaDoor
