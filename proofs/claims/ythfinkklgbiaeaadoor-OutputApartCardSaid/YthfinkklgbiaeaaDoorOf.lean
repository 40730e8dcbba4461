import Derived.Test.YthfinkklgbiaeaaDoorOe
namespace Go.Proofs.YthfinkklgbiaeaaDoor
set_option linter.all false
open Go.SL Go.RowKit Go.Shelf
theorem pairI {a : List UInt8 × Int} {x : List UInt8} {y : Int} (h1 : a.1 = x) (h2 : a.2 = y) : a = (x, y) := by cases a; simp_all
theorem putR_bad {v : Int} {p : List (List UInt8)} {n : Nat} (h : ¬ (putR v p n).2 = 0) : (putR v p n).1 = [] := by
  unfold putR at h ⊢
  split
  · rfl
  · rename_i h1
    rw [if_neg h1] at h
    split
    · rfl
    · rename_i h2; rw [if_neg h2] at h; exact absurd rfl h
theorem put_cases (v : Int) (p : List (List UInt8)) (hp : p.length = 3) {n : Nat} (hn : n < 18446744073709551616) :
    (∃ s e, putR v p n = (s, e) ∧ e = 0 ∧ getR s = (v.toNat, p, n, 0) ∧ (v.toNat : Int) = v ∧ s.length = 128 + 8 * v.toNat ∧ v.toNat ≤ 1 ∧ rootR v p n = (kec s, 0)) ∨ (∃ s e, putR v p n = (s, e) ∧ ¬ e = 0 ∧ s = [] ∧ rootR v p n = ([], e)) := by
  by_cases h : (putR v p n).2 = 0
  · have hs : putR v p n = ((putR v p n).1, 0) := pairI rfl h
    obtain ⟨g1, g2⟩ := get_put hp hn hs
    obtain ⟨hv, _, _, _⟩ := putR_inv hs
    exact .inl ⟨_, _, hs, rfl, g1, by omega, g2, by omega, by unfold rootR; rw [if_pos h]⟩
  · exact .inr ⟨(putR v p n).1, (putR v p n).2, rfl, h, putR_bad h, by unfold rootR; rw [if_neg h]⟩
set_option maxRecDepth 10000 in
theorem P_OutputBack {p : List (List UInt8)} (hp : p.length = 3) {n : Nat} (hn : n < 18446744073709551616) (v : Int) : Pure Tryd.prog 5 [.int .i64 v, pV p, uV n].toArray (.bool true) := by
  refine pure_of_HC Tryd.func5 rfl rfl fun w => ?_
  rcases put_cases v p hp hn with ⟨s, e, hu, he, hg, hvv, hsl, hv1, hr⟩ | ⟨s, e, hu, he, hs, hr⟩
  case inl =>
    refine HC_seq fun K1 hK1 => ?_
    refine HC_region ?_
    all_goals refine HL_box (cs := List.toArray _) rfl rfl rfl rfl fun r1 => ?_
    all_goals refine HL_r rfl rfl rfl rfl (R_assign rfl) ?_
    all_goals refine HL_nil ?_
    all_goals (
      refine HQ_then ?_
      refine hK1 _ _ _ _ ?_; clear hK1 K1
      refine HC_seq fun K2 hK2 => ?_
      refine HC_region ?_
      all_goals refine HL_callP rfl rfl rfl (enters_of Tryd.func12 (by kernel_rfl) rfl) P_works21 ?_
      all_goals refine HL_r rfl rfl rfl rfl (R_assign rfl) ?_
      all_goals refine HL_nil ?_
      all_goals (
        refine HQ_then ?_
        refine hK2 _ _ _ _ ?_; clear hK2 K2
        refine HC_seq fun K3 hK3 => ?_
        refine HC_seq fun K4 hK4 => ?_
        refine HC_region ?_
        all_goals refine HL_r rfl rfl rfl rfl (R_move rfl) ?_
        all_goals refine HL_r rfl rfl rfl rfl (R_pure rfl rfl rfl) ?_
        all_goals refine HL_nil ?_
        all_goals (
          refine HQ_then ?_
          refine hK4 _ _ _ _ ?_; clear hK4 K4
          refine HC_cond rfl (fun h5 => ?_) (fun h5 => ?_)
          · try exact Bool.noConfusion h5
            all_goals try simp only [decide_eq_true_eq, decide_eq_false_iff_not, beq_iff_eq, beq_eq_false_iff_ne, bne_iff_ne, bne_eq_false_iff_eq, Bool.not_eq_true', Bool.not_eq_false', ne_eq, Int.not_lt, Int.not_le, ge_iff_le, gt_iff_lt] at h5
            all_goals (
              refine HC_seq fun K6 hK6 => ?_
              refine HC_region ?_
              all_goals refine HL_r rfl rfl rfl rfl (R_assign rfl) ?_
              all_goals refine HL_nil ?_
              all_goals (
                refine HQ_then ?_
                refine hK6 _ _ _ _ ?_; clear hK6 K6
                refine HC_ret ?_
                refine HQ_thenR ?_; clear hK3 K3
                refine HQ_post rfl rfl (.cons (res_tmp rfl) .nil) (fun w1 hs1 => ?_)
                exact ⟨rfl, hs1.keep⟩
                skip)
              skip)
          · try exact Bool.noConfusion h5
            all_goals try simp only [decide_eq_true_eq, decide_eq_false_iff_not, beq_iff_eq, beq_eq_false_iff_ne, bne_iff_ne, bne_eq_false_iff_eq, Bool.not_eq_true', Bool.not_eq_false', ne_eq, Int.not_lt, Int.not_le, ge_iff_le, gt_iff_lt] at h5
            all_goals (
              refine HC_skip ?_
              refine HQ_then ?_
              refine hK3 _ _ _ _ ?_; clear hK3 K3
              refine HC_seq fun K7 hK7 => ?_
              refine HC_region ?_
              all_goals first
                | (refine HL_r rfl rfl rfl rfl (R_loadArr (n := 3) rfl (known_L (k := 0) rfl) rfl rfl (by first | (with_reducible (rw [List.length_map]; first | exact hp | exact hq | exact getR_p3 _)) | exact rfl)) ?_)
                | (refine HL_r rfl rfl rfl rfl (R_loadArr (n := 3) rfl (known_L (k := 1) rfl) rfl rfl (by first | (with_reducible (rw [List.length_map]; first | exact hp | exact hq | exact getR_p3 _)) | exact rfl)) ?_)
                | (refine HL_r rfl rfl rfl rfl (R_loadArr (n := 3) rfl (known_L (k := 2) rfl) rfl rfl (by first | (with_reducible (rw [List.length_map]; first | exact hp | exact hq | exact getR_p3 _)) | exact rfl)) ?_)
                | (refine HL_r rfl rfl rfl rfl (R_loadArr (n := 3) rfl (known_L (k := 3) rfl) rfl rfl (by first | (with_reducible (rw [List.length_map]; first | exact hp | exact hq | exact getR_p3 _)) | exact rfl)) ?_)
                | (refine HL_r rfl rfl rfl rfl (R_loadArr (n := 3) rfl (known_L (k := 4) rfl) rfl rfl (by first | (with_reducible (rw [List.length_map]; first | exact hp | exact hq | exact getR_p3 _)) | exact rfl)) ?_)
                | (refine HL_r rfl rfl rfl rfl (R_loadArr (n := 3) rfl (known_L (k := 5) rfl) rfl rfl (by first | (with_reducible (rw [List.length_map]; first | exact hp | exact hq | exact getR_p3 _)) | exact rfl)) ?_)
                | (refine HL_r rfl rfl rfl rfl (R_loadArr (n := 3) rfl (known_L (k := 6) rfl) rfl rfl (by first | (with_reducible (rw [List.length_map]; first | exact hp | exact hq | exact getR_p3 _)) | exact rfl)) ?_)
              all_goals refine HL_callP rfl rfl rfl (enters_of Tryd.func13 (by kernel_rfl) rfl) (P_few hp) ?_
              all_goals refine HL_r rfl rfl rfl rfl (R_assign rfl) ?_
              all_goals refine HL_nil ?_
              all_goals (
                refine HQ_then ?_
                refine hK7 _ _ _ _ ?_; clear hK7 K7
                refine HC_seq fun K8 hK8 => ?_
                refine HC_seq fun K9 hK9 => ?_
                refine HC_region ?_
                all_goals refine HL_r rfl rfl rfl rfl (R_move rfl) ?_
                all_goals refine HL_r rfl rfl rfl rfl (R_pure rfl rfl rfl) ?_
                all_goals refine HL_nil ?_
                all_goals (
                  refine HQ_then ?_
                  refine hK9 _ _ _ _ ?_; clear hK9 K9
                  refine HC_cond rfl (fun h10 => ?_) (fun h10 => ?_)
                  · try exact Bool.noConfusion h10
                    all_goals try simp only [decide_eq_true_eq, decide_eq_false_iff_not, beq_iff_eq, beq_eq_false_iff_ne, bne_iff_ne, bne_eq_false_iff_eq, Bool.not_eq_true', Bool.not_eq_false', ne_eq, Int.not_lt, Int.not_le, ge_iff_le, gt_iff_lt] at h10
                    all_goals (
                      refine HC_seq fun K11 hK11 => ?_
                      refine HC_region ?_
                      all_goals refine HL_r rfl rfl rfl rfl (R_move rfl) ?_
                      all_goals refine HL_r rfl rfl rfl rfl (R_assign rfl) ?_
                      all_goals refine HL_nil ?_
                      all_goals (
                        refine HQ_then ?_
                        refine hK11 _ _ _ _ ?_; clear hK11 K11
                        refine HC_ret ?_
                        refine HQ_thenR ?_; clear hK8 K8
                        refine HQ_post rfl rfl (.cons (res_tmp rfl) .nil) (fun w1 hs1 => ?_)
                        exact ⟨rfl, hs1.keep⟩
                        skip)
                      skip)
                  · try exact Bool.noConfusion h10
                    all_goals try simp only [decide_eq_true_eq, decide_eq_false_iff_not, beq_iff_eq, beq_eq_false_iff_ne, bne_iff_ne, bne_eq_false_iff_eq, Bool.not_eq_true', Bool.not_eq_false', ne_eq, Int.not_lt, Int.not_le, ge_iff_le, gt_iff_lt] at h10
                    all_goals (
                      refine HC_skip ?_
                      refine HQ_then ?_
                      refine hK8 _ _ _ _ ?_; clear hK8 K8
                      refine HC_seq fun K12 hK12 => ?_
                      refine HC_region ?_
                      all_goals refine HL_r rfl rfl rfl rfl (R_move rfl) ?_
                      all_goals first
                        | (refine HL_r rfl rfl rfl rfl (R_loadArr (n := 3) rfl (known_L (k := 0) rfl) rfl rfl (by first | (with_reducible (rw [List.length_map]; first | exact hp | exact hq | exact getR_p3 _)) | exact rfl)) ?_)
                        | (refine HL_r rfl rfl rfl rfl (R_loadArr (n := 3) rfl (known_L (k := 1) rfl) rfl rfl (by first | (with_reducible (rw [List.length_map]; first | exact hp | exact hq | exact getR_p3 _)) | exact rfl)) ?_)
                        | (refine HL_r rfl rfl rfl rfl (R_loadArr (n := 3) rfl (known_L (k := 2) rfl) rfl rfl (by first | (with_reducible (rw [List.length_map]; first | exact hp | exact hq | exact getR_p3 _)) | exact rfl)) ?_)
                        | (refine HL_r rfl rfl rfl rfl (R_loadArr (n := 3) rfl (known_L (k := 3) rfl) rfl rfl (by first | (with_reducible (rw [List.length_map]; first | exact hp | exact hq | exact getR_p3 _)) | exact rfl)) ?_)
                        | (refine HL_r rfl rfl rfl rfl (R_loadArr (n := 3) rfl (known_L (k := 4) rfl) rfl rfl (by first | (with_reducible (rw [List.length_map]; first | exact hp | exact hq | exact getR_p3 _)) | exact rfl)) ?_)
                        | (refine HL_r rfl rfl rfl rfl (R_loadArr (n := 3) rfl (known_L (k := 5) rfl) rfl rfl (by first | (with_reducible (rw [List.length_map]; first | exact hp | exact hq | exact getR_p3 _)) | exact rfl)) ?_)
                        | (refine HL_r rfl rfl rfl rfl (R_loadArr (n := 3) rfl (known_L (k := 6) rfl) rfl rfl (by first | (with_reducible (rw [List.length_map]; first | exact hp | exact hq | exact getR_p3 _)) | exact rfl)) ?_)
                      all_goals refine HL_r rfl rfl rfl rfl (R_move rfl) ?_
                      all_goals refine HL_callP rfl rfl rfl (enters_of Tryd.func14 (by kernel_rfl) rfl) (P_out_Put hp hn v) ?_; refine HL_as (show _ = Value.tuple #[.string (bs s), .int .i64 e] from by rw [hu]; rfl) ?_
                      all_goals refine HL_r rfl rfl rfl rfl (R_move rfl) ?_
                      all_goals refine HL_r rfl rfl rfl rfl (R_extract rfl rfl) ?_
                      all_goals refine HL_r rfl rfl rfl rfl (R_extract rfl rfl) ?_
                      all_goals refine HL_r rfl rfl rfl rfl (R_assign rfl) ?_
                      all_goals refine HL_r rfl rfl rfl rfl (R_assign rfl) ?_
                      all_goals refine HL_nil ?_
                      all_goals (
                        refine HQ_then ?_
                        refine hK12 _ _ _ _ ?_; clear hK12 K12
                        refine HC_seq fun K13 hK13 => ?_
                        refine HC_region ?_
                        all_goals refine HL_r rfl rfl rfl rfl (R_move rfl) ?_
                        all_goals first
                          | (refine HL_r rfl rfl rfl rfl (R_loadArr (n := 3) rfl (known_L (k := 0) rfl) rfl rfl (by first | (with_reducible (rw [List.length_map]; first | exact hp | exact hq | exact getR_p3 _)) | exact rfl)) ?_)
                          | (refine HL_r rfl rfl rfl rfl (R_loadArr (n := 3) rfl (known_L (k := 1) rfl) rfl rfl (by first | (with_reducible (rw [List.length_map]; first | exact hp | exact hq | exact getR_p3 _)) | exact rfl)) ?_)
                          | (refine HL_r rfl rfl rfl rfl (R_loadArr (n := 3) rfl (known_L (k := 2) rfl) rfl rfl (by first | (with_reducible (rw [List.length_map]; first | exact hp | exact hq | exact getR_p3 _)) | exact rfl)) ?_)
                          | (refine HL_r rfl rfl rfl rfl (R_loadArr (n := 3) rfl (known_L (k := 3) rfl) rfl rfl (by first | (with_reducible (rw [List.length_map]; first | exact hp | exact hq | exact getR_p3 _)) | exact rfl)) ?_)
                          | (refine HL_r rfl rfl rfl rfl (R_loadArr (n := 3) rfl (known_L (k := 4) rfl) rfl rfl (by first | (with_reducible (rw [List.length_map]; first | exact hp | exact hq | exact getR_p3 _)) | exact rfl)) ?_)
                          | (refine HL_r rfl rfl rfl rfl (R_loadArr (n := 3) rfl (known_L (k := 5) rfl) rfl rfl (by first | (with_reducible (rw [List.length_map]; first | exact hp | exact hq | exact getR_p3 _)) | exact rfl)) ?_)
                          | (refine HL_r rfl rfl rfl rfl (R_loadArr (n := 3) rfl (known_L (k := 6) rfl) rfl rfl (by first | (with_reducible (rw [List.length_map]; first | exact hp | exact hq | exact getR_p3 _)) | exact rfl)) ?_)
                        all_goals refine HL_r rfl rfl rfl rfl (R_move rfl) ?_
                        all_goals refine HL_callP rfl rfl rfl (enters_of Tryd.func16 (by kernel_rfl) rfl) (P_out_Root hp hn v) ?_; refine HL_as (show _ = Value.tuple #[.string (bs (kec s)), .int .i64 0] from by rw [hr]; rfl) ?_
                        all_goals refine HL_r rfl rfl rfl rfl (R_move rfl) ?_
                        all_goals refine HL_r rfl rfl rfl rfl (R_extract rfl rfl) ?_
                        all_goals refine HL_r rfl rfl rfl rfl (R_extract rfl rfl) ?_
                        all_goals refine HL_r rfl rfl rfl rfl (R_assign rfl) ?_
                        all_goals refine HL_r rfl rfl rfl rfl (R_assign rfl) ?_
                        all_goals refine HL_nil ?_
                        all_goals (
                          refine HQ_then ?_
                          refine hK13 _ _ _ _ ?_; clear hK13 K13
                          refine HC_seq fun K14 hK14 => ?_
                          refine HC_seq fun K15 hK15 => ?_
                          refine HC_region ?_
                          all_goals refine HL_r rfl rfl rfl rfl (R_move rfl) ?_
                          all_goals refine HL_r rfl rfl rfl rfl (R_pure rfl rfl rfl) ?_
                          all_goals first
                            | (refine HL_as (show _ = Value.bool true from bool_eq' (ineF he)) ?_)
                            | (refine HL_as (show _ = Value.bool false from bool_eq' (ineF he)) ?_)
                            | skip
                          all_goals refine HL_nil ?_
                          all_goals (
                            refine HQ_then ?_
                            refine hK15 _ _ _ _ ?_; clear hK15 K15
                            refine HC_cond rfl (fun h16 => ?_) (fun h16 => ?_)
                            · try exact Bool.noConfusion h16
                              all_goals try simp only [decide_eq_true_eq, decide_eq_false_iff_not, beq_iff_eq, beq_eq_false_iff_ne, bne_iff_ne, bne_eq_false_iff_eq, Bool.not_eq_true', Bool.not_eq_false', ne_eq, Int.not_lt, Int.not_le, ge_iff_le, gt_iff_lt] at h16
                              all_goals (
                                refine HC_seq fun K17 hK17 => ?_
                                refine HC_region ?_
                                all_goals refine HL_r rfl rfl rfl rfl (R_move rfl) ?_
                                all_goals refine HL_r rfl rfl rfl rfl (R_move rfl) ?_
                                all_goals first
                                  | (refine HL_r rfl rfl rfl rfl (R_move rfl) ?_)
                                  | (refine HL_skip rfl rfl rfl ?_)
                                  | (refine HL_case 42 rfl (fun hb18 => ?_) (fun hb18 => ?_) <;> (try simp only [decide_eq_true_eq, decide_eq_false_iff_not, beq_iff_eq, beq_eq_false_iff_ne, bne_iff_ne, bne_eq_false_iff_eq, Bool.not_eq_true', Bool.not_eq_false', ne_eq, Int.not_lt, Int.not_le, ge_iff_le, gt_iff_lt] at hb18) <;> first | (refine HL_r rfl rfl rfl rfl (R_move rfl) ?_) | (refine HL_skip rfl rfl rfl ?_))
                                all_goals first
                                  | (refine HL_r rfl rfl rfl rfl (R_strEq rfl rfl) ?_)
                                  | (refine HL_skip rfl rfl rfl ?_)
                                  | (refine HL_case 42 rfl (fun hb19 => ?_) (fun hb19 => ?_) <;> (try simp only [decide_eq_true_eq, decide_eq_false_iff_not, beq_iff_eq, beq_eq_false_iff_ne, bne_iff_ne, bne_eq_false_iff_eq, Bool.not_eq_true', Bool.not_eq_false', ne_eq, Int.not_lt, Int.not_le, ge_iff_le, gt_iff_lt] at hb19) <;> first | (refine HL_r rfl rfl rfl rfl (R_strEq rfl rfl) ?_) | (refine HL_skip rfl rfl rfl ?_))
                                all_goals first
                                  | (refine HL_r rfl rfl rfl rfl (R_pickT rfl rfl) ?_)
                                  | (refine HL_r rfl rfl rfl rfl (R_pickF rfl rfl) ?_)
                                all_goals refine HL_r rfl rfl rfl rfl (R_move rfl) ?_
                                all_goals first
                                  | (refine HL_r rfl rfl rfl rfl (R_move rfl) ?_)
                                  | (refine HL_skip rfl rfl rfl ?_)
                                  | (refine HL_case 46 rfl (fun hb20 => ?_) (fun hb20 => ?_) <;> (try simp only [decide_eq_true_eq, decide_eq_false_iff_not, beq_iff_eq, beq_eq_false_iff_ne, bne_iff_ne, bne_eq_false_iff_eq, Bool.not_eq_true', Bool.not_eq_false', ne_eq, Int.not_lt, Int.not_le, ge_iff_le, gt_iff_lt] at hb20) <;> first | (refine HL_r rfl rfl rfl rfl (R_move rfl) ?_) | (refine HL_skip rfl rfl rfl ?_))
                                all_goals first
                                  | (refine HL_r rfl rfl rfl rfl (R_strEq rfl rfl) ?_)
                                  | (refine HL_skip rfl rfl rfl ?_)
                                  | (refine HL_case 46 rfl (fun hb21 => ?_) (fun hb21 => ?_) <;> (try simp only [decide_eq_true_eq, decide_eq_false_iff_not, beq_iff_eq, beq_eq_false_iff_ne, bne_iff_ne, bne_eq_false_iff_eq, Bool.not_eq_true', Bool.not_eq_false', ne_eq, Int.not_lt, Int.not_le, ge_iff_le, gt_iff_lt] at hb21) <;> first | (refine HL_r rfl rfl rfl rfl (R_strEq rfl rfl) ?_) | (refine HL_skip rfl rfl rfl ?_))
                                all_goals first
                                  | (refine HL_r rfl rfl rfl rfl (R_pickT rfl rfl) ?_)
                                  | (refine HL_r rfl rfl rfl rfl (R_pickF rfl rfl) ?_)
                                all_goals refine HL_r rfl rfl rfl rfl (R_move rfl) ?_
                                all_goals first
                                  | (refine HL_r rfl rfl rfl rfl (R_move rfl) ?_)
                                  | (refine HL_skip rfl rfl rfl ?_)
                                  | (refine HL_case 50 rfl (fun hb22 => ?_) (fun hb22 => ?_) <;> (try simp only [decide_eq_true_eq, decide_eq_false_iff_not, beq_iff_eq, beq_eq_false_iff_ne, bne_iff_ne, bne_eq_false_iff_eq, Bool.not_eq_true', Bool.not_eq_false', ne_eq, Int.not_lt, Int.not_le, ge_iff_le, gt_iff_lt] at hb22) <;> first | (refine HL_r rfl rfl rfl rfl (R_move rfl) ?_) | (refine HL_skip rfl rfl rfl ?_))
                                all_goals first
                                  | (refine HL_r rfl rfl rfl rfl (R_move rfl) ?_)
                                  | (refine HL_skip rfl rfl rfl ?_)
                                  | (refine HL_case 50 rfl (fun hb23 => ?_) (fun hb23 => ?_) <;> (try simp only [decide_eq_true_eq, decide_eq_false_iff_not, beq_iff_eq, beq_eq_false_iff_ne, bne_iff_ne, bne_eq_false_iff_eq, Bool.not_eq_true', Bool.not_eq_false', ne_eq, Int.not_lt, Int.not_le, ge_iff_le, gt_iff_lt] at hb23) <;> first | (refine HL_r rfl rfl rfl rfl (R_move rfl) ?_) | (refine HL_skip rfl rfl rfl ?_))
                                all_goals first
                                  | (refine HL_r rfl rfl rfl rfl (R_pure rfl rfl rfl) ?_)
                                  | (refine HL_skip rfl rfl rfl ?_)
                                  | (refine HL_case 50 rfl (fun hb24 => ?_) (fun hb24 => ?_) <;> (try simp only [decide_eq_true_eq, decide_eq_false_iff_not, beq_iff_eq, beq_eq_false_iff_ne, bne_iff_ne, bne_eq_false_iff_eq, Bool.not_eq_true', Bool.not_eq_false', ne_eq, Int.not_lt, Int.not_le, ge_iff_le, gt_iff_lt] at hb24) <;> first | (refine HL_r rfl rfl rfl rfl (R_pure rfl rfl rfl) ?_) | (refine HL_skip rfl rfl rfl ?_))
                                all_goals first
                                  | (refine HL_r rfl rfl rfl rfl (R_pickT rfl rfl) ?_)
                                  | (refine HL_r rfl rfl rfl rfl (R_pickF rfl rfl) ?_)
                                all_goals refine HL_r rfl rfl rfl rfl (R_assign rfl) ?_
                                all_goals refine HL_nil ?_
                                all_goals (
                                  refine HQ_then ?_
                                  refine hK17 _ _ _ _ ?_; clear hK17 K17
                                  refine HC_ret ?_
                                  refine HQ_thenR ?_; clear hK14 K14
                                  refine HQ_post rfl rfl (.cons (res_tmp rfl) .nil) (fun w1 hs1 => ?_)
                                  exact ⟨rfl, hs1.keep⟩
                                  skip)
                                skip)
                            · try exact Bool.noConfusion h16
                              all_goals try simp only [decide_eq_true_eq, decide_eq_false_iff_not, beq_iff_eq, beq_eq_false_iff_ne, bne_iff_ne, bne_eq_false_iff_eq, Bool.not_eq_true', Bool.not_eq_false', ne_eq, Int.not_lt, Int.not_le, ge_iff_le, gt_iff_lt] at h16
                              all_goals (
                                refine HC_skip ?_
                                refine HQ_then ?_
                                refine hK14 _ _ _ _ ?_; clear hK14 K14
                                refine HC_seq fun K25 hK25 => ?_
                                refine HC_region ?_
                                all_goals refine HL_r rfl rfl rfl rfl (R_move rfl) ?_
                                all_goals refine HL_callP rfl rfl rfl (enters_of Tryd.func18 (by kernel_rfl) rfl) (P_out_Get (s := s) (by omega)) ?_; refine HL_as (show _ = Value.tuple #[.int .i64 v, pV p, uV n, .int .i64 0] from by rw [hg]; simp only [resG, hvv]) ?_
                                all_goals refine HL_r rfl rfl rfl rfl (R_move rfl) ?_
                                all_goals refine HL_r rfl rfl rfl rfl (R_extract rfl rfl) ?_
                                all_goals refine HL_r rfl rfl rfl rfl (R_extract rfl rfl) ?_
                                all_goals refine HL_r rfl rfl rfl rfl (R_extract rfl rfl) ?_
                                all_goals refine HL_r rfl rfl rfl rfl (R_extract rfl rfl) ?_
                                all_goals refine HL_alloc (cs := #[_, _, _]) rfl rfl rfl rfl fun r2 => ?_
                                all_goals refine HL_r rfl rfl rfl rfl (R_assign rfl) ?_
                                all_goals first
                                  | (refine HL_storeArr (k := 0) (n := 3) rfl rfl rfl rfl rfl (by first | (with_reducible (rw [List.length_map]; first | exact hp | exact hq | exact getR_p3 _)) | exact rfl) (by first | (with_reducible (rw [List.length_map]; first | exact hp | exact hq | exact getR_p3 _)) | exact rfl) (by first | exact mapS_one _ | rfl) rfl ?_)
                                  | (refine HL_storeArr (k := 1) (n := 3) rfl rfl rfl rfl rfl (by first | (with_reducible (rw [List.length_map]; first | exact hp | exact hq | exact getR_p3 _)) | exact rfl) (by first | (with_reducible (rw [List.length_map]; first | exact hp | exact hq | exact getR_p3 _)) | exact rfl) (by first | exact mapS_one _ | rfl) rfl ?_)
                                  | (refine HL_storeArr (k := 2) (n := 3) rfl rfl rfl rfl rfl (by first | (with_reducible (rw [List.length_map]; first | exact hp | exact hq | exact getR_p3 _)) | exact rfl) (by first | (with_reducible (rw [List.length_map]; first | exact hp | exact hq | exact getR_p3 _)) | exact rfl) (by first | exact mapS_one _ | rfl) rfl ?_)
                                  | (refine HL_storeArr (k := 3) (n := 3) rfl rfl rfl rfl rfl (by first | (with_reducible (rw [List.length_map]; first | exact hp | exact hq | exact getR_p3 _)) | exact rfl) (by first | (with_reducible (rw [List.length_map]; first | exact hp | exact hq | exact getR_p3 _)) | exact rfl) (by first | exact mapS_one _ | rfl) rfl ?_)
                                  | (refine HL_storeArr (k := 4) (n := 3) rfl rfl rfl rfl rfl (by first | (with_reducible (rw [List.length_map]; first | exact hp | exact hq | exact getR_p3 _)) | exact rfl) (by first | (with_reducible (rw [List.length_map]; first | exact hp | exact hq | exact getR_p3 _)) | exact rfl) (by first | exact mapS_one _ | rfl) rfl ?_)
                                  | (refine HL_storeArr (k := 5) (n := 3) rfl rfl rfl rfl rfl (by first | (with_reducible (rw [List.length_map]; first | exact hp | exact hq | exact getR_p3 _)) | exact rfl) (by first | (with_reducible (rw [List.length_map]; first | exact hp | exact hq | exact getR_p3 _)) | exact rfl) (by first | exact mapS_one _ | rfl) rfl ?_)
                                  | (refine HL_storeArr (k := 6) (n := 3) rfl rfl rfl rfl rfl (by first | (with_reducible (rw [List.length_map]; first | exact hp | exact hq | exact getR_p3 _)) | exact rfl) (by first | (with_reducible (rw [List.length_map]; first | exact hp | exact hq | exact getR_p3 _)) | exact rfl) (by first | exact mapS_one _ | rfl) rfl ?_)
                                all_goals refine HL_r rfl rfl rfl rfl (R_assign rfl) ?_
                                all_goals refine HL_r rfl rfl rfl rfl (R_assign rfl) ?_
                                all_goals refine HL_nil ?_
                                all_goals (
                                  refine HQ_then ?_
                                  refine hK25 _ _ _ _ ?_; clear hK25 K25
                                  refine HC_seq fun K26 hK26 => ?_
                                  refine HC_region ?_
                                  all_goals refine HL_r rfl rfl rfl rfl (R_move rfl) ?_
                                  all_goals refine HL_r rfl rfl rfl rfl (R_move rfl) ?_
                                  all_goals first
                                    | (refine HL_r rfl rfl rfl rfl (R_move rfl) ?_)
                                    | (refine HL_skip rfl rfl rfl ?_)
                                    | (refine HL_case 63 rfl (fun hb27 => ?_) (fun hb27 => ?_) <;> (try simp only [decide_eq_true_eq, decide_eq_false_iff_not, beq_iff_eq, beq_eq_false_iff_ne, bne_iff_ne, bne_eq_false_iff_eq, Bool.not_eq_true', Bool.not_eq_false', ne_eq, Int.not_lt, Int.not_le, ge_iff_le, gt_iff_lt] at hb27) <;> first | (refine HL_r rfl rfl rfl rfl (R_move rfl) ?_) | (refine HL_skip rfl rfl rfl ?_))
                                  all_goals first
                                    | (refine HL_r rfl rfl rfl rfl (R_pure rfl rfl rfl) ?_)
                                    | (refine HL_skip rfl rfl rfl ?_)
                                    | (refine HL_case 63 rfl (fun hb28 => ?_) (fun hb28 => ?_) <;> (try simp only [decide_eq_true_eq, decide_eq_false_iff_not, beq_iff_eq, beq_eq_false_iff_ne, bne_iff_ne, bne_eq_false_iff_eq, Bool.not_eq_true', Bool.not_eq_false', ne_eq, Int.not_lt, Int.not_le, ge_iff_le, gt_iff_lt] at hb28) <;> first | (refine HL_r rfl rfl rfl rfl (R_pure rfl rfl rfl) ?_) | (refine HL_skip rfl rfl rfl ?_))
                                  all_goals first
                                    | (refine HL_as (show _ = Value.bool true from bool_eq' (rfl)) ?_)
                                    | (refine HL_as (show _ = Value.bool false from bool_eq' (rfl)) ?_)
                                    | skip
                                  all_goals first
                                    | (refine HL_r rfl rfl rfl rfl (R_pickT rfl rfl) ?_)
                                    | (refine HL_r rfl rfl rfl rfl (R_pickF rfl rfl) ?_)
                                  all_goals refine HL_r rfl rfl rfl rfl (R_move rfl) ?_
                                  all_goals first
                                    | (refine HL_r rfl rfl rfl rfl (R_move rfl) ?_)
                                    | (refine HL_skip rfl rfl rfl ?_)
                                    | (refine HL_case 67 rfl (fun hb29 => ?_) (fun hb29 => ?_) <;> (try simp only [decide_eq_true_eq, decide_eq_false_iff_not, beq_iff_eq, beq_eq_false_iff_ne, bne_iff_ne, bne_eq_false_iff_eq, Bool.not_eq_true', Bool.not_eq_false', ne_eq, Int.not_lt, Int.not_le, ge_iff_le, gt_iff_lt] at hb29) <;> first | (refine HL_r rfl rfl rfl rfl (R_move rfl) ?_) | (refine HL_skip rfl rfl rfl ?_))
                                  all_goals first
                                    | (refine HL_r rfl rfl rfl rfl (R_move rfl) ?_)
                                    | (refine HL_skip rfl rfl rfl ?_)
                                    | (refine HL_case 67 rfl (fun hb30 => ?_) (fun hb30 => ?_) <;> (try simp only [decide_eq_true_eq, decide_eq_false_iff_not, beq_iff_eq, beq_eq_false_iff_ne, bne_iff_ne, bne_eq_false_iff_eq, Bool.not_eq_true', Bool.not_eq_false', ne_eq, Int.not_lt, Int.not_le, ge_iff_le, gt_iff_lt] at hb30) <;> first | (refine HL_r rfl rfl rfl rfl (R_move rfl) ?_) | (refine HL_skip rfl rfl rfl ?_))
                                  all_goals first
                                    | (refine HL_r rfl rfl rfl rfl (R_pure rfl rfl rfl) ?_)
                                    | (refine HL_skip rfl rfl rfl ?_)
                                    | (refine HL_case 67 rfl (fun hb31 => ?_) (fun hb31 => ?_) <;> (try simp only [decide_eq_true_eq, decide_eq_false_iff_not, beq_iff_eq, beq_eq_false_iff_ne, bne_iff_ne, bne_eq_false_iff_eq, Bool.not_eq_true', Bool.not_eq_false', ne_eq, Int.not_lt, Int.not_le, ge_iff_le, gt_iff_lt] at hb31) <;> first | (refine HL_r rfl rfl rfl rfl (R_pure rfl rfl rfl) ?_) | (refine HL_skip rfl rfl rfl ?_))
                                  all_goals first
                                    | (refine HL_as (show _ = Value.bool true from bool_eq' (ieqT rfl)) ?_)
                                    | (refine HL_as (show _ = Value.bool false from bool_eq' (ieqT rfl)) ?_)
                                    | skip
                                  all_goals first
                                    | (refine HL_r rfl rfl rfl rfl (R_pickT rfl rfl) ?_)
                                    | (refine HL_r rfl rfl rfl rfl (R_pickF rfl rfl) ?_)
                                  all_goals refine HL_r rfl rfl rfl rfl (R_move rfl) ?_
                                  all_goals first
                                    | (refine HL_r rfl rfl rfl rfl (R_loadArr (n := 3) rfl (known_L (k := 0) rfl) rfl rfl (by first | (with_reducible (rw [List.length_map]; first | exact hp | exact hq | exact getR_p3 _)) | exact rfl)) ?_)
                                    | (refine HL_r rfl rfl rfl rfl (R_loadArr (n := 3) rfl (known_L (k := 1) rfl) rfl rfl (by first | (with_reducible (rw [List.length_map]; first | exact hp | exact hq | exact getR_p3 _)) | exact rfl)) ?_)
                                    | (refine HL_r rfl rfl rfl rfl (R_loadArr (n := 3) rfl (known_L (k := 2) rfl) rfl rfl (by first | (with_reducible (rw [List.length_map]; first | exact hp | exact hq | exact getR_p3 _)) | exact rfl)) ?_)
                                    | (refine HL_r rfl rfl rfl rfl (R_loadArr (n := 3) rfl (known_L (k := 3) rfl) rfl rfl (by first | (with_reducible (rw [List.length_map]; first | exact hp | exact hq | exact getR_p3 _)) | exact rfl)) ?_)
                                    | (refine HL_r rfl rfl rfl rfl (R_loadArr (n := 3) rfl (known_L (k := 4) rfl) rfl rfl (by first | (with_reducible (rw [List.length_map]; first | exact hp | exact hq | exact getR_p3 _)) | exact rfl)) ?_)
                                    | (refine HL_r rfl rfl rfl rfl (R_loadArr (n := 3) rfl (known_L (k := 5) rfl) rfl rfl (by first | (with_reducible (rw [List.length_map]; first | exact hp | exact hq | exact getR_p3 _)) | exact rfl)) ?_)
                                    | (refine HL_r rfl rfl rfl rfl (R_loadArr (n := 3) rfl (known_L (k := 6) rfl) rfl rfl (by first | (with_reducible (rw [List.length_map]; first | exact hp | exact hq | exact getR_p3 _)) | exact rfl)) ?_)
                                    | (refine HL_skip rfl rfl rfl ?_)
                                    | (refine HL_case 72 rfl (fun hb32 => ?_) (fun hb32 => ?_) <;> (try simp only [decide_eq_true_eq, decide_eq_false_iff_not, beq_iff_eq, beq_eq_false_iff_ne, bne_iff_ne, bne_eq_false_iff_eq, Bool.not_eq_true', Bool.not_eq_false', ne_eq, Int.not_lt, Int.not_le, ge_iff_le, gt_iff_lt] at hb32) <;> first | (refine HL_r rfl rfl rfl rfl (R_loadArr (n := 3) rfl (known_L (k := 0) rfl) rfl rfl (by first | (with_reducible (rw [List.length_map]; first | exact hp | exact hq | exact getR_p3 _)) | exact rfl)) ?_) | (refine HL_r rfl rfl rfl rfl (R_loadArr (n := 3) rfl (known_L (k := 1) rfl) rfl rfl (by first | (with_reducible (rw [List.length_map]; first | exact hp | exact hq | exact getR_p3 _)) | exact rfl)) ?_) | (refine HL_r rfl rfl rfl rfl (R_loadArr (n := 3) rfl (known_L (k := 2) rfl) rfl rfl (by first | (with_reducible (rw [List.length_map]; first | exact hp | exact hq | exact getR_p3 _)) | exact rfl)) ?_) | (refine HL_r rfl rfl rfl rfl (R_loadArr (n := 3) rfl (known_L (k := 3) rfl) rfl rfl (by first | (with_reducible (rw [List.length_map]; first | exact hp | exact hq | exact getR_p3 _)) | exact rfl)) ?_) | (refine HL_r rfl rfl rfl rfl (R_loadArr (n := 3) rfl (known_L (k := 4) rfl) rfl rfl (by first | (with_reducible (rw [List.length_map]; first | exact hp | exact hq | exact getR_p3 _)) | exact rfl)) ?_) | (refine HL_r rfl rfl rfl rfl (R_loadArr (n := 3) rfl (known_L (k := 5) rfl) rfl rfl (by first | (with_reducible (rw [List.length_map]; first | exact hp | exact hq | exact getR_p3 _)) | exact rfl)) ?_) | (refine HL_r rfl rfl rfl rfl (R_loadArr (n := 3) rfl (known_L (k := 6) rfl) rfl rfl (by first | (with_reducible (rw [List.length_map]; first | exact hp | exact hq | exact getR_p3 _)) | exact rfl)) ?_) | (refine HL_skip rfl rfl rfl ?_))
                                  all_goals first
                                    | (refine HL_r rfl rfl rfl rfl (R_loadArr (n := 3) rfl (known_L (k := 0) rfl) rfl rfl (by first | (with_reducible (rw [List.length_map]; first | exact hp | exact hq | exact getR_p3 _)) | exact rfl)) ?_)
                                    | (refine HL_r rfl rfl rfl rfl (R_loadArr (n := 3) rfl (known_L (k := 1) rfl) rfl rfl (by first | (with_reducible (rw [List.length_map]; first | exact hp | exact hq | exact getR_p3 _)) | exact rfl)) ?_)
                                    | (refine HL_r rfl rfl rfl rfl (R_loadArr (n := 3) rfl (known_L (k := 2) rfl) rfl rfl (by first | (with_reducible (rw [List.length_map]; first | exact hp | exact hq | exact getR_p3 _)) | exact rfl)) ?_)
                                    | (refine HL_r rfl rfl rfl rfl (R_loadArr (n := 3) rfl (known_L (k := 3) rfl) rfl rfl (by first | (with_reducible (rw [List.length_map]; first | exact hp | exact hq | exact getR_p3 _)) | exact rfl)) ?_)
                                    | (refine HL_r rfl rfl rfl rfl (R_loadArr (n := 3) rfl (known_L (k := 4) rfl) rfl rfl (by first | (with_reducible (rw [List.length_map]; first | exact hp | exact hq | exact getR_p3 _)) | exact rfl)) ?_)
                                    | (refine HL_r rfl rfl rfl rfl (R_loadArr (n := 3) rfl (known_L (k := 5) rfl) rfl rfl (by first | (with_reducible (rw [List.length_map]; first | exact hp | exact hq | exact getR_p3 _)) | exact rfl)) ?_)
                                    | (refine HL_r rfl rfl rfl rfl (R_loadArr (n := 3) rfl (known_L (k := 6) rfl) rfl rfl (by first | (with_reducible (rw [List.length_map]; first | exact hp | exact hq | exact getR_p3 _)) | exact rfl)) ?_)
                                    | (refine HL_skip rfl rfl rfl ?_)
                                    | (refine HL_case 72 rfl (fun hb33 => ?_) (fun hb33 => ?_) <;> (try simp only [decide_eq_true_eq, decide_eq_false_iff_not, beq_iff_eq, beq_eq_false_iff_ne, bne_iff_ne, bne_eq_false_iff_eq, Bool.not_eq_true', Bool.not_eq_false', ne_eq, Int.not_lt, Int.not_le, ge_iff_le, gt_iff_lt] at hb33) <;> first | (refine HL_r rfl rfl rfl rfl (R_loadArr (n := 3) rfl (known_L (k := 0) rfl) rfl rfl (by first | (with_reducible (rw [List.length_map]; first | exact hp | exact hq | exact getR_p3 _)) | exact rfl)) ?_) | (refine HL_r rfl rfl rfl rfl (R_loadArr (n := 3) rfl (known_L (k := 1) rfl) rfl rfl (by first | (with_reducible (rw [List.length_map]; first | exact hp | exact hq | exact getR_p3 _)) | exact rfl)) ?_) | (refine HL_r rfl rfl rfl rfl (R_loadArr (n := 3) rfl (known_L (k := 2) rfl) rfl rfl (by first | (with_reducible (rw [List.length_map]; first | exact hp | exact hq | exact getR_p3 _)) | exact rfl)) ?_) | (refine HL_r rfl rfl rfl rfl (R_loadArr (n := 3) rfl (known_L (k := 3) rfl) rfl rfl (by first | (with_reducible (rw [List.length_map]; first | exact hp | exact hq | exact getR_p3 _)) | exact rfl)) ?_) | (refine HL_r rfl rfl rfl rfl (R_loadArr (n := 3) rfl (known_L (k := 4) rfl) rfl rfl (by first | (with_reducible (rw [List.length_map]; first | exact hp | exact hq | exact getR_p3 _)) | exact rfl)) ?_) | (refine HL_r rfl rfl rfl rfl (R_loadArr (n := 3) rfl (known_L (k := 5) rfl) rfl rfl (by first | (with_reducible (rw [List.length_map]; first | exact hp | exact hq | exact getR_p3 _)) | exact rfl)) ?_) | (refine HL_r rfl rfl rfl rfl (R_loadArr (n := 3) rfl (known_L (k := 6) rfl) rfl rfl (by first | (with_reducible (rw [List.length_map]; first | exact hp | exact hq | exact getR_p3 _)) | exact rfl)) ?_) | (refine HL_skip rfl rfl rfl ?_))
                                  all_goals first
                                    | (refine HL_r rfl rfl rfl rfl (R_eqArr rfl rfl rfl rfl rfl (by kernel_rfl) (by first | (with_reducible (rw [List.length_map]; first | exact hp | exact hq | exact getR_p3 _)) | exact rfl) (by first | (with_reducible (rw [List.length_map]; first | exact hp | exact hq | exact getR_p3 _)) | exact rfl) (by first | exact scalS rfl _ | rfl) (by first | exact scalS rfl _ | rfl)) ?_)
                                    | (refine HL_skip rfl rfl rfl ?_)
                                    | (refine HL_case 72 rfl (fun hb34 => ?_) (fun hb34 => ?_) <;> (try simp only [decide_eq_true_eq, decide_eq_false_iff_not, beq_iff_eq, beq_eq_false_iff_ne, bne_iff_ne, bne_eq_false_iff_eq, Bool.not_eq_true', Bool.not_eq_false', ne_eq, Int.not_lt, Int.not_le, ge_iff_le, gt_iff_lt] at hb34) <;> first | (refine HL_r rfl rfl rfl rfl (R_eqArr rfl rfl rfl rfl rfl (by kernel_rfl) (by first | (with_reducible (rw [List.length_map]; first | exact hp | exact hq | exact getR_p3 _)) | exact rfl) (by first | (with_reducible (rw [List.length_map]; first | exact hp | exact hq | exact getR_p3 _)) | exact rfl) (by first | exact scalS rfl _ | rfl) (by first | exact scalS rfl _ | rfl)) ?_) | (refine HL_skip rfl rfl rfl ?_))
                                  all_goals first
                                    | (refine HL_as (show _ = Value.bool true from bool_eq' (by exact eqP_of rfl)) ?_)
                                    | (refine HL_as (show _ = Value.bool false from bool_eq' (by exact eqP_of rfl)) ?_)
                                    | skip
                                  all_goals first
                                    | (refine HL_r rfl rfl rfl rfl (R_pickT rfl rfl) ?_)
                                    | (refine HL_r rfl rfl rfl rfl (R_pickF rfl rfl) ?_)
                                  all_goals refine HL_r rfl rfl rfl rfl (R_move rfl) ?_
                                  all_goals first
                                    | (refine HL_r rfl rfl rfl rfl (R_move rfl) ?_)
                                    | (refine HL_skip rfl rfl rfl ?_)
                                    | (refine HL_case 77 rfl (fun hb35 => ?_) (fun hb35 => ?_) <;> (try simp only [decide_eq_true_eq, decide_eq_false_iff_not, beq_iff_eq, beq_eq_false_iff_ne, bne_iff_ne, bne_eq_false_iff_eq, Bool.not_eq_true', Bool.not_eq_false', ne_eq, Int.not_lt, Int.not_le, ge_iff_le, gt_iff_lt] at hb35) <;> first | (refine HL_r rfl rfl rfl rfl (R_move rfl) ?_) | (refine HL_skip rfl rfl rfl ?_))
                                  all_goals first
                                    | (refine HL_r rfl rfl rfl rfl (R_move rfl) ?_)
                                    | (refine HL_skip rfl rfl rfl ?_)
                                    | (refine HL_case 77 rfl (fun hb36 => ?_) (fun hb36 => ?_) <;> (try simp only [decide_eq_true_eq, decide_eq_false_iff_not, beq_iff_eq, beq_eq_false_iff_ne, bne_iff_ne, bne_eq_false_iff_eq, Bool.not_eq_true', Bool.not_eq_false', ne_eq, Int.not_lt, Int.not_le, ge_iff_le, gt_iff_lt] at hb36) <;> first | (refine HL_r rfl rfl rfl rfl (R_move rfl) ?_) | (refine HL_skip rfl rfl rfl ?_))
                                  all_goals first
                                    | (refine HL_r rfl rfl rfl rfl (R_pure rfl rfl rfl) ?_)
                                    | (refine HL_skip rfl rfl rfl ?_)
                                    | (refine HL_case 77 rfl (fun hb37 => ?_) (fun hb37 => ?_) <;> (try simp only [decide_eq_true_eq, decide_eq_false_iff_not, beq_iff_eq, beq_eq_false_iff_ne, bne_iff_ne, bne_eq_false_iff_eq, Bool.not_eq_true', Bool.not_eq_false', ne_eq, Int.not_lt, Int.not_le, ge_iff_le, gt_iff_lt] at hb37) <;> first | (refine HL_r rfl rfl rfl rfl (R_pure rfl rfl rfl) ?_) | (refine HL_skip rfl rfl rfl ?_))
                                  all_goals first
                                    | (refine HL_as (show _ = Value.bool true from bool_eq' (ieqT rfl)) ?_)
                                    | (refine HL_as (show _ = Value.bool false from bool_eq' (ieqT rfl)) ?_)
                                    | skip
                                  all_goals first
                                    | (refine HL_r rfl rfl rfl rfl (R_pickT rfl rfl) ?_)
                                    | (refine HL_r rfl rfl rfl rfl (R_pickF rfl rfl) ?_)
                                  all_goals refine HL_r rfl rfl rfl rfl (R_move rfl) ?_
                                  all_goals first
                                    | (refine HL_r rfl rfl rfl rfl (R_move rfl) ?_)
                                    | (refine HL_skip rfl rfl rfl ?_)
                                    | (refine HL_case 82 rfl (fun hb38 => ?_) (fun hb38 => ?_) <;> (try simp only [decide_eq_true_eq, decide_eq_false_iff_not, beq_iff_eq, beq_eq_false_iff_ne, bne_iff_ne, bne_eq_false_iff_eq, Bool.not_eq_true', Bool.not_eq_false', ne_eq, Int.not_lt, Int.not_le, ge_iff_le, gt_iff_lt] at hb38) <;> first | (refine HL_r rfl rfl rfl rfl (R_move rfl) ?_) | (refine HL_skip rfl rfl rfl ?_))
                                  all_goals first
                                    | (refine HL_r rfl rfl rfl rfl (R_pure rfl rfl rfl) ?_)
                                    | (refine HL_skip rfl rfl rfl ?_)
                                    | (refine HL_case 82 rfl (fun hb39 => ?_) (fun hb39 => ?_) <;> (try simp only [decide_eq_true_eq, decide_eq_false_iff_not, beq_iff_eq, beq_eq_false_iff_ne, bne_iff_ne, bne_eq_false_iff_eq, Bool.not_eq_true', Bool.not_eq_false', ne_eq, Int.not_lt, Int.not_le, ge_iff_le, gt_iff_lt] at hb39) <;> first | (refine HL_r rfl rfl rfl rfl (R_pure rfl rfl rfl) ?_) | (refine HL_skip rfl rfl rfl ?_))
                                  all_goals first
                                    | (refine HL_as (show _ = Value.bool true from bool_eq' (rfl)) ?_)
                                    | (refine HL_as (show _ = Value.bool false from bool_eq' (rfl)) ?_)
                                    | skip
                                  all_goals first
                                    | (refine HL_r rfl rfl rfl rfl (R_pickT rfl rfl) ?_)
                                    | (refine HL_r rfl rfl rfl rfl (R_pickF rfl rfl) ?_)
                                  all_goals refine HL_r rfl rfl rfl rfl (R_move rfl) ?_
                                  all_goals first
                                    | (refine HL_r rfl rfl rfl rfl (R_move rfl) ?_)
                                    | (refine HL_skip rfl rfl rfl ?_)
                                    | (refine HL_case 86 rfl (fun hb40 => ?_) (fun hb40 => ?_) <;> (try simp only [decide_eq_true_eq, decide_eq_false_iff_not, beq_iff_eq, beq_eq_false_iff_ne, bne_iff_ne, bne_eq_false_iff_eq, Bool.not_eq_true', Bool.not_eq_false', ne_eq, Int.not_lt, Int.not_le, ge_iff_le, gt_iff_lt] at hb40) <;> first | (refine HL_r rfl rfl rfl rfl (R_move rfl) ?_) | (refine HL_skip rfl rfl rfl ?_))
                                  all_goals first
                                    | (refine HL_r rfl rfl rfl rfl (R_move rfl) ?_)
                                    | (refine HL_skip rfl rfl rfl ?_)
                                    | (refine HL_case 86 rfl (fun hb41 => ?_) (fun hb41 => ?_) <;> (try simp only [decide_eq_true_eq, decide_eq_false_iff_not, beq_iff_eq, beq_eq_false_iff_ne, bne_iff_ne, bne_eq_false_iff_eq, Bool.not_eq_true', Bool.not_eq_false', ne_eq, Int.not_lt, Int.not_le, ge_iff_le, gt_iff_lt] at hb41) <;> first | (refine HL_r rfl rfl rfl rfl (R_move rfl) ?_) | (refine HL_skip rfl rfl rfl ?_))
                                  all_goals refine HL_callP rfl rfl rfl (enters_of Tryd.func20 (by kernel_rfl) rfl) (P_kec (s := s) (by omega)) ?_
                                  all_goals first
                                    | (refine HL_r rfl rfl rfl rfl (R_strEq rfl rfl) ?_)
                                    | (refine HL_skip rfl rfl rfl ?_)
                                    | (refine HL_case 86 rfl (fun hb42 => ?_) (fun hb42 => ?_) <;> (try simp only [decide_eq_true_eq, decide_eq_false_iff_not, beq_iff_eq, beq_eq_false_iff_ne, bne_iff_ne, bne_eq_false_iff_eq, Bool.not_eq_true', Bool.not_eq_false', ne_eq, Int.not_lt, Int.not_le, ge_iff_le, gt_iff_lt] at hb42) <;> first | (refine HL_r rfl rfl rfl rfl (R_strEq rfl rfl) ?_) | (refine HL_skip rfl rfl rfl ?_))
                                  all_goals first
                                    | (refine HL_as (show _ = Value.bool true from bool_eq' (decide_eq_true rfl)) ?_)
                                    | (refine HL_as (show _ = Value.bool false from bool_eq' (decide_eq_true rfl)) ?_)
                                    | skip
                                  all_goals first
                                    | (refine HL_r rfl rfl rfl rfl (R_pickT rfl rfl) ?_)
                                    | (refine HL_r rfl rfl rfl rfl (R_pickF rfl rfl) ?_)
                                  all_goals refine HL_r rfl rfl rfl rfl (R_assign rfl) ?_
                                  all_goals refine HL_nil ?_
                                  all_goals (
                                    refine HQ_then ?_
                                    refine hK26 _ _ _ _ ?_; clear hK26 K26
                                    refine HC_ret ?_
                                    refine HQ_post rfl rfl (.cons (res_tmp rfl) .nil) (fun w1 hs1 => ?_)
                                    exact ⟨rfl, hs1.keep⟩
                                    skip)
                                  skip)
                                skip)
                            skip)
                          skip)
                        skip)
                      skip)
                  skip)
                skip)
              skip)
          skip)
        skip)
      skip)
  case inr =>
    refine HC_seq fun K1 hK1 => ?_
    refine HC_region ?_
    all_goals refine HL_box (cs := List.toArray _) rfl rfl rfl rfl fun r1 => ?_
    all_goals refine HL_r rfl rfl rfl rfl (R_assign rfl) ?_
    all_goals refine HL_nil ?_
    all_goals (
      refine HQ_then ?_
      refine hK1 _ _ _ _ ?_; clear hK1 K1
      refine HC_seq fun K2 hK2 => ?_
      refine HC_region ?_
      all_goals refine HL_callP rfl rfl rfl (enters_of Tryd.func12 (by kernel_rfl) rfl) P_works21 ?_
      all_goals refine HL_r rfl rfl rfl rfl (R_assign rfl) ?_
      all_goals refine HL_nil ?_
      all_goals (
        refine HQ_then ?_
        refine hK2 _ _ _ _ ?_; clear hK2 K2
        refine HC_seq fun K3 hK3 => ?_
        refine HC_seq fun K4 hK4 => ?_
        refine HC_region ?_
        all_goals refine HL_r rfl rfl rfl rfl (R_move rfl) ?_
        all_goals refine HL_r rfl rfl rfl rfl (R_pure rfl rfl rfl) ?_
        all_goals refine HL_nil ?_
        all_goals (
          refine HQ_then ?_
          refine hK4 _ _ _ _ ?_; clear hK4 K4
          refine HC_cond rfl (fun h5 => ?_) (fun h5 => ?_)
          · try exact Bool.noConfusion h5
            all_goals try simp only [decide_eq_true_eq, decide_eq_false_iff_not, beq_iff_eq, beq_eq_false_iff_ne, bne_iff_ne, bne_eq_false_iff_eq, Bool.not_eq_true', Bool.not_eq_false', ne_eq, Int.not_lt, Int.not_le, ge_iff_le, gt_iff_lt] at h5
            all_goals (
              refine HC_seq fun K6 hK6 => ?_
              refine HC_region ?_
              all_goals refine HL_r rfl rfl rfl rfl (R_assign rfl) ?_
              all_goals refine HL_nil ?_
              all_goals (
                refine HQ_then ?_
                refine hK6 _ _ _ _ ?_; clear hK6 K6
                refine HC_ret ?_
                refine HQ_thenR ?_; clear hK3 K3
                refine HQ_post rfl rfl (.cons (res_tmp rfl) .nil) (fun w1 hs1 => ?_)
                exact ⟨rfl, hs1.keep⟩
                skip)
              skip)
          · try exact Bool.noConfusion h5
            all_goals try simp only [decide_eq_true_eq, decide_eq_false_iff_not, beq_iff_eq, beq_eq_false_iff_ne, bne_iff_ne, bne_eq_false_iff_eq, Bool.not_eq_true', Bool.not_eq_false', ne_eq, Int.not_lt, Int.not_le, ge_iff_le, gt_iff_lt] at h5
            all_goals (
              refine HC_skip ?_
              refine HQ_then ?_
              refine hK3 _ _ _ _ ?_; clear hK3 K3
              refine HC_seq fun K7 hK7 => ?_
              refine HC_region ?_
              all_goals first
                | (refine HL_r rfl rfl rfl rfl (R_loadArr (n := 3) rfl (known_L (k := 0) rfl) rfl rfl (by first | (with_reducible (rw [List.length_map]; first | exact hp | exact hq | exact getR_p3 _)) | exact rfl)) ?_)
                | (refine HL_r rfl rfl rfl rfl (R_loadArr (n := 3) rfl (known_L (k := 1) rfl) rfl rfl (by first | (with_reducible (rw [List.length_map]; first | exact hp | exact hq | exact getR_p3 _)) | exact rfl)) ?_)
                | (refine HL_r rfl rfl rfl rfl (R_loadArr (n := 3) rfl (known_L (k := 2) rfl) rfl rfl (by first | (with_reducible (rw [List.length_map]; first | exact hp | exact hq | exact getR_p3 _)) | exact rfl)) ?_)
                | (refine HL_r rfl rfl rfl rfl (R_loadArr (n := 3) rfl (known_L (k := 3) rfl) rfl rfl (by first | (with_reducible (rw [List.length_map]; first | exact hp | exact hq | exact getR_p3 _)) | exact rfl)) ?_)
                | (refine HL_r rfl rfl rfl rfl (R_loadArr (n := 3) rfl (known_L (k := 4) rfl) rfl rfl (by first | (with_reducible (rw [List.length_map]; first | exact hp | exact hq | exact getR_p3 _)) | exact rfl)) ?_)
                | (refine HL_r rfl rfl rfl rfl (R_loadArr (n := 3) rfl (known_L (k := 5) rfl) rfl rfl (by first | (with_reducible (rw [List.length_map]; first | exact hp | exact hq | exact getR_p3 _)) | exact rfl)) ?_)
                | (refine HL_r rfl rfl rfl rfl (R_loadArr (n := 3) rfl (known_L (k := 6) rfl) rfl rfl (by first | (with_reducible (rw [List.length_map]; first | exact hp | exact hq | exact getR_p3 _)) | exact rfl)) ?_)
              all_goals refine HL_callP rfl rfl rfl (enters_of Tryd.func13 (by kernel_rfl) rfl) (P_few hp) ?_
              all_goals refine HL_r rfl rfl rfl rfl (R_assign rfl) ?_
              all_goals refine HL_nil ?_
              all_goals (
                refine HQ_then ?_
                refine hK7 _ _ _ _ ?_; clear hK7 K7
                refine HC_seq fun K8 hK8 => ?_
                refine HC_seq fun K9 hK9 => ?_
                refine HC_region ?_
                all_goals refine HL_r rfl rfl rfl rfl (R_move rfl) ?_
                all_goals refine HL_r rfl rfl rfl rfl (R_pure rfl rfl rfl) ?_
                all_goals refine HL_nil ?_
                all_goals (
                  refine HQ_then ?_
                  refine hK9 _ _ _ _ ?_; clear hK9 K9
                  refine HC_cond rfl (fun h10 => ?_) (fun h10 => ?_)
                  · try exact Bool.noConfusion h10
                    all_goals try simp only [decide_eq_true_eq, decide_eq_false_iff_not, beq_iff_eq, beq_eq_false_iff_ne, bne_iff_ne, bne_eq_false_iff_eq, Bool.not_eq_true', Bool.not_eq_false', ne_eq, Int.not_lt, Int.not_le, ge_iff_le, gt_iff_lt] at h10
                    all_goals (
                      refine HC_seq fun K11 hK11 => ?_
                      refine HC_region ?_
                      all_goals refine HL_r rfl rfl rfl rfl (R_move rfl) ?_
                      all_goals refine HL_r rfl rfl rfl rfl (R_assign rfl) ?_
                      all_goals refine HL_nil ?_
                      all_goals (
                        refine HQ_then ?_
                        refine hK11 _ _ _ _ ?_; clear hK11 K11
                        refine HC_ret ?_
                        refine HQ_thenR ?_; clear hK8 K8
                        refine HQ_post rfl rfl (.cons (res_tmp rfl) .nil) (fun w1 hs1 => ?_)
                        exact ⟨rfl, hs1.keep⟩
                        skip)
                      skip)
                  · try exact Bool.noConfusion h10
                    all_goals try simp only [decide_eq_true_eq, decide_eq_false_iff_not, beq_iff_eq, beq_eq_false_iff_ne, bne_iff_ne, bne_eq_false_iff_eq, Bool.not_eq_true', Bool.not_eq_false', ne_eq, Int.not_lt, Int.not_le, ge_iff_le, gt_iff_lt] at h10
                    all_goals (
                      refine HC_skip ?_
                      refine HQ_then ?_
                      refine hK8 _ _ _ _ ?_; clear hK8 K8
                      refine HC_seq fun K12 hK12 => ?_
                      refine HC_region ?_
                      all_goals refine HL_r rfl rfl rfl rfl (R_move rfl) ?_
                      all_goals first
                        | (refine HL_r rfl rfl rfl rfl (R_loadArr (n := 3) rfl (known_L (k := 0) rfl) rfl rfl (by first | (with_reducible (rw [List.length_map]; first | exact hp | exact hq | exact getR_p3 _)) | exact rfl)) ?_)
                        | (refine HL_r rfl rfl rfl rfl (R_loadArr (n := 3) rfl (known_L (k := 1) rfl) rfl rfl (by first | (with_reducible (rw [List.length_map]; first | exact hp | exact hq | exact getR_p3 _)) | exact rfl)) ?_)
                        | (refine HL_r rfl rfl rfl rfl (R_loadArr (n := 3) rfl (known_L (k := 2) rfl) rfl rfl (by first | (with_reducible (rw [List.length_map]; first | exact hp | exact hq | exact getR_p3 _)) | exact rfl)) ?_)
                        | (refine HL_r rfl rfl rfl rfl (R_loadArr (n := 3) rfl (known_L (k := 3) rfl) rfl rfl (by first | (with_reducible (rw [List.length_map]; first | exact hp | exact hq | exact getR_p3 _)) | exact rfl)) ?_)
                        | (refine HL_r rfl rfl rfl rfl (R_loadArr (n := 3) rfl (known_L (k := 4) rfl) rfl rfl (by first | (with_reducible (rw [List.length_map]; first | exact hp | exact hq | exact getR_p3 _)) | exact rfl)) ?_)
                        | (refine HL_r rfl rfl rfl rfl (R_loadArr (n := 3) rfl (known_L (k := 5) rfl) rfl rfl (by first | (with_reducible (rw [List.length_map]; first | exact hp | exact hq | exact getR_p3 _)) | exact rfl)) ?_)
                        | (refine HL_r rfl rfl rfl rfl (R_loadArr (n := 3) rfl (known_L (k := 6) rfl) rfl rfl (by first | (with_reducible (rw [List.length_map]; first | exact hp | exact hq | exact getR_p3 _)) | exact rfl)) ?_)
                      all_goals refine HL_r rfl rfl rfl rfl (R_move rfl) ?_
                      all_goals refine HL_callP rfl rfl rfl (enters_of Tryd.func14 (by kernel_rfl) rfl) (P_out_Put hp hn v) ?_; refine HL_as (show _ = Value.tuple #[.string (bs s), .int .i64 e] from by rw [hu]; rfl) ?_
                      all_goals refine HL_r rfl rfl rfl rfl (R_move rfl) ?_
                      all_goals refine HL_r rfl rfl rfl rfl (R_extract rfl rfl) ?_
                      all_goals refine HL_r rfl rfl rfl rfl (R_extract rfl rfl) ?_
                      all_goals refine HL_r rfl rfl rfl rfl (R_assign rfl) ?_
                      all_goals refine HL_r rfl rfl rfl rfl (R_assign rfl) ?_
                      all_goals refine HL_nil ?_
                      all_goals (
                        refine HQ_then ?_
                        refine hK12 _ _ _ _ ?_; clear hK12 K12
                        refine HC_seq fun K13 hK13 => ?_
                        refine HC_region ?_
                        all_goals refine HL_r rfl rfl rfl rfl (R_move rfl) ?_
                        all_goals first
                          | (refine HL_r rfl rfl rfl rfl (R_loadArr (n := 3) rfl (known_L (k := 0) rfl) rfl rfl (by first | (with_reducible (rw [List.length_map]; first | exact hp | exact hq | exact getR_p3 _)) | exact rfl)) ?_)
                          | (refine HL_r rfl rfl rfl rfl (R_loadArr (n := 3) rfl (known_L (k := 1) rfl) rfl rfl (by first | (with_reducible (rw [List.length_map]; first | exact hp | exact hq | exact getR_p3 _)) | exact rfl)) ?_)
                          | (refine HL_r rfl rfl rfl rfl (R_loadArr (n := 3) rfl (known_L (k := 2) rfl) rfl rfl (by first | (with_reducible (rw [List.length_map]; first | exact hp | exact hq | exact getR_p3 _)) | exact rfl)) ?_)
                          | (refine HL_r rfl rfl rfl rfl (R_loadArr (n := 3) rfl (known_L (k := 3) rfl) rfl rfl (by first | (with_reducible (rw [List.length_map]; first | exact hp | exact hq | exact getR_p3 _)) | exact rfl)) ?_)
                          | (refine HL_r rfl rfl rfl rfl (R_loadArr (n := 3) rfl (known_L (k := 4) rfl) rfl rfl (by first | (with_reducible (rw [List.length_map]; first | exact hp | exact hq | exact getR_p3 _)) | exact rfl)) ?_)
                          | (refine HL_r rfl rfl rfl rfl (R_loadArr (n := 3) rfl (known_L (k := 5) rfl) rfl rfl (by first | (with_reducible (rw [List.length_map]; first | exact hp | exact hq | exact getR_p3 _)) | exact rfl)) ?_)
                          | (refine HL_r rfl rfl rfl rfl (R_loadArr (n := 3) rfl (known_L (k := 6) rfl) rfl rfl (by first | (with_reducible (rw [List.length_map]; first | exact hp | exact hq | exact getR_p3 _)) | exact rfl)) ?_)
                        all_goals refine HL_r rfl rfl rfl rfl (R_move rfl) ?_
                        all_goals refine HL_callP rfl rfl rfl (enters_of Tryd.func16 (by kernel_rfl) rfl) (P_out_Root hp hn v) ?_; refine HL_as (show _ = Value.tuple #[.string (bs []), .int .i64 e] from by rw [hr]; rfl) ?_
                        all_goals refine HL_r rfl rfl rfl rfl (R_move rfl) ?_
                        all_goals refine HL_r rfl rfl rfl rfl (R_extract rfl rfl) ?_
                        all_goals refine HL_r rfl rfl rfl rfl (R_extract rfl rfl) ?_
                        all_goals refine HL_r rfl rfl rfl rfl (R_assign rfl) ?_
                        all_goals refine HL_r rfl rfl rfl rfl (R_assign rfl) ?_
                        all_goals refine HL_nil ?_
                        all_goals (
                          refine HQ_then ?_
                          refine hK13 _ _ _ _ ?_; clear hK13 K13
                          refine HC_seq fun K14 hK14 => ?_
                          refine HC_seq fun K15 hK15 => ?_
                          refine HC_region ?_
                          all_goals refine HL_r rfl rfl rfl rfl (R_move rfl) ?_
                          all_goals refine HL_r rfl rfl rfl rfl (R_pure rfl rfl rfl) ?_
                          all_goals first
                            | (refine HL_as (show _ = Value.bool true from bool_eq' (ineT he)) ?_)
                            | (refine HL_as (show _ = Value.bool false from bool_eq' (ineT he)) ?_)
                            | skip
                          all_goals refine HL_nil ?_
                          all_goals (
                            refine HQ_then ?_
                            refine hK15 _ _ _ _ ?_; clear hK15 K15
                            refine HC_cond rfl (fun h16 => ?_) (fun h16 => ?_)
                            · try exact Bool.noConfusion h16
                              all_goals try simp only [decide_eq_true_eq, decide_eq_false_iff_not, beq_iff_eq, beq_eq_false_iff_ne, bne_iff_ne, bne_eq_false_iff_eq, Bool.not_eq_true', Bool.not_eq_false', ne_eq, Int.not_lt, Int.not_le, ge_iff_le, gt_iff_lt] at h16
                              all_goals (
                                refine HC_seq fun K17 hK17 => ?_
                                refine HC_region ?_
                                all_goals refine HL_r rfl rfl rfl rfl (R_move rfl) ?_
                                all_goals refine HL_r rfl rfl rfl rfl (R_move rfl) ?_
                                all_goals first
                                  | (refine HL_r rfl rfl rfl rfl (R_move rfl) ?_)
                                  | (refine HL_skip rfl rfl rfl ?_)
                                  | (refine HL_case 42 rfl (fun hb18 => ?_) (fun hb18 => ?_) <;> (try simp only [decide_eq_true_eq, decide_eq_false_iff_not, beq_iff_eq, beq_eq_false_iff_ne, bne_iff_ne, bne_eq_false_iff_eq, Bool.not_eq_true', Bool.not_eq_false', ne_eq, Int.not_lt, Int.not_le, ge_iff_le, gt_iff_lt] at hb18) <;> first | (refine HL_r rfl rfl rfl rfl (R_move rfl) ?_) | (refine HL_skip rfl rfl rfl ?_))
                                all_goals first
                                  | (refine HL_r rfl rfl rfl rfl (R_strEq rfl rfl) ?_)
                                  | (refine HL_skip rfl rfl rfl ?_)
                                  | (refine HL_case 42 rfl (fun hb19 => ?_) (fun hb19 => ?_) <;> (try simp only [decide_eq_true_eq, decide_eq_false_iff_not, beq_iff_eq, beq_eq_false_iff_ne, bne_iff_ne, bne_eq_false_iff_eq, Bool.not_eq_true', Bool.not_eq_false', ne_eq, Int.not_lt, Int.not_le, ge_iff_le, gt_iff_lt] at hb19) <;> first | (refine HL_r rfl rfl rfl rfl (R_strEq rfl rfl) ?_) | (refine HL_skip rfl rfl rfl ?_))
                                all_goals first
                                  | (refine HL_as (show _ = Value.bool true from bool_eq' (decide_eq_true hs)) ?_)
                                  | (refine HL_as (show _ = Value.bool false from bool_eq' (decide_eq_true hs)) ?_)
                                  | skip
                                all_goals first
                                  | (refine HL_r rfl rfl rfl rfl (R_pickT rfl rfl) ?_)
                                  | (refine HL_r rfl rfl rfl rfl (R_pickF rfl rfl) ?_)
                                all_goals refine HL_r rfl rfl rfl rfl (R_move rfl) ?_
                                all_goals first
                                  | (refine HL_r rfl rfl rfl rfl (R_move rfl) ?_)
                                  | (refine HL_skip rfl rfl rfl ?_)
                                  | (refine HL_case 46 rfl (fun hb20 => ?_) (fun hb20 => ?_) <;> (try simp only [decide_eq_true_eq, decide_eq_false_iff_not, beq_iff_eq, beq_eq_false_iff_ne, bne_iff_ne, bne_eq_false_iff_eq, Bool.not_eq_true', Bool.not_eq_false', ne_eq, Int.not_lt, Int.not_le, ge_iff_le, gt_iff_lt] at hb20) <;> first | (refine HL_r rfl rfl rfl rfl (R_move rfl) ?_) | (refine HL_skip rfl rfl rfl ?_))
                                all_goals first
                                  | (refine HL_r rfl rfl rfl rfl (R_strEq rfl rfl) ?_)
                                  | (refine HL_skip rfl rfl rfl ?_)
                                  | (refine HL_case 46 rfl (fun hb21 => ?_) (fun hb21 => ?_) <;> (try simp only [decide_eq_true_eq, decide_eq_false_iff_not, beq_iff_eq, beq_eq_false_iff_ne, bne_iff_ne, bne_eq_false_iff_eq, Bool.not_eq_true', Bool.not_eq_false', ne_eq, Int.not_lt, Int.not_le, ge_iff_le, gt_iff_lt] at hb21) <;> first | (refine HL_r rfl rfl rfl rfl (R_strEq rfl rfl) ?_) | (refine HL_skip rfl rfl rfl ?_))
                                all_goals first
                                  | (refine HL_as (show _ = Value.bool true from bool_eq' (rfl)) ?_)
                                  | (refine HL_as (show _ = Value.bool false from bool_eq' (rfl)) ?_)
                                  | skip
                                all_goals first
                                  | (refine HL_r rfl rfl rfl rfl (R_pickT rfl rfl) ?_)
                                  | (refine HL_r rfl rfl rfl rfl (R_pickF rfl rfl) ?_)
                                all_goals refine HL_r rfl rfl rfl rfl (R_move rfl) ?_
                                all_goals first
                                  | (refine HL_r rfl rfl rfl rfl (R_move rfl) ?_)
                                  | (refine HL_skip rfl rfl rfl ?_)
                                  | (refine HL_case 50 rfl (fun hb22 => ?_) (fun hb22 => ?_) <;> (try simp only [decide_eq_true_eq, decide_eq_false_iff_not, beq_iff_eq, beq_eq_false_iff_ne, bne_iff_ne, bne_eq_false_iff_eq, Bool.not_eq_true', Bool.not_eq_false', ne_eq, Int.not_lt, Int.not_le, ge_iff_le, gt_iff_lt] at hb22) <;> first | (refine HL_r rfl rfl rfl rfl (R_move rfl) ?_) | (refine HL_skip rfl rfl rfl ?_))
                                all_goals first
                                  | (refine HL_r rfl rfl rfl rfl (R_move rfl) ?_)
                                  | (refine HL_skip rfl rfl rfl ?_)
                                  | (refine HL_case 50 rfl (fun hb23 => ?_) (fun hb23 => ?_) <;> (try simp only [decide_eq_true_eq, decide_eq_false_iff_not, beq_iff_eq, beq_eq_false_iff_ne, bne_iff_ne, bne_eq_false_iff_eq, Bool.not_eq_true', Bool.not_eq_false', ne_eq, Int.not_lt, Int.not_le, ge_iff_le, gt_iff_lt] at hb23) <;> first | (refine HL_r rfl rfl rfl rfl (R_move rfl) ?_) | (refine HL_skip rfl rfl rfl ?_))
                                all_goals first
                                  | (refine HL_r rfl rfl rfl rfl (R_pure rfl rfl rfl) ?_)
                                  | (refine HL_skip rfl rfl rfl ?_)
                                  | (refine HL_case 50 rfl (fun hb24 => ?_) (fun hb24 => ?_) <;> (try simp only [decide_eq_true_eq, decide_eq_false_iff_not, beq_iff_eq, beq_eq_false_iff_ne, bne_iff_ne, bne_eq_false_iff_eq, Bool.not_eq_true', Bool.not_eq_false', ne_eq, Int.not_lt, Int.not_le, ge_iff_le, gt_iff_lt] at hb24) <;> first | (refine HL_r rfl rfl rfl rfl (R_pure rfl rfl rfl) ?_) | (refine HL_skip rfl rfl rfl ?_))
                                all_goals first
                                  | (refine HL_as (show _ = Value.bool true from bool_eq' (ieqT rfl)) ?_)
                                  | (refine HL_as (show _ = Value.bool false from bool_eq' (ieqT rfl)) ?_)
                                  | skip
                                all_goals first
                                  | (refine HL_r rfl rfl rfl rfl (R_pickT rfl rfl) ?_)
                                  | (refine HL_r rfl rfl rfl rfl (R_pickF rfl rfl) ?_)
                                all_goals refine HL_r rfl rfl rfl rfl (R_assign rfl) ?_
                                all_goals refine HL_nil ?_
                                all_goals (
                                  refine HQ_then ?_
                                  refine hK17 _ _ _ _ ?_; clear hK17 K17
                                  refine HC_ret ?_
                                  refine HQ_thenR ?_; clear hK14 K14
                                  refine HQ_post rfl rfl (.cons (res_tmp rfl) .nil) (fun w1 hs1 => ?_)
                                  exact ⟨rfl, hs1.keep⟩
                                  skip)
                                skip)
                            · try exact Bool.noConfusion h16
                              all_goals try simp only [decide_eq_true_eq, decide_eq_false_iff_not, beq_iff_eq, beq_eq_false_iff_ne, bne_iff_ne, bne_eq_false_iff_eq, Bool.not_eq_true', Bool.not_eq_false', ne_eq, Int.not_lt, Int.not_le, ge_iff_le, gt_iff_lt] at h16
                              all_goals (
                                refine HC_skip ?_
                                refine HQ_then ?_
                                refine hK14 _ _ _ _ ?_; clear hK14 K14
                                refine HC_seq fun K25 hK25 => ?_
                                refine HC_region ?_
                                all_goals refine HL_r rfl rfl rfl rfl (R_move rfl) ?_
                                all_goals refine HL_callP rfl rfl rfl (enters_of Tryd.func18 (by kernel_rfl) rfl) (P_output_Get ..) ?_
                                all_goals refine HL_r rfl rfl rfl rfl (R_move rfl) ?_
                                all_goals refine HL_r rfl rfl rfl rfl (R_extract rfl rfl) ?_
                                all_goals refine HL_r rfl rfl rfl rfl (R_extract rfl rfl) ?_
                                all_goals refine HL_r rfl rfl rfl rfl (R_extract rfl rfl) ?_
                                all_goals refine HL_r rfl rfl rfl rfl (R_extract rfl rfl) ?_
                                all_goals refine HL_alloc (cs := #[_, _, _]) rfl rfl rfl rfl fun r2 => ?_
                                all_goals refine HL_r rfl rfl rfl rfl (R_assign rfl) ?_
                                all_goals first
                                  | (refine HL_storeArr (k := 0) (n := 3) rfl rfl rfl rfl rfl (by first | (with_reducible (rw [List.length_map]; first | exact hp | exact hq | exact getR_p3 _)) | exact rfl) (by first | (with_reducible (rw [List.length_map]; first | exact hp | exact hq | exact getR_p3 _)) | exact rfl) (by first | exact mapS_one _ | rfl) rfl ?_)
                                  | (refine HL_storeArr (k := 1) (n := 3) rfl rfl rfl rfl rfl (by first | (with_reducible (rw [List.length_map]; first | exact hp | exact hq | exact getR_p3 _)) | exact rfl) (by first | (with_reducible (rw [List.length_map]; first | exact hp | exact hq | exact getR_p3 _)) | exact rfl) (by first | exact mapS_one _ | rfl) rfl ?_)
                                  | (refine HL_storeArr (k := 2) (n := 3) rfl rfl rfl rfl rfl (by first | (with_reducible (rw [List.length_map]; first | exact hp | exact hq | exact getR_p3 _)) | exact rfl) (by first | (with_reducible (rw [List.length_map]; first | exact hp | exact hq | exact getR_p3 _)) | exact rfl) (by first | exact mapS_one _ | rfl) rfl ?_)
                                  | (refine HL_storeArr (k := 3) (n := 3) rfl rfl rfl rfl rfl (by first | (with_reducible (rw [List.length_map]; first | exact hp | exact hq | exact getR_p3 _)) | exact rfl) (by first | (with_reducible (rw [List.length_map]; first | exact hp | exact hq | exact getR_p3 _)) | exact rfl) (by first | exact mapS_one _ | rfl) rfl ?_)
                                  | (refine HL_storeArr (k := 4) (n := 3) rfl rfl rfl rfl rfl (by first | (with_reducible (rw [List.length_map]; first | exact hp | exact hq | exact getR_p3 _)) | exact rfl) (by first | (with_reducible (rw [List.length_map]; first | exact hp | exact hq | exact getR_p3 _)) | exact rfl) (by first | exact mapS_one _ | rfl) rfl ?_)
                                  | (refine HL_storeArr (k := 5) (n := 3) rfl rfl rfl rfl rfl (by first | (with_reducible (rw [List.length_map]; first | exact hp | exact hq | exact getR_p3 _)) | exact rfl) (by first | (with_reducible (rw [List.length_map]; first | exact hp | exact hq | exact getR_p3 _)) | exact rfl) (by first | exact mapS_one _ | rfl) rfl ?_)
                                  | (refine HL_storeArr (k := 6) (n := 3) rfl rfl rfl rfl rfl (by first | (with_reducible (rw [List.length_map]; first | exact hp | exact hq | exact getR_p3 _)) | exact rfl) (by first | (with_reducible (rw [List.length_map]; first | exact hp | exact hq | exact getR_p3 _)) | exact rfl) (by first | exact mapS_one _ | rfl) rfl ?_)
                                all_goals refine HL_r rfl rfl rfl rfl (R_assign rfl) ?_
                                all_goals refine HL_r rfl rfl rfl rfl (R_assign rfl) ?_
                                all_goals refine HL_nil ?_
                                all_goals (
                                  refine HQ_then ?_
                                  refine hK25 _ _ _ _ ?_; clear hK25 K25
                                  refine HC_seq fun K26 hK26 => ?_
                                  refine HC_region ?_
                                  all_goals refine HL_r rfl rfl rfl rfl (R_move rfl) ?_
                                  all_goals refine HL_r rfl rfl rfl rfl (R_move rfl) ?_
                                  all_goals first
                                    | (refine HL_r rfl rfl rfl rfl (R_move rfl) ?_)
                                    | (refine HL_skip rfl rfl rfl ?_)
                                    | (refine HL_case 63 rfl (fun hb27 => ?_) (fun hb27 => ?_) <;> (try simp only [decide_eq_true_eq, decide_eq_false_iff_not, beq_iff_eq, beq_eq_false_iff_ne, bne_iff_ne, bne_eq_false_iff_eq, Bool.not_eq_true', Bool.not_eq_false', ne_eq, Int.not_lt, Int.not_le, ge_iff_le, gt_iff_lt] at hb27) <;> first | (refine HL_r rfl rfl rfl rfl (R_move rfl) ?_) | (refine HL_skip rfl rfl rfl ?_))
                                  all_goals first
                                    | (refine HL_r rfl rfl rfl rfl (R_pure rfl rfl rfl) ?_)
                                    | (refine HL_skip rfl rfl rfl ?_)
                                    | (refine HL_case 63 rfl (fun hb28 => ?_) (fun hb28 => ?_) <;> (try simp only [decide_eq_true_eq, decide_eq_false_iff_not, beq_iff_eq, beq_eq_false_iff_ne, bne_iff_ne, bne_eq_false_iff_eq, Bool.not_eq_true', Bool.not_eq_false', ne_eq, Int.not_lt, Int.not_le, ge_iff_le, gt_iff_lt] at hb28) <;> first | (refine HL_r rfl rfl rfl rfl (R_pure rfl rfl rfl) ?_) | (refine HL_skip rfl rfl rfl ?_))
                                  all_goals first
                                    | (refine HL_r rfl rfl rfl rfl (R_pickT rfl rfl) ?_)
                                    | (refine HL_r rfl rfl rfl rfl (R_pickF rfl rfl) ?_)
                                  all_goals refine HL_r rfl rfl rfl rfl (R_move rfl) ?_
                                  all_goals first
                                    | (refine HL_r rfl rfl rfl rfl (R_move rfl) ?_)
                                    | (refine HL_skip rfl rfl rfl ?_)
                                    | (refine HL_case 67 rfl (fun hb29 => ?_) (fun hb29 => ?_) <;> (try simp only [decide_eq_true_eq, decide_eq_false_iff_not, beq_iff_eq, beq_eq_false_iff_ne, bne_iff_ne, bne_eq_false_iff_eq, Bool.not_eq_true', Bool.not_eq_false', ne_eq, Int.not_lt, Int.not_le, ge_iff_le, gt_iff_lt] at hb29) <;> first | (refine HL_r rfl rfl rfl rfl (R_move rfl) ?_) | (refine HL_skip rfl rfl rfl ?_))
                                  all_goals first
                                    | (refine HL_r rfl rfl rfl rfl (R_move rfl) ?_)
                                    | (refine HL_skip rfl rfl rfl ?_)
                                    | (refine HL_case 67 rfl (fun hb30 => ?_) (fun hb30 => ?_) <;> (try simp only [decide_eq_true_eq, decide_eq_false_iff_not, beq_iff_eq, beq_eq_false_iff_ne, bne_iff_ne, bne_eq_false_iff_eq, Bool.not_eq_true', Bool.not_eq_false', ne_eq, Int.not_lt, Int.not_le, ge_iff_le, gt_iff_lt] at hb30) <;> first | (refine HL_r rfl rfl rfl rfl (R_move rfl) ?_) | (refine HL_skip rfl rfl rfl ?_))
                                  all_goals first
                                    | (refine HL_r rfl rfl rfl rfl (R_pure rfl rfl rfl) ?_)
                                    | (refine HL_skip rfl rfl rfl ?_)
                                    | (refine HL_case 67 rfl (fun hb31 => ?_) (fun hb31 => ?_) <;> (try simp only [decide_eq_true_eq, decide_eq_false_iff_not, beq_iff_eq, beq_eq_false_iff_ne, bne_iff_ne, bne_eq_false_iff_eq, Bool.not_eq_true', Bool.not_eq_false', ne_eq, Int.not_lt, Int.not_le, ge_iff_le, gt_iff_lt] at hb31) <;> first | (refine HL_r rfl rfl rfl rfl (R_pure rfl rfl rfl) ?_) | (refine HL_skip rfl rfl rfl ?_))
                                  all_goals first
                                    | (refine HL_r rfl rfl rfl rfl (R_pickT rfl rfl) ?_)
                                    | (refine HL_r rfl rfl rfl rfl (R_pickF rfl rfl) ?_)
                                  all_goals refine HL_r rfl rfl rfl rfl (R_move rfl) ?_
                                  all_goals first
                                    | (refine HL_r rfl rfl rfl rfl (R_loadArr (n := 3) rfl (known_L (k := 0) rfl) rfl rfl (by first | (with_reducible (rw [List.length_map]; first | exact hp | exact hq | exact getR_p3 _)) | exact rfl)) ?_)
                                    | (refine HL_r rfl rfl rfl rfl (R_loadArr (n := 3) rfl (known_L (k := 1) rfl) rfl rfl (by first | (with_reducible (rw [List.length_map]; first | exact hp | exact hq | exact getR_p3 _)) | exact rfl)) ?_)
                                    | (refine HL_r rfl rfl rfl rfl (R_loadArr (n := 3) rfl (known_L (k := 2) rfl) rfl rfl (by first | (with_reducible (rw [List.length_map]; first | exact hp | exact hq | exact getR_p3 _)) | exact rfl)) ?_)
                                    | (refine HL_r rfl rfl rfl rfl (R_loadArr (n := 3) rfl (known_L (k := 3) rfl) rfl rfl (by first | (with_reducible (rw [List.length_map]; first | exact hp | exact hq | exact getR_p3 _)) | exact rfl)) ?_)
                                    | (refine HL_r rfl rfl rfl rfl (R_loadArr (n := 3) rfl (known_L (k := 4) rfl) rfl rfl (by first | (with_reducible (rw [List.length_map]; first | exact hp | exact hq | exact getR_p3 _)) | exact rfl)) ?_)
                                    | (refine HL_r rfl rfl rfl rfl (R_loadArr (n := 3) rfl (known_L (k := 5) rfl) rfl rfl (by first | (with_reducible (rw [List.length_map]; first | exact hp | exact hq | exact getR_p3 _)) | exact rfl)) ?_)
                                    | (refine HL_r rfl rfl rfl rfl (R_loadArr (n := 3) rfl (known_L (k := 6) rfl) rfl rfl (by first | (with_reducible (rw [List.length_map]; first | exact hp | exact hq | exact getR_p3 _)) | exact rfl)) ?_)
                                    | (refine HL_skip rfl rfl rfl ?_)
                                    | (refine HL_case 72 rfl (fun hb32 => ?_) (fun hb32 => ?_) <;> (try simp only [decide_eq_true_eq, decide_eq_false_iff_not, beq_iff_eq, beq_eq_false_iff_ne, bne_iff_ne, bne_eq_false_iff_eq, Bool.not_eq_true', Bool.not_eq_false', ne_eq, Int.not_lt, Int.not_le, ge_iff_le, gt_iff_lt] at hb32) <;> first | (refine HL_r rfl rfl rfl rfl (R_loadArr (n := 3) rfl (known_L (k := 0) rfl) rfl rfl (by first | (with_reducible (rw [List.length_map]; first | exact hp | exact hq | exact getR_p3 _)) | exact rfl)) ?_) | (refine HL_r rfl rfl rfl rfl (R_loadArr (n := 3) rfl (known_L (k := 1) rfl) rfl rfl (by first | (with_reducible (rw [List.length_map]; first | exact hp | exact hq | exact getR_p3 _)) | exact rfl)) ?_) | (refine HL_r rfl rfl rfl rfl (R_loadArr (n := 3) rfl (known_L (k := 2) rfl) rfl rfl (by first | (with_reducible (rw [List.length_map]; first | exact hp | exact hq | exact getR_p3 _)) | exact rfl)) ?_) | (refine HL_r rfl rfl rfl rfl (R_loadArr (n := 3) rfl (known_L (k := 3) rfl) rfl rfl (by first | (with_reducible (rw [List.length_map]; first | exact hp | exact hq | exact getR_p3 _)) | exact rfl)) ?_) | (refine HL_r rfl rfl rfl rfl (R_loadArr (n := 3) rfl (known_L (k := 4) rfl) rfl rfl (by first | (with_reducible (rw [List.length_map]; first | exact hp | exact hq | exact getR_p3 _)) | exact rfl)) ?_) | (refine HL_r rfl rfl rfl rfl (R_loadArr (n := 3) rfl (known_L (k := 5) rfl) rfl rfl (by first | (with_reducible (rw [List.length_map]; first | exact hp | exact hq | exact getR_p3 _)) | exact rfl)) ?_) | (refine HL_r rfl rfl rfl rfl (R_loadArr (n := 3) rfl (known_L (k := 6) rfl) rfl rfl (by first | (with_reducible (rw [List.length_map]; first | exact hp | exact hq | exact getR_p3 _)) | exact rfl)) ?_) | (refine HL_skip rfl rfl rfl ?_))
                                  all_goals first
                                    | (refine HL_r rfl rfl rfl rfl (R_loadArr (n := 3) rfl (known_L (k := 0) rfl) rfl rfl (by first | (with_reducible (rw [List.length_map]; first | exact hp | exact hq | exact getR_p3 _)) | exact rfl)) ?_)
                                    | (refine HL_r rfl rfl rfl rfl (R_loadArr (n := 3) rfl (known_L (k := 1) rfl) rfl rfl (by first | (with_reducible (rw [List.length_map]; first | exact hp | exact hq | exact getR_p3 _)) | exact rfl)) ?_)
                                    | (refine HL_r rfl rfl rfl rfl (R_loadArr (n := 3) rfl (known_L (k := 2) rfl) rfl rfl (by first | (with_reducible (rw [List.length_map]; first | exact hp | exact hq | exact getR_p3 _)) | exact rfl)) ?_)
                                    | (refine HL_r rfl rfl rfl rfl (R_loadArr (n := 3) rfl (known_L (k := 3) rfl) rfl rfl (by first | (with_reducible (rw [List.length_map]; first | exact hp | exact hq | exact getR_p3 _)) | exact rfl)) ?_)
                                    | (refine HL_r rfl rfl rfl rfl (R_loadArr (n := 3) rfl (known_L (k := 4) rfl) rfl rfl (by first | (with_reducible (rw [List.length_map]; first | exact hp | exact hq | exact getR_p3 _)) | exact rfl)) ?_)
                                    | (refine HL_r rfl rfl rfl rfl (R_loadArr (n := 3) rfl (known_L (k := 5) rfl) rfl rfl (by first | (with_reducible (rw [List.length_map]; first | exact hp | exact hq | exact getR_p3 _)) | exact rfl)) ?_)
                                    | (refine HL_r rfl rfl rfl rfl (R_loadArr (n := 3) rfl (known_L (k := 6) rfl) rfl rfl (by first | (with_reducible (rw [List.length_map]; first | exact hp | exact hq | exact getR_p3 _)) | exact rfl)) ?_)
                                    | (refine HL_skip rfl rfl rfl ?_)
                                    | (refine HL_case 72 rfl (fun hb33 => ?_) (fun hb33 => ?_) <;> (try simp only [decide_eq_true_eq, decide_eq_false_iff_not, beq_iff_eq, beq_eq_false_iff_ne, bne_iff_ne, bne_eq_false_iff_eq, Bool.not_eq_true', Bool.not_eq_false', ne_eq, Int.not_lt, Int.not_le, ge_iff_le, gt_iff_lt] at hb33) <;> first | (refine HL_r rfl rfl rfl rfl (R_loadArr (n := 3) rfl (known_L (k := 0) rfl) rfl rfl (by first | (with_reducible (rw [List.length_map]; first | exact hp | exact hq | exact getR_p3 _)) | exact rfl)) ?_) | (refine HL_r rfl rfl rfl rfl (R_loadArr (n := 3) rfl (known_L (k := 1) rfl) rfl rfl (by first | (with_reducible (rw [List.length_map]; first | exact hp | exact hq | exact getR_p3 _)) | exact rfl)) ?_) | (refine HL_r rfl rfl rfl rfl (R_loadArr (n := 3) rfl (known_L (k := 2) rfl) rfl rfl (by first | (with_reducible (rw [List.length_map]; first | exact hp | exact hq | exact getR_p3 _)) | exact rfl)) ?_) | (refine HL_r rfl rfl rfl rfl (R_loadArr (n := 3) rfl (known_L (k := 3) rfl) rfl rfl (by first | (with_reducible (rw [List.length_map]; first | exact hp | exact hq | exact getR_p3 _)) | exact rfl)) ?_) | (refine HL_r rfl rfl rfl rfl (R_loadArr (n := 3) rfl (known_L (k := 4) rfl) rfl rfl (by first | (with_reducible (rw [List.length_map]; first | exact hp | exact hq | exact getR_p3 _)) | exact rfl)) ?_) | (refine HL_r rfl rfl rfl rfl (R_loadArr (n := 3) rfl (known_L (k := 5) rfl) rfl rfl (by first | (with_reducible (rw [List.length_map]; first | exact hp | exact hq | exact getR_p3 _)) | exact rfl)) ?_) | (refine HL_r rfl rfl rfl rfl (R_loadArr (n := 3) rfl (known_L (k := 6) rfl) rfl rfl (by first | (with_reducible (rw [List.length_map]; first | exact hp | exact hq | exact getR_p3 _)) | exact rfl)) ?_) | (refine HL_skip rfl rfl rfl ?_))
                                  all_goals first
                                    | (refine HL_r rfl rfl rfl rfl (R_eqArr rfl rfl rfl rfl rfl (by kernel_rfl) (by first | (with_reducible (rw [List.length_map]; first | exact hp | exact hq | exact getR_p3 _)) | exact rfl) (by first | (with_reducible (rw [List.length_map]; first | exact hp | exact hq | exact getR_p3 _)) | exact rfl) (by first | exact scalS rfl _ | rfl) (by first | exact scalS rfl _ | rfl)) ?_)
                                    | (refine HL_skip rfl rfl rfl ?_)
                                    | (refine HL_case 72 rfl (fun hb34 => ?_) (fun hb34 => ?_) <;> (try simp only [decide_eq_true_eq, decide_eq_false_iff_not, beq_iff_eq, beq_eq_false_iff_ne, bne_iff_ne, bne_eq_false_iff_eq, Bool.not_eq_true', Bool.not_eq_false', ne_eq, Int.not_lt, Int.not_le, ge_iff_le, gt_iff_lt] at hb34) <;> first | (refine HL_r rfl rfl rfl rfl (R_eqArr rfl rfl rfl rfl rfl (by kernel_rfl) (by first | (with_reducible (rw [List.length_map]; first | exact hp | exact hq | exact getR_p3 _)) | exact rfl) (by first | (with_reducible (rw [List.length_map]; first | exact hp | exact hq | exact getR_p3 _)) | exact rfl) (by first | exact scalS rfl _ | rfl) (by first | exact scalS rfl _ | rfl)) ?_) | (refine HL_skip rfl rfl rfl ?_))
                                  all_goals first
                                    | (refine HL_r rfl rfl rfl rfl (R_pickT rfl rfl) ?_)
                                    | (refine HL_r rfl rfl rfl rfl (R_pickF rfl rfl) ?_)
                                  all_goals refine HL_r rfl rfl rfl rfl (R_move rfl) ?_
                                  all_goals first
                                    | (refine HL_r rfl rfl rfl rfl (R_move rfl) ?_)
                                    | (refine HL_skip rfl rfl rfl ?_)
                                    | (refine HL_case 77 rfl (fun hb35 => ?_) (fun hb35 => ?_) <;> (try simp only [decide_eq_true_eq, decide_eq_false_iff_not, beq_iff_eq, beq_eq_false_iff_ne, bne_iff_ne, bne_eq_false_iff_eq, Bool.not_eq_true', Bool.not_eq_false', ne_eq, Int.not_lt, Int.not_le, ge_iff_le, gt_iff_lt] at hb35) <;> first | (refine HL_r rfl rfl rfl rfl (R_move rfl) ?_) | (refine HL_skip rfl rfl rfl ?_))
                                  all_goals first
                                    | (refine HL_r rfl rfl rfl rfl (R_move rfl) ?_)
                                    | (refine HL_skip rfl rfl rfl ?_)
                                    | (refine HL_case 77 rfl (fun hb36 => ?_) (fun hb36 => ?_) <;> (try simp only [decide_eq_true_eq, decide_eq_false_iff_not, beq_iff_eq, beq_eq_false_iff_ne, bne_iff_ne, bne_eq_false_iff_eq, Bool.not_eq_true', Bool.not_eq_false', ne_eq, Int.not_lt, Int.not_le, ge_iff_le, gt_iff_lt] at hb36) <;> first | (refine HL_r rfl rfl rfl rfl (R_move rfl) ?_) | (refine HL_skip rfl rfl rfl ?_))
                                  all_goals first
                                    | (refine HL_r rfl rfl rfl rfl (R_pure rfl rfl rfl) ?_)
                                    | (refine HL_skip rfl rfl rfl ?_)
                                    | (refine HL_case 77 rfl (fun hb37 => ?_) (fun hb37 => ?_) <;> (try simp only [decide_eq_true_eq, decide_eq_false_iff_not, beq_iff_eq, beq_eq_false_iff_ne, bne_iff_ne, bne_eq_false_iff_eq, Bool.not_eq_true', Bool.not_eq_false', ne_eq, Int.not_lt, Int.not_le, ge_iff_le, gt_iff_lt] at hb37) <;> first | (refine HL_r rfl rfl rfl rfl (R_pure rfl rfl rfl) ?_) | (refine HL_skip rfl rfl rfl ?_))
                                  all_goals first
                                    | (refine HL_r rfl rfl rfl rfl (R_pickT rfl rfl) ?_)
                                    | (refine HL_r rfl rfl rfl rfl (R_pickF rfl rfl) ?_)
                                  all_goals refine HL_r rfl rfl rfl rfl (R_move rfl) ?_
                                  all_goals first
                                    | (refine HL_r rfl rfl rfl rfl (R_move rfl) ?_)
                                    | (refine HL_skip rfl rfl rfl ?_)
                                    | (refine HL_case 82 rfl (fun hb38 => ?_) (fun hb38 => ?_) <;> (try simp only [decide_eq_true_eq, decide_eq_false_iff_not, beq_iff_eq, beq_eq_false_iff_ne, bne_iff_ne, bne_eq_false_iff_eq, Bool.not_eq_true', Bool.not_eq_false', ne_eq, Int.not_lt, Int.not_le, ge_iff_le, gt_iff_lt] at hb38) <;> first | (refine HL_r rfl rfl rfl rfl (R_move rfl) ?_) | (refine HL_skip rfl rfl rfl ?_))
                                  all_goals first
                                    | (refine HL_r rfl rfl rfl rfl (R_pure rfl rfl rfl) ?_)
                                    | (refine HL_skip rfl rfl rfl ?_)
                                    | (refine HL_case 82 rfl (fun hb39 => ?_) (fun hb39 => ?_) <;> (try simp only [decide_eq_true_eq, decide_eq_false_iff_not, beq_iff_eq, beq_eq_false_iff_ne, bne_iff_ne, bne_eq_false_iff_eq, Bool.not_eq_true', Bool.not_eq_false', ne_eq, Int.not_lt, Int.not_le, ge_iff_le, gt_iff_lt] at hb39) <;> first | (refine HL_r rfl rfl rfl rfl (R_pure rfl rfl rfl) ?_) | (refine HL_skip rfl rfl rfl ?_))
                                  all_goals first
                                    | (refine HL_r rfl rfl rfl rfl (R_pickT rfl rfl) ?_)
                                    | (refine HL_r rfl rfl rfl rfl (R_pickF rfl rfl) ?_)
                                  all_goals refine HL_r rfl rfl rfl rfl (R_move rfl) ?_
                                  all_goals first
                                    | (refine HL_r rfl rfl rfl rfl (R_move rfl) ?_)
                                    | (refine HL_skip rfl rfl rfl ?_)
                                    | (refine HL_case 86 rfl (fun hb40 => ?_) (fun hb40 => ?_) <;> (try simp only [decide_eq_true_eq, decide_eq_false_iff_not, beq_iff_eq, beq_eq_false_iff_ne, bne_iff_ne, bne_eq_false_iff_eq, Bool.not_eq_true', Bool.not_eq_false', ne_eq, Int.not_lt, Int.not_le, ge_iff_le, gt_iff_lt] at hb40) <;> first | (refine HL_r rfl rfl rfl rfl (R_move rfl) ?_) | (refine HL_skip rfl rfl rfl ?_))
                                  all_goals first
                                    | (refine HL_r rfl rfl rfl rfl (R_move rfl) ?_)
                                    | (refine HL_skip rfl rfl rfl ?_)
                                    | (refine HL_case 86 rfl (fun hb41 => ?_) (fun hb41 => ?_) <;> (try simp only [decide_eq_true_eq, decide_eq_false_iff_not, beq_iff_eq, beq_eq_false_iff_ne, bne_iff_ne, bne_eq_false_iff_eq, Bool.not_eq_true', Bool.not_eq_false', ne_eq, Int.not_lt, Int.not_le, ge_iff_le, gt_iff_lt] at hb41) <;> first | (refine HL_r rfl rfl rfl rfl (R_move rfl) ?_) | (refine HL_skip rfl rfl rfl ?_))
                                  all_goals first
                                    | (refine HL_callP rfl rfl rfl (enters_of Tryd.func20 (by kernel_rfl) rfl) (P_keccak_Sum ..) ?_)
                                    | (refine HL_skip rfl rfl rfl ?_)
                                    | (refine HL_case 86 rfl (fun hb42 => ?_) (fun hb42 => ?_) <;> (try simp only [decide_eq_true_eq, decide_eq_false_iff_not, beq_iff_eq, beq_eq_false_iff_ne, bne_iff_ne, bne_eq_false_iff_eq, Bool.not_eq_true', Bool.not_eq_false', ne_eq, Int.not_lt, Int.not_le, ge_iff_le, gt_iff_lt] at hb42) <;> first | (refine HL_callP rfl rfl rfl (enters_of Tryd.func20 (by kernel_rfl) rfl) (P_keccak_Sum ..) ?_) | (refine HL_skip rfl rfl rfl ?_))
                                  all_goals first
                                    | (refine HL_r rfl rfl rfl rfl (R_strEq rfl rfl) ?_)
                                    | (refine HL_skip rfl rfl rfl ?_)
                                    | (refine HL_case 86 rfl (fun hb43 => ?_) (fun hb43 => ?_) <;> (try simp only [decide_eq_true_eq, decide_eq_false_iff_not, beq_iff_eq, beq_eq_false_iff_ne, bne_iff_ne, bne_eq_false_iff_eq, Bool.not_eq_true', Bool.not_eq_false', ne_eq, Int.not_lt, Int.not_le, ge_iff_le, gt_iff_lt] at hb43) <;> first | (refine HL_r rfl rfl rfl rfl (R_strEq rfl rfl) ?_) | (refine HL_skip rfl rfl rfl ?_))
                                  all_goals first
                                    | (refine HL_r rfl rfl rfl rfl (R_pickT rfl rfl) ?_)
                                    | (refine HL_r rfl rfl rfl rfl (R_pickF rfl rfl) ?_)
                                  all_goals refine HL_r rfl rfl rfl rfl (R_assign rfl) ?_
                                  all_goals refine HL_nil ?_
                                  all_goals (
                                    refine HQ_then ?_
                                    refine hK26 _ _ _ _ ?_; clear hK26 K26
                                    refine HC_ret ?_
                                    refine HQ_post rfl rfl (.cons (res_tmp rfl) .nil) (fun w1 hs1 => ?_)
                                    exact ⟨rfl, hs1.keep⟩
                                    skip)
                                  skip)
                                skip)
                            skip)
                          skip)
                        skip)
                      skip)
                  skip)
                skip)
              skip)
          skip)
        skip)
      skip)
theorem get_cases (s : List UInt8) : (∃ v p n e, getR s = (v, p, n, e) ∧ e = 0 ∧ p.length = 3 ∧ n < 18446744073709551616 ∧ putR (v : Nat) p n = (s, 0)) ∨ (∃ v p n e, getR s = (v, p, n, e) ∧ ¬ e = 0 ∧ p.length = 3 ∧ v = 0 ∧ p = [[], [], []] ∧ n = 0) := by
  by_cases h : (getR s).2.2.2 = 0
  · exact .inl ⟨(getR s).1, (getR s).2.1, (getR s).2.2.1, (getR s).2.2.2, rfl, h, getR_p3 s, getR_lt s, put_get h⟩
  · obtain ⟨h1, h2, h3⟩ := getR_bad h
    exact .inr ⟨(getR s).1, (getR s).2.1, (getR s).2.2.1, (getR s).2.2.2, rfl, h, getR_p3 s, h1, h2, h3⟩
set_option maxRecDepth 10000 in
theorem P_OutputOnly {s : List UInt8} (hs : s.length ≤ 9223372036854775807) : Pure Tryd.prog 6 [.string (bs s)].toArray (.bool true) := by
  refine pure_of_HC Tryd.func6 rfl rfl fun w => ?_
  rcases get_cases s with ⟨v, p, n, e, hu, he, hp, hn, hput⟩ | ⟨v, p, n, e, hu, he, hp, hv0, hp0, hn0⟩
  case inl =>
    refine HC_seq fun K1 hK1 => ?_
    refine HC_region ?_
    all_goals refine HL_r rfl rfl rfl rfl (R_assign rfl) ?_
    all_goals refine HL_nil ?_
    all_goals (
      refine HQ_then ?_
      refine hK1 _ _ _ _ ?_; clear hK1 K1
      refine HC_seq fun K2 hK2 => ?_
      refine HC_region ?_
      all_goals refine HL_callP rfl rfl rfl (enters_of Tryd.func12 (by kernel_rfl) rfl) P_works21 ?_
      all_goals refine HL_r rfl rfl rfl rfl (R_assign rfl) ?_
      all_goals refine HL_nil ?_
      all_goals (
        refine HQ_then ?_
        refine hK2 _ _ _ _ ?_; clear hK2 K2
        refine HC_seq fun K3 hK3 => ?_
        refine HC_seq fun K4 hK4 => ?_
        refine HC_region ?_
        all_goals refine HL_r rfl rfl rfl rfl (R_move rfl) ?_
        all_goals refine HL_r rfl rfl rfl rfl (R_pure rfl rfl rfl) ?_
        all_goals refine HL_nil ?_
        all_goals (
          refine HQ_then ?_
          refine hK4 _ _ _ _ ?_; clear hK4 K4
          refine HC_cond rfl (fun h5 => ?_) (fun h5 => ?_)
          · try exact Bool.noConfusion h5
            all_goals try simp only [decide_eq_true_eq, decide_eq_false_iff_not, beq_iff_eq, beq_eq_false_iff_ne, bne_iff_ne, bne_eq_false_iff_eq, Bool.not_eq_true', Bool.not_eq_false', ne_eq, Int.not_lt, Int.not_le, ge_iff_le, gt_iff_lt] at h5
            all_goals (
              refine HC_seq fun K6 hK6 => ?_
              refine HC_region ?_
              all_goals refine HL_r rfl rfl rfl rfl (R_assign rfl) ?_
              all_goals refine HL_nil ?_
              all_goals (
                refine HQ_then ?_
                refine hK6 _ _ _ _ ?_; clear hK6 K6
                refine HC_ret ?_
                refine HQ_thenR ?_; clear hK3 K3
                refine HQ_post rfl rfl (.cons (res_tmp rfl) .nil) (fun w1 hs1 => ?_)
                exact ⟨rfl, hs1.keep⟩
                skip)
              skip)
          · try exact Bool.noConfusion h5
            all_goals try simp only [decide_eq_true_eq, decide_eq_false_iff_not, beq_iff_eq, beq_eq_false_iff_ne, bne_iff_ne, bne_eq_false_iff_eq, Bool.not_eq_true', Bool.not_eq_false', ne_eq, Int.not_lt, Int.not_le, ge_iff_le, gt_iff_lt] at h5
            all_goals (
              refine HC_skip ?_
              refine HQ_then ?_
              refine hK3 _ _ _ _ ?_; clear hK3 K3
              refine HC_seq fun K7 hK7 => ?_
              refine HC_seq fun K8 hK8 => ?_
              refine HC_region ?_
              all_goals refine HL_r rfl rfl rfl rfl (R_move rfl) ?_
              all_goals first
                | (refine HL_r rfl rfl rfl rfl (R_lenBs rfl rfl) ?_)
                | (refine HL_r rfl rfl rfl rfl (R_lenSl rfl rfl) ?_)
                | (refine HL_r rfl rfl rfl rfl (R_lenStr rfl rfl rfl) ?_)
                | (refine HL_r rfl rfl rfl rfl (R_pure rfl rfl rfl) ?_)
              all_goals refine HL_r rfl rfl rfl rfl (R_pure rfl rfl rfl) ?_
              all_goals refine HL_nil ?_
              all_goals (
                refine HQ_then ?_
                refine hK8 _ _ _ _ ?_; clear hK8 K8
                refine HC_cond rfl (fun h9 => ?_) (fun h9 => ?_)
                · try exact Bool.noConfusion h9
                  all_goals try simp only [decide_eq_true_eq, decide_eq_false_iff_not, beq_iff_eq, beq_eq_false_iff_ne, bne_iff_ne, bne_eq_false_iff_eq, Bool.not_eq_true', Bool.not_eq_false', ne_eq, Int.not_lt, Int.not_le, ge_iff_le, gt_iff_lt] at h9
                  all_goals (
                    refine HC_seq fun K10 hK10 => ?_
                    refine HC_region ?_
                    all_goals refine HL_r rfl rfl rfl rfl (R_move rfl) ?_
                    all_goals refine HL_r rfl rfl rfl rfl (R_assign rfl) ?_
                    all_goals refine HL_nil ?_
                    all_goals (
                      refine HQ_then ?_
                      refine hK10 _ _ _ _ ?_; clear hK10 K10
                      refine HC_ret ?_
                      refine HQ_thenR ?_; clear hK7 K7
                      refine HQ_post rfl rfl (.cons (res_tmp rfl) .nil) (fun w1 hs1 => ?_)
                      exact ⟨rfl, hs1.keep⟩
                      skip)
                    skip)
                · try exact Bool.noConfusion h9
                  all_goals try simp only [decide_eq_true_eq, decide_eq_false_iff_not, beq_iff_eq, beq_eq_false_iff_ne, bne_iff_ne, bne_eq_false_iff_eq, Bool.not_eq_true', Bool.not_eq_false', ne_eq, Int.not_lt, Int.not_le, ge_iff_le, gt_iff_lt] at h9
                  all_goals (
                    refine HC_skip ?_
                    refine HQ_then ?_
                    refine hK7 _ _ _ _ ?_; clear hK7 K7
                    refine HC_seq fun K11 hK11 => ?_
                    refine HC_region ?_
                    all_goals refine HL_r rfl rfl rfl rfl (R_move rfl) ?_
                    all_goals refine HL_callP rfl rfl rfl (enters_of Tryd.func18 (by kernel_rfl) rfl) (P_out_Get hs) ?_; refine HL_as (show _ = Value.tuple #[.int .i64 (v : Int), pV p, uV n, .int .i64 e] from by rw [hu]; rfl) ?_
                    all_goals refine HL_r rfl rfl rfl rfl (R_move rfl) ?_
                    all_goals refine HL_r rfl rfl rfl rfl (R_extract rfl rfl) ?_
                    all_goals refine HL_r rfl rfl rfl rfl (R_extract rfl rfl) ?_
                    all_goals refine HL_r rfl rfl rfl rfl (R_extract rfl rfl) ?_
                    all_goals refine HL_r rfl rfl rfl rfl (R_extract rfl rfl) ?_
                    all_goals refine HL_alloc (cs := #[_, _, _]) rfl rfl rfl rfl fun r1 => ?_
                    all_goals refine HL_r rfl rfl rfl rfl (R_assign rfl) ?_
                    all_goals first
                      | (refine HL_storeArr (k := 0) (n := 3) rfl rfl rfl rfl rfl (by first | (with_reducible (rw [List.length_map]; first | exact hp | exact hq | exact getR_p3 _)) | exact rfl) (by first | (with_reducible (rw [List.length_map]; first | exact hp | exact hq | exact getR_p3 _)) | exact rfl) (by first | exact mapS_one _ | rfl) rfl ?_)
                      | (refine HL_storeArr (k := 1) (n := 3) rfl rfl rfl rfl rfl (by first | (with_reducible (rw [List.length_map]; first | exact hp | exact hq | exact getR_p3 _)) | exact rfl) (by first | (with_reducible (rw [List.length_map]; first | exact hp | exact hq | exact getR_p3 _)) | exact rfl) (by first | exact mapS_one _ | rfl) rfl ?_)
                      | (refine HL_storeArr (k := 2) (n := 3) rfl rfl rfl rfl rfl (by first | (with_reducible (rw [List.length_map]; first | exact hp | exact hq | exact getR_p3 _)) | exact rfl) (by first | (with_reducible (rw [List.length_map]; first | exact hp | exact hq | exact getR_p3 _)) | exact rfl) (by first | exact mapS_one _ | rfl) rfl ?_)
                      | (refine HL_storeArr (k := 3) (n := 3) rfl rfl rfl rfl rfl (by first | (with_reducible (rw [List.length_map]; first | exact hp | exact hq | exact getR_p3 _)) | exact rfl) (by first | (with_reducible (rw [List.length_map]; first | exact hp | exact hq | exact getR_p3 _)) | exact rfl) (by first | exact mapS_one _ | rfl) rfl ?_)
                      | (refine HL_storeArr (k := 4) (n := 3) rfl rfl rfl rfl rfl (by first | (with_reducible (rw [List.length_map]; first | exact hp | exact hq | exact getR_p3 _)) | exact rfl) (by first | (with_reducible (rw [List.length_map]; first | exact hp | exact hq | exact getR_p3 _)) | exact rfl) (by first | exact mapS_one _ | rfl) rfl ?_)
                      | (refine HL_storeArr (k := 5) (n := 3) rfl rfl rfl rfl rfl (by first | (with_reducible (rw [List.length_map]; first | exact hp | exact hq | exact getR_p3 _)) | exact rfl) (by first | (with_reducible (rw [List.length_map]; first | exact hp | exact hq | exact getR_p3 _)) | exact rfl) (by first | exact mapS_one _ | rfl) rfl ?_)
                      | (refine HL_storeArr (k := 6) (n := 3) rfl rfl rfl rfl rfl (by first | (with_reducible (rw [List.length_map]; first | exact hp | exact hq | exact getR_p3 _)) | exact rfl) (by first | (with_reducible (rw [List.length_map]; first | exact hp | exact hq | exact getR_p3 _)) | exact rfl) (by first | exact mapS_one _ | rfl) rfl ?_)
                    all_goals refine HL_r rfl rfl rfl rfl (R_assign rfl) ?_
                    all_goals refine HL_r rfl rfl rfl rfl (R_assign rfl) ?_
                    all_goals refine HL_nil ?_
                    all_goals (
                      refine HQ_then ?_
                      refine hK11 _ _ _ _ ?_; clear hK11 K11
                      refine HC_seq fun K12 hK12 => ?_
                      refine HC_seq fun K13 hK13 => ?_
                      refine HC_region ?_
                      all_goals refine HL_r rfl rfl rfl rfl (R_move rfl) ?_
                      all_goals refine HL_r rfl rfl rfl rfl (R_pure rfl rfl rfl) ?_
                      all_goals first
                        | (refine HL_as (show _ = Value.bool true from bool_eq' (ineF he)) ?_)
                        | (refine HL_as (show _ = Value.bool false from bool_eq' (ineF he)) ?_)
                        | skip
                      all_goals refine HL_nil ?_
                      all_goals (
                        refine HQ_then ?_
                        refine hK13 _ _ _ _ ?_; clear hK13 K13
                        refine HC_cond rfl (fun h14 => ?_) (fun h14 => ?_)
                        · try exact Bool.noConfusion h14
                          all_goals try simp only [decide_eq_true_eq, decide_eq_false_iff_not, beq_iff_eq, beq_eq_false_iff_ne, bne_iff_ne, bne_eq_false_iff_eq, Bool.not_eq_true', Bool.not_eq_false', ne_eq, Int.not_lt, Int.not_le, ge_iff_le, gt_iff_lt] at h14
                          all_goals (
                            refine HC_seq fun K15 hK15 => ?_
                            refine HC_region ?_
                            all_goals refine HL_r rfl rfl rfl rfl (R_move rfl) ?_
                            all_goals refine HL_r rfl rfl rfl rfl (R_move rfl) ?_
                            all_goals first
                              | (refine HL_r rfl rfl rfl rfl (R_move rfl) ?_)
                              | (refine HL_skip rfl rfl rfl ?_)
                              | (refine HL_case 27 rfl (fun hb16 => ?_) (fun hb16 => ?_) <;> (try simp only [decide_eq_true_eq, decide_eq_false_iff_not, beq_iff_eq, beq_eq_false_iff_ne, bne_iff_ne, bne_eq_false_iff_eq, Bool.not_eq_true', Bool.not_eq_false', ne_eq, Int.not_lt, Int.not_le, ge_iff_le, gt_iff_lt] at hb16) <;> first | (refine HL_r rfl rfl rfl rfl (R_move rfl) ?_) | (refine HL_skip rfl rfl rfl ?_))
                            all_goals first
                              | (refine HL_r rfl rfl rfl rfl (R_pure rfl rfl rfl) ?_)
                              | (refine HL_skip rfl rfl rfl ?_)
                              | (refine HL_case 27 rfl (fun hb17 => ?_) (fun hb17 => ?_) <;> (try simp only [decide_eq_true_eq, decide_eq_false_iff_not, beq_iff_eq, beq_eq_false_iff_ne, bne_iff_ne, bne_eq_false_iff_eq, Bool.not_eq_true', Bool.not_eq_false', ne_eq, Int.not_lt, Int.not_le, ge_iff_le, gt_iff_lt] at hb17) <;> first | (refine HL_r rfl rfl rfl rfl (R_pure rfl rfl rfl) ?_) | (refine HL_skip rfl rfl rfl ?_))
                            all_goals first
                              | (refine HL_r rfl rfl rfl rfl (R_pickT rfl rfl) ?_)
                              | (refine HL_r rfl rfl rfl rfl (R_pickF rfl rfl) ?_)
                            all_goals refine HL_r rfl rfl rfl rfl (R_move rfl) ?_
                            all_goals first
                              | (refine HL_r rfl rfl rfl rfl (R_loadArr (n := 3) rfl (known_L (k := 0) rfl) rfl rfl (by first | (with_reducible (rw [List.length_map]; first | exact hp | exact hq | exact getR_p3 _)) | exact rfl)) ?_)
                              | (refine HL_r rfl rfl rfl rfl (R_loadArr (n := 3) rfl (known_L (k := 1) rfl) rfl rfl (by first | (with_reducible (rw [List.length_map]; first | exact hp | exact hq | exact getR_p3 _)) | exact rfl)) ?_)
                              | (refine HL_r rfl rfl rfl rfl (R_loadArr (n := 3) rfl (known_L (k := 2) rfl) rfl rfl (by first | (with_reducible (rw [List.length_map]; first | exact hp | exact hq | exact getR_p3 _)) | exact rfl)) ?_)
                              | (refine HL_r rfl rfl rfl rfl (R_loadArr (n := 3) rfl (known_L (k := 3) rfl) rfl rfl (by first | (with_reducible (rw [List.length_map]; first | exact hp | exact hq | exact getR_p3 _)) | exact rfl)) ?_)
                              | (refine HL_r rfl rfl rfl rfl (R_loadArr (n := 3) rfl (known_L (k := 4) rfl) rfl rfl (by first | (with_reducible (rw [List.length_map]; first | exact hp | exact hq | exact getR_p3 _)) | exact rfl)) ?_)
                              | (refine HL_r rfl rfl rfl rfl (R_loadArr (n := 3) rfl (known_L (k := 5) rfl) rfl rfl (by first | (with_reducible (rw [List.length_map]; first | exact hp | exact hq | exact getR_p3 _)) | exact rfl)) ?_)
                              | (refine HL_r rfl rfl rfl rfl (R_loadArr (n := 3) rfl (known_L (k := 6) rfl) rfl rfl (by first | (with_reducible (rw [List.length_map]; first | exact hp | exact hq | exact getR_p3 _)) | exact rfl)) ?_)
                              | (refine HL_skip rfl rfl rfl ?_)
                              | (refine HL_case 31 rfl (fun hb18 => ?_) (fun hb18 => ?_) <;> (try simp only [decide_eq_true_eq, decide_eq_false_iff_not, beq_iff_eq, beq_eq_false_iff_ne, bne_iff_ne, bne_eq_false_iff_eq, Bool.not_eq_true', Bool.not_eq_false', ne_eq, Int.not_lt, Int.not_le, ge_iff_le, gt_iff_lt] at hb18) <;> first | (refine HL_r rfl rfl rfl rfl (R_loadArr (n := 3) rfl (known_L (k := 0) rfl) rfl rfl (by first | (with_reducible (rw [List.length_map]; first | exact hp | exact hq | exact getR_p3 _)) | exact rfl)) ?_) | (refine HL_r rfl rfl rfl rfl (R_loadArr (n := 3) rfl (known_L (k := 1) rfl) rfl rfl (by first | (with_reducible (rw [List.length_map]; first | exact hp | exact hq | exact getR_p3 _)) | exact rfl)) ?_) | (refine HL_r rfl rfl rfl rfl (R_loadArr (n := 3) rfl (known_L (k := 2) rfl) rfl rfl (by first | (with_reducible (rw [List.length_map]; first | exact hp | exact hq | exact getR_p3 _)) | exact rfl)) ?_) | (refine HL_r rfl rfl rfl rfl (R_loadArr (n := 3) rfl (known_L (k := 3) rfl) rfl rfl (by first | (with_reducible (rw [List.length_map]; first | exact hp | exact hq | exact getR_p3 _)) | exact rfl)) ?_) | (refine HL_r rfl rfl rfl rfl (R_loadArr (n := 3) rfl (known_L (k := 4) rfl) rfl rfl (by first | (with_reducible (rw [List.length_map]; first | exact hp | exact hq | exact getR_p3 _)) | exact rfl)) ?_) | (refine HL_r rfl rfl rfl rfl (R_loadArr (n := 3) rfl (known_L (k := 5) rfl) rfl rfl (by first | (with_reducible (rw [List.length_map]; first | exact hp | exact hq | exact getR_p3 _)) | exact rfl)) ?_) | (refine HL_r rfl rfl rfl rfl (R_loadArr (n := 3) rfl (known_L (k := 6) rfl) rfl rfl (by first | (with_reducible (rw [List.length_map]; first | exact hp | exact hq | exact getR_p3 _)) | exact rfl)) ?_) | (refine HL_skip rfl rfl rfl ?_))
                            all_goals first
                              | (refine HL_r rfl rfl rfl rfl (R_build (r := [_, _, _]) rfl rfl) ?_)
                              | (refine HL_skip rfl rfl rfl ?_)
                              | (refine HL_case 31 rfl (fun hb19 => ?_) (fun hb19 => ?_) <;> (try simp only [decide_eq_true_eq, decide_eq_false_iff_not, beq_iff_eq, beq_eq_false_iff_ne, bne_iff_ne, bne_eq_false_iff_eq, Bool.not_eq_true', Bool.not_eq_false', ne_eq, Int.not_lt, Int.not_le, ge_iff_le, gt_iff_lt] at hb19) <;> first | (refine HL_r rfl rfl rfl rfl (R_build (r := [_, _, _]) rfl rfl) ?_) | (refine HL_skip rfl rfl rfl ?_))
                            all_goals first
                              | (refine HL_r rfl rfl rfl rfl (R_eqArr rfl rfl rfl rfl rfl (by kernel_rfl) (by first | (with_reducible (rw [List.length_map]; first | exact hp | exact hq | exact getR_p3 _)) | exact rfl) (by first | (with_reducible (rw [List.length_map]; first | exact hp | exact hq | exact getR_p3 _)) | exact rfl) (by first | exact scalS rfl _ | rfl) (by first | exact scalS rfl _ | rfl)) ?_)
                              | (refine HL_skip rfl rfl rfl ?_)
                              | (refine HL_case 31 rfl (fun hb20 => ?_) (fun hb20 => ?_) <;> (try simp only [decide_eq_true_eq, decide_eq_false_iff_not, beq_iff_eq, beq_eq_false_iff_ne, bne_iff_ne, bne_eq_false_iff_eq, Bool.not_eq_true', Bool.not_eq_false', ne_eq, Int.not_lt, Int.not_le, ge_iff_le, gt_iff_lt] at hb20) <;> first | (refine HL_r rfl rfl rfl rfl (R_eqArr rfl rfl rfl rfl rfl (by kernel_rfl) (by first | (with_reducible (rw [List.length_map]; first | exact hp | exact hq | exact getR_p3 _)) | exact rfl) (by first | (with_reducible (rw [List.length_map]; first | exact hp | exact hq | exact getR_p3 _)) | exact rfl) (by first | exact scalS rfl _ | rfl) (by first | exact scalS rfl _ | rfl)) ?_) | (refine HL_skip rfl rfl rfl ?_))
                            all_goals first
                              | (refine HL_r rfl rfl rfl rfl (R_pickT rfl rfl) ?_)
                              | (refine HL_r rfl rfl rfl rfl (R_pickF rfl rfl) ?_)
                            all_goals refine HL_r rfl rfl rfl rfl (R_move rfl) ?_
                            all_goals first
                              | (refine HL_r rfl rfl rfl rfl (R_move rfl) ?_)
                              | (refine HL_skip rfl rfl rfl ?_)
                              | (refine HL_case 36 rfl (fun hb21 => ?_) (fun hb21 => ?_) <;> (try simp only [decide_eq_true_eq, decide_eq_false_iff_not, beq_iff_eq, beq_eq_false_iff_ne, bne_iff_ne, bne_eq_false_iff_eq, Bool.not_eq_true', Bool.not_eq_false', ne_eq, Int.not_lt, Int.not_le, ge_iff_le, gt_iff_lt] at hb21) <;> first | (refine HL_r rfl rfl rfl rfl (R_move rfl) ?_) | (refine HL_skip rfl rfl rfl ?_))
                            all_goals first
                              | (refine HL_r rfl rfl rfl rfl (R_pure rfl rfl rfl) ?_)
                              | (refine HL_skip rfl rfl rfl ?_)
                              | (refine HL_case 36 rfl (fun hb22 => ?_) (fun hb22 => ?_) <;> (try simp only [decide_eq_true_eq, decide_eq_false_iff_not, beq_iff_eq, beq_eq_false_iff_ne, bne_iff_ne, bne_eq_false_iff_eq, Bool.not_eq_true', Bool.not_eq_false', ne_eq, Int.not_lt, Int.not_le, ge_iff_le, gt_iff_lt] at hb22) <;> first | (refine HL_r rfl rfl rfl rfl (R_pure rfl rfl rfl) ?_) | (refine HL_skip rfl rfl rfl ?_))
                            all_goals first
                              | (refine HL_r rfl rfl rfl rfl (R_pickT rfl rfl) ?_)
                              | (refine HL_r rfl rfl rfl rfl (R_pickF rfl rfl) ?_)
                            all_goals refine HL_r rfl rfl rfl rfl (R_assign rfl) ?_
                            all_goals refine HL_nil ?_
                            all_goals (
                              refine HQ_then ?_
                              refine hK15 _ _ _ _ ?_; clear hK15 K15
                              refine HC_ret ?_
                              refine HQ_thenR ?_; clear hK12 K12
                              refine HQ_post rfl rfl (.cons (res_tmp rfl) .nil) (fun w1 hs1 => ?_)
                              exact ⟨rfl, hs1.keep⟩
                              skip)
                            skip)
                        · try exact Bool.noConfusion h14
                          all_goals try simp only [decide_eq_true_eq, decide_eq_false_iff_not, beq_iff_eq, beq_eq_false_iff_ne, bne_iff_ne, bne_eq_false_iff_eq, Bool.not_eq_true', Bool.not_eq_false', ne_eq, Int.not_lt, Int.not_le, ge_iff_le, gt_iff_lt] at h14
                          all_goals (
                            refine HC_skip ?_
                            refine HQ_then ?_
                            refine hK12 _ _ _ _ ?_; clear hK12 K12
                            refine HC_seq fun K23 hK23 => ?_
                            refine HC_region ?_
                            all_goals refine HL_r rfl rfl rfl rfl (R_move rfl) ?_
                            all_goals first
                              | (refine HL_r rfl rfl rfl rfl (R_loadArr (n := 3) rfl (known_L (k := 0) rfl) rfl rfl (by first | (with_reducible (rw [List.length_map]; first | exact hp | exact hq | exact getR_p3 _)) | exact rfl)) ?_)
                              | (refine HL_r rfl rfl rfl rfl (R_loadArr (n := 3) rfl (known_L (k := 1) rfl) rfl rfl (by first | (with_reducible (rw [List.length_map]; first | exact hp | exact hq | exact getR_p3 _)) | exact rfl)) ?_)
                              | (refine HL_r rfl rfl rfl rfl (R_loadArr (n := 3) rfl (known_L (k := 2) rfl) rfl rfl (by first | (with_reducible (rw [List.length_map]; first | exact hp | exact hq | exact getR_p3 _)) | exact rfl)) ?_)
                              | (refine HL_r rfl rfl rfl rfl (R_loadArr (n := 3) rfl (known_L (k := 3) rfl) rfl rfl (by first | (with_reducible (rw [List.length_map]; first | exact hp | exact hq | exact getR_p3 _)) | exact rfl)) ?_)
                              | (refine HL_r rfl rfl rfl rfl (R_loadArr (n := 3) rfl (known_L (k := 4) rfl) rfl rfl (by first | (with_reducible (rw [List.length_map]; first | exact hp | exact hq | exact getR_p3 _)) | exact rfl)) ?_)
                              | (refine HL_r rfl rfl rfl rfl (R_loadArr (n := 3) rfl (known_L (k := 5) rfl) rfl rfl (by first | (with_reducible (rw [List.length_map]; first | exact hp | exact hq | exact getR_p3 _)) | exact rfl)) ?_)
                              | (refine HL_r rfl rfl rfl rfl (R_loadArr (n := 3) rfl (known_L (k := 6) rfl) rfl rfl (by first | (with_reducible (rw [List.length_map]; first | exact hp | exact hq | exact getR_p3 _)) | exact rfl)) ?_)
                            all_goals refine HL_r rfl rfl rfl rfl (R_move rfl) ?_
                            all_goals refine HL_callP rfl rfl rfl (enters_of Tryd.func14 (by kernel_rfl) rfl) (P_out_Put hp hn v) ?_; refine HL_as (show _ = Value.tuple #[.string (bs s), .int .i64 0] from by rw [hput]; rfl) ?_
                            all_goals refine HL_r rfl rfl rfl rfl (R_move rfl) ?_
                            all_goals refine HL_r rfl rfl rfl rfl (R_extract rfl rfl) ?_
                            all_goals refine HL_r rfl rfl rfl rfl (R_extract rfl rfl) ?_
                            all_goals refine HL_r rfl rfl rfl rfl (R_assign rfl) ?_
                            all_goals refine HL_r rfl rfl rfl rfl (R_assign rfl) ?_
                            all_goals refine HL_nil ?_
                            all_goals (
                              refine HQ_then ?_
                              refine hK23 _ _ _ _ ?_; clear hK23 K23
                              refine HC_seq fun K24 hK24 => ?_
                              refine HC_region ?_
                              all_goals refine HL_r rfl rfl rfl rfl (R_move rfl) ?_
                              all_goals refine HL_r rfl rfl rfl rfl (R_move rfl) ?_
                              all_goals first
                                | (refine HL_r rfl rfl rfl rfl (R_move rfl) ?_)
                                | (refine HL_skip rfl rfl rfl ?_)
                                | (refine HL_case 48 rfl (fun hb25 => ?_) (fun hb25 => ?_) <;> (try simp only [decide_eq_true_eq, decide_eq_false_iff_not, beq_iff_eq, beq_eq_false_iff_ne, bne_iff_ne, bne_eq_false_iff_eq, Bool.not_eq_true', Bool.not_eq_false', ne_eq, Int.not_lt, Int.not_le, ge_iff_le, gt_iff_lt] at hb25) <;> first | (refine HL_r rfl rfl rfl rfl (R_move rfl) ?_) | (refine HL_skip rfl rfl rfl ?_))
                              all_goals first
                                | (refine HL_r rfl rfl rfl rfl (R_pure rfl rfl rfl) ?_)
                                | (refine HL_skip rfl rfl rfl ?_)
                                | (refine HL_case 48 rfl (fun hb26 => ?_) (fun hb26 => ?_) <;> (try simp only [decide_eq_true_eq, decide_eq_false_iff_not, beq_iff_eq, beq_eq_false_iff_ne, bne_iff_ne, bne_eq_false_iff_eq, Bool.not_eq_true', Bool.not_eq_false', ne_eq, Int.not_lt, Int.not_le, ge_iff_le, gt_iff_lt] at hb26) <;> first | (refine HL_r rfl rfl rfl rfl (R_pure rfl rfl rfl) ?_) | (refine HL_skip rfl rfl rfl ?_))
                              all_goals first
                                | (refine HL_as (show _ = Value.bool true from bool_eq' (rfl)) ?_)
                                | (refine HL_as (show _ = Value.bool false from bool_eq' (rfl)) ?_)
                                | skip
                              all_goals first
                                | (refine HL_r rfl rfl rfl rfl (R_pickT rfl rfl) ?_)
                                | (refine HL_r rfl rfl rfl rfl (R_pickF rfl rfl) ?_)
                              all_goals refine HL_r rfl rfl rfl rfl (R_move rfl) ?_
                              all_goals first
                                | (refine HL_r rfl rfl rfl rfl (R_move rfl) ?_)
                                | (refine HL_skip rfl rfl rfl ?_)
                                | (refine HL_case 52 rfl (fun hb27 => ?_) (fun hb27 => ?_) <;> (try simp only [decide_eq_true_eq, decide_eq_false_iff_not, beq_iff_eq, beq_eq_false_iff_ne, bne_iff_ne, bne_eq_false_iff_eq, Bool.not_eq_true', Bool.not_eq_false', ne_eq, Int.not_lt, Int.not_le, ge_iff_le, gt_iff_lt] at hb27) <;> first | (refine HL_r rfl rfl rfl rfl (R_move rfl) ?_) | (refine HL_skip rfl rfl rfl ?_))
                              all_goals first
                                | (refine HL_r rfl rfl rfl rfl (R_move rfl) ?_)
                                | (refine HL_skip rfl rfl rfl ?_)
                                | (refine HL_case 52 rfl (fun hb28 => ?_) (fun hb28 => ?_) <;> (try simp only [decide_eq_true_eq, decide_eq_false_iff_not, beq_iff_eq, beq_eq_false_iff_ne, bne_iff_ne, bne_eq_false_iff_eq, Bool.not_eq_true', Bool.not_eq_false', ne_eq, Int.not_lt, Int.not_le, ge_iff_le, gt_iff_lt] at hb28) <;> first | (refine HL_r rfl rfl rfl rfl (R_move rfl) ?_) | (refine HL_skip rfl rfl rfl ?_))
                              all_goals first
                                | (refine HL_r rfl rfl rfl rfl (R_strEq rfl rfl) ?_)
                                | (refine HL_skip rfl rfl rfl ?_)
                                | (refine HL_case 52 rfl (fun hb29 => ?_) (fun hb29 => ?_) <;> (try simp only [decide_eq_true_eq, decide_eq_false_iff_not, beq_iff_eq, beq_eq_false_iff_ne, bne_iff_ne, bne_eq_false_iff_eq, Bool.not_eq_true', Bool.not_eq_false', ne_eq, Int.not_lt, Int.not_le, ge_iff_le, gt_iff_lt] at hb29) <;> first | (refine HL_r rfl rfl rfl rfl (R_strEq rfl rfl) ?_) | (refine HL_skip rfl rfl rfl ?_))
                              all_goals first
                                | (refine HL_as (show _ = Value.bool true from bool_eq' (decide_eq_true rfl)) ?_)
                                | (refine HL_as (show _ = Value.bool false from bool_eq' (decide_eq_true rfl)) ?_)
                                | skip
                              all_goals first
                                | (refine HL_r rfl rfl rfl rfl (R_pickT rfl rfl) ?_)
                                | (refine HL_r rfl rfl rfl rfl (R_pickF rfl rfl) ?_)
                              all_goals refine HL_r rfl rfl rfl rfl (R_assign rfl) ?_
                              all_goals refine HL_nil ?_
                              all_goals (
                                refine HQ_then ?_
                                refine hK24 _ _ _ _ ?_; clear hK24 K24
                                refine HC_ret ?_
                                refine HQ_post rfl rfl (.cons (res_tmp rfl) .nil) (fun w1 hs1 => ?_)
                                exact ⟨rfl, hs1.keep⟩
                                skip)
                              skip)
                            skip)
                        skip)
                      skip)
                    skip)
                skip)
              skip)
          skip)
        skip)
      skip)
  case inr =>
    refine HC_seq fun K1 hK1 => ?_
    refine HC_region ?_
    all_goals refine HL_r rfl rfl rfl rfl (R_assign rfl) ?_
    all_goals refine HL_nil ?_
    all_goals (
      refine HQ_then ?_
      refine hK1 _ _ _ _ ?_; clear hK1 K1
      refine HC_seq fun K2 hK2 => ?_
      refine HC_region ?_
      all_goals refine HL_callP rfl rfl rfl (enters_of Tryd.func12 (by kernel_rfl) rfl) P_works21 ?_
      all_goals refine HL_r rfl rfl rfl rfl (R_assign rfl) ?_
      all_goals refine HL_nil ?_
      all_goals (
        refine HQ_then ?_
        refine hK2 _ _ _ _ ?_; clear hK2 K2
        refine HC_seq fun K3 hK3 => ?_
        refine HC_seq fun K4 hK4 => ?_
        refine HC_region ?_
        all_goals refine HL_r rfl rfl rfl rfl (R_move rfl) ?_
        all_goals refine HL_r rfl rfl rfl rfl (R_pure rfl rfl rfl) ?_
        all_goals refine HL_nil ?_
        all_goals (
          refine HQ_then ?_
          refine hK4 _ _ _ _ ?_; clear hK4 K4
          refine HC_cond rfl (fun h5 => ?_) (fun h5 => ?_)
          · try exact Bool.noConfusion h5
            all_goals try simp only [decide_eq_true_eq, decide_eq_false_iff_not, beq_iff_eq, beq_eq_false_iff_ne, bne_iff_ne, bne_eq_false_iff_eq, Bool.not_eq_true', Bool.not_eq_false', ne_eq, Int.not_lt, Int.not_le, ge_iff_le, gt_iff_lt] at h5
            all_goals (
              refine HC_seq fun K6 hK6 => ?_
              refine HC_region ?_
              all_goals refine HL_r rfl rfl rfl rfl (R_assign rfl) ?_
              all_goals refine HL_nil ?_
              all_goals (
                refine HQ_then ?_
                refine hK6 _ _ _ _ ?_; clear hK6 K6
                refine HC_ret ?_
                refine HQ_thenR ?_; clear hK3 K3
                refine HQ_post rfl rfl (.cons (res_tmp rfl) .nil) (fun w1 hs1 => ?_)
                exact ⟨rfl, hs1.keep⟩
                skip)
              skip)
          · try exact Bool.noConfusion h5
            all_goals try simp only [decide_eq_true_eq, decide_eq_false_iff_not, beq_iff_eq, beq_eq_false_iff_ne, bne_iff_ne, bne_eq_false_iff_eq, Bool.not_eq_true', Bool.not_eq_false', ne_eq, Int.not_lt, Int.not_le, ge_iff_le, gt_iff_lt] at h5
            all_goals (
              refine HC_skip ?_
              refine HQ_then ?_
              refine hK3 _ _ _ _ ?_; clear hK3 K3
              refine HC_seq fun K7 hK7 => ?_
              refine HC_seq fun K8 hK8 => ?_
              refine HC_region ?_
              all_goals refine HL_r rfl rfl rfl rfl (R_move rfl) ?_
              all_goals first
                | (refine HL_r rfl rfl rfl rfl (R_lenBs rfl rfl) ?_)
                | (refine HL_r rfl rfl rfl rfl (R_lenSl rfl rfl) ?_)
                | (refine HL_r rfl rfl rfl rfl (R_lenStr rfl rfl rfl) ?_)
                | (refine HL_r rfl rfl rfl rfl (R_pure rfl rfl rfl) ?_)
              all_goals refine HL_r rfl rfl rfl rfl (R_pure rfl rfl rfl) ?_
              all_goals refine HL_nil ?_
              all_goals (
                refine HQ_then ?_
                refine hK8 _ _ _ _ ?_; clear hK8 K8
                refine HC_cond rfl (fun h9 => ?_) (fun h9 => ?_)
                · try exact Bool.noConfusion h9
                  all_goals try simp only [decide_eq_true_eq, decide_eq_false_iff_not, beq_iff_eq, beq_eq_false_iff_ne, bne_iff_ne, bne_eq_false_iff_eq, Bool.not_eq_true', Bool.not_eq_false', ne_eq, Int.not_lt, Int.not_le, ge_iff_le, gt_iff_lt] at h9
                  all_goals (
                    refine HC_seq fun K10 hK10 => ?_
                    refine HC_region ?_
                    all_goals refine HL_r rfl rfl rfl rfl (R_move rfl) ?_
                    all_goals refine HL_r rfl rfl rfl rfl (R_assign rfl) ?_
                    all_goals refine HL_nil ?_
                    all_goals (
                      refine HQ_then ?_
                      refine hK10 _ _ _ _ ?_; clear hK10 K10
                      refine HC_ret ?_
                      refine HQ_thenR ?_; clear hK7 K7
                      refine HQ_post rfl rfl (.cons (res_tmp rfl) .nil) (fun w1 hs1 => ?_)
                      exact ⟨rfl, hs1.keep⟩
                      skip)
                    skip)
                · try exact Bool.noConfusion h9
                  all_goals try simp only [decide_eq_true_eq, decide_eq_false_iff_not, beq_iff_eq, beq_eq_false_iff_ne, bne_iff_ne, bne_eq_false_iff_eq, Bool.not_eq_true', Bool.not_eq_false', ne_eq, Int.not_lt, Int.not_le, ge_iff_le, gt_iff_lt] at h9
                  all_goals (
                    refine HC_skip ?_
                    refine HQ_then ?_
                    refine hK7 _ _ _ _ ?_; clear hK7 K7
                    refine HC_seq fun K11 hK11 => ?_
                    refine HC_region ?_
                    all_goals refine HL_r rfl rfl rfl rfl (R_move rfl) ?_
                    all_goals refine HL_callP rfl rfl rfl (enters_of Tryd.func18 (by kernel_rfl) rfl) (P_out_Get hs) ?_; refine HL_as (show _ = Value.tuple #[.int .i64 (v : Int), pV p, uV n, .int .i64 e] from by rw [hu]; rfl) ?_
                    all_goals refine HL_r rfl rfl rfl rfl (R_move rfl) ?_
                    all_goals refine HL_r rfl rfl rfl rfl (R_extract rfl rfl) ?_
                    all_goals refine HL_r rfl rfl rfl rfl (R_extract rfl rfl) ?_
                    all_goals refine HL_r rfl rfl rfl rfl (R_extract rfl rfl) ?_
                    all_goals refine HL_r rfl rfl rfl rfl (R_extract rfl rfl) ?_
                    all_goals refine HL_alloc (cs := #[_, _, _]) rfl rfl rfl rfl fun r1 => ?_
                    all_goals refine HL_r rfl rfl rfl rfl (R_assign rfl) ?_
                    all_goals first
                      | (refine HL_storeArr (k := 0) (n := 3) rfl rfl rfl rfl rfl (by first | (with_reducible (rw [List.length_map]; first | exact hp | exact hq | exact getR_p3 _)) | exact rfl) (by first | (with_reducible (rw [List.length_map]; first | exact hp | exact hq | exact getR_p3 _)) | exact rfl) (by first | exact mapS_one _ | rfl) rfl ?_)
                      | (refine HL_storeArr (k := 1) (n := 3) rfl rfl rfl rfl rfl (by first | (with_reducible (rw [List.length_map]; first | exact hp | exact hq | exact getR_p3 _)) | exact rfl) (by first | (with_reducible (rw [List.length_map]; first | exact hp | exact hq | exact getR_p3 _)) | exact rfl) (by first | exact mapS_one _ | rfl) rfl ?_)
                      | (refine HL_storeArr (k := 2) (n := 3) rfl rfl rfl rfl rfl (by first | (with_reducible (rw [List.length_map]; first | exact hp | exact hq | exact getR_p3 _)) | exact rfl) (by first | (with_reducible (rw [List.length_map]; first | exact hp | exact hq | exact getR_p3 _)) | exact rfl) (by first | exact mapS_one _ | rfl) rfl ?_)
                      | (refine HL_storeArr (k := 3) (n := 3) rfl rfl rfl rfl rfl (by first | (with_reducible (rw [List.length_map]; first | exact hp | exact hq | exact getR_p3 _)) | exact rfl) (by first | (with_reducible (rw [List.length_map]; first | exact hp | exact hq | exact getR_p3 _)) | exact rfl) (by first | exact mapS_one _ | rfl) rfl ?_)
                      | (refine HL_storeArr (k := 4) (n := 3) rfl rfl rfl rfl rfl (by first | (with_reducible (rw [List.length_map]; first | exact hp | exact hq | exact getR_p3 _)) | exact rfl) (by first | (with_reducible (rw [List.length_map]; first | exact hp | exact hq | exact getR_p3 _)) | exact rfl) (by first | exact mapS_one _ | rfl) rfl ?_)
                      | (refine HL_storeArr (k := 5) (n := 3) rfl rfl rfl rfl rfl (by first | (with_reducible (rw [List.length_map]; first | exact hp | exact hq | exact getR_p3 _)) | exact rfl) (by first | (with_reducible (rw [List.length_map]; first | exact hp | exact hq | exact getR_p3 _)) | exact rfl) (by first | exact mapS_one _ | rfl) rfl ?_)
                      | (refine HL_storeArr (k := 6) (n := 3) rfl rfl rfl rfl rfl (by first | (with_reducible (rw [List.length_map]; first | exact hp | exact hq | exact getR_p3 _)) | exact rfl) (by first | (with_reducible (rw [List.length_map]; first | exact hp | exact hq | exact getR_p3 _)) | exact rfl) (by first | exact mapS_one _ | rfl) rfl ?_)
                    all_goals refine HL_r rfl rfl rfl rfl (R_assign rfl) ?_
                    all_goals refine HL_r rfl rfl rfl rfl (R_assign rfl) ?_
                    all_goals refine HL_nil ?_
                    all_goals (
                      refine HQ_then ?_
                      refine hK11 _ _ _ _ ?_; clear hK11 K11
                      refine HC_seq fun K12 hK12 => ?_
                      refine HC_seq fun K13 hK13 => ?_
                      refine HC_region ?_
                      all_goals refine HL_r rfl rfl rfl rfl (R_move rfl) ?_
                      all_goals refine HL_r rfl rfl rfl rfl (R_pure rfl rfl rfl) ?_
                      all_goals first
                        | (refine HL_as (show _ = Value.bool true from bool_eq' (ineT he)) ?_)
                        | (refine HL_as (show _ = Value.bool false from bool_eq' (ineT he)) ?_)
                        | skip
                      all_goals refine HL_nil ?_
                      all_goals (
                        refine HQ_then ?_
                        refine hK13 _ _ _ _ ?_; clear hK13 K13
                        refine HC_cond rfl (fun h14 => ?_) (fun h14 => ?_)
                        · try exact Bool.noConfusion h14
                          all_goals try simp only [decide_eq_true_eq, decide_eq_false_iff_not, beq_iff_eq, beq_eq_false_iff_ne, bne_iff_ne, bne_eq_false_iff_eq, Bool.not_eq_true', Bool.not_eq_false', ne_eq, Int.not_lt, Int.not_le, ge_iff_le, gt_iff_lt] at h14
                          all_goals (
                            refine HC_seq fun K15 hK15 => ?_
                            refine HC_region ?_
                            all_goals refine HL_r rfl rfl rfl rfl (R_move rfl) ?_
                            all_goals refine HL_r rfl rfl rfl rfl (R_move rfl) ?_
                            all_goals first
                              | (refine HL_r rfl rfl rfl rfl (R_move rfl) ?_)
                              | (refine HL_skip rfl rfl rfl ?_)
                              | (refine HL_case 27 rfl (fun hb16 => ?_) (fun hb16 => ?_) <;> (try simp only [decide_eq_true_eq, decide_eq_false_iff_not, beq_iff_eq, beq_eq_false_iff_ne, bne_iff_ne, bne_eq_false_iff_eq, Bool.not_eq_true', Bool.not_eq_false', ne_eq, Int.not_lt, Int.not_le, ge_iff_le, gt_iff_lt] at hb16) <;> first | (refine HL_r rfl rfl rfl rfl (R_move rfl) ?_) | (refine HL_skip rfl rfl rfl ?_))
                            all_goals first
                              | (refine HL_r rfl rfl rfl rfl (R_pure rfl rfl rfl) ?_)
                              | (refine HL_skip rfl rfl rfl ?_)
                              | (refine HL_case 27 rfl (fun hb17 => ?_) (fun hb17 => ?_) <;> (try simp only [decide_eq_true_eq, decide_eq_false_iff_not, beq_iff_eq, beq_eq_false_iff_ne, bne_iff_ne, bne_eq_false_iff_eq, Bool.not_eq_true', Bool.not_eq_false', ne_eq, Int.not_lt, Int.not_le, ge_iff_le, gt_iff_lt] at hb17) <;> first | (refine HL_r rfl rfl rfl rfl (R_pure rfl rfl rfl) ?_) | (refine HL_skip rfl rfl rfl ?_))
                            all_goals first
                              | (refine HL_as (show _ = Value.bool true from bool_eq' (by exact ieqT (by omega))) ?_)
                              | (refine HL_as (show _ = Value.bool false from bool_eq' (by exact ieqT (by omega))) ?_)
                              | skip
                            all_goals first
                              | (refine HL_r rfl rfl rfl rfl (R_pickT rfl rfl) ?_)
                              | (refine HL_r rfl rfl rfl rfl (R_pickF rfl rfl) ?_)
                            all_goals refine HL_r rfl rfl rfl rfl (R_move rfl) ?_
                            all_goals first
                              | (refine HL_r rfl rfl rfl rfl (R_loadArr (n := 3) rfl (known_L (k := 0) rfl) rfl rfl (by first | (with_reducible (rw [List.length_map]; first | exact hp | exact hq | exact getR_p3 _)) | exact rfl)) ?_)
                              | (refine HL_r rfl rfl rfl rfl (R_loadArr (n := 3) rfl (known_L (k := 1) rfl) rfl rfl (by first | (with_reducible (rw [List.length_map]; first | exact hp | exact hq | exact getR_p3 _)) | exact rfl)) ?_)
                              | (refine HL_r rfl rfl rfl rfl (R_loadArr (n := 3) rfl (known_L (k := 2) rfl) rfl rfl (by first | (with_reducible (rw [List.length_map]; first | exact hp | exact hq | exact getR_p3 _)) | exact rfl)) ?_)
                              | (refine HL_r rfl rfl rfl rfl (R_loadArr (n := 3) rfl (known_L (k := 3) rfl) rfl rfl (by first | (with_reducible (rw [List.length_map]; first | exact hp | exact hq | exact getR_p3 _)) | exact rfl)) ?_)
                              | (refine HL_r rfl rfl rfl rfl (R_loadArr (n := 3) rfl (known_L (k := 4) rfl) rfl rfl (by first | (with_reducible (rw [List.length_map]; first | exact hp | exact hq | exact getR_p3 _)) | exact rfl)) ?_)
                              | (refine HL_r rfl rfl rfl rfl (R_loadArr (n := 3) rfl (known_L (k := 5) rfl) rfl rfl (by first | (with_reducible (rw [List.length_map]; first | exact hp | exact hq | exact getR_p3 _)) | exact rfl)) ?_)
                              | (refine HL_r rfl rfl rfl rfl (R_loadArr (n := 3) rfl (known_L (k := 6) rfl) rfl rfl (by first | (with_reducible (rw [List.length_map]; first | exact hp | exact hq | exact getR_p3 _)) | exact rfl)) ?_)
                              | (refine HL_skip rfl rfl rfl ?_)
                              | (refine HL_case 31 rfl (fun hb18 => ?_) (fun hb18 => ?_) <;> (try simp only [decide_eq_true_eq, decide_eq_false_iff_not, beq_iff_eq, beq_eq_false_iff_ne, bne_iff_ne, bne_eq_false_iff_eq, Bool.not_eq_true', Bool.not_eq_false', ne_eq, Int.not_lt, Int.not_le, ge_iff_le, gt_iff_lt] at hb18) <;> first | (refine HL_r rfl rfl rfl rfl (R_loadArr (n := 3) rfl (known_L (k := 0) rfl) rfl rfl (by first | (with_reducible (rw [List.length_map]; first | exact hp | exact hq | exact getR_p3 _)) | exact rfl)) ?_) | (refine HL_r rfl rfl rfl rfl (R_loadArr (n := 3) rfl (known_L (k := 1) rfl) rfl rfl (by first | (with_reducible (rw [List.length_map]; first | exact hp | exact hq | exact getR_p3 _)) | exact rfl)) ?_) | (refine HL_r rfl rfl rfl rfl (R_loadArr (n := 3) rfl (known_L (k := 2) rfl) rfl rfl (by first | (with_reducible (rw [List.length_map]; first | exact hp | exact hq | exact getR_p3 _)) | exact rfl)) ?_) | (refine HL_r rfl rfl rfl rfl (R_loadArr (n := 3) rfl (known_L (k := 3) rfl) rfl rfl (by first | (with_reducible (rw [List.length_map]; first | exact hp | exact hq | exact getR_p3 _)) | exact rfl)) ?_) | (refine HL_r rfl rfl rfl rfl (R_loadArr (n := 3) rfl (known_L (k := 4) rfl) rfl rfl (by first | (with_reducible (rw [List.length_map]; first | exact hp | exact hq | exact getR_p3 _)) | exact rfl)) ?_) | (refine HL_r rfl rfl rfl rfl (R_loadArr (n := 3) rfl (known_L (k := 5) rfl) rfl rfl (by first | (with_reducible (rw [List.length_map]; first | exact hp | exact hq | exact getR_p3 _)) | exact rfl)) ?_) | (refine HL_r rfl rfl rfl rfl (R_loadArr (n := 3) rfl (known_L (k := 6) rfl) rfl rfl (by first | (with_reducible (rw [List.length_map]; first | exact hp | exact hq | exact getR_p3 _)) | exact rfl)) ?_) | (refine HL_skip rfl rfl rfl ?_))
                            all_goals first
                              | (refine HL_r rfl rfl rfl rfl (R_build (r := [_, _, _]) rfl rfl) ?_)
                              | (refine HL_skip rfl rfl rfl ?_)
                              | (refine HL_case 31 rfl (fun hb19 => ?_) (fun hb19 => ?_) <;> (try simp only [decide_eq_true_eq, decide_eq_false_iff_not, beq_iff_eq, beq_eq_false_iff_ne, bne_iff_ne, bne_eq_false_iff_eq, Bool.not_eq_true', Bool.not_eq_false', ne_eq, Int.not_lt, Int.not_le, ge_iff_le, gt_iff_lt] at hb19) <;> first | (refine HL_r rfl rfl rfl rfl (R_build (r := [_, _, _]) rfl rfl) ?_) | (refine HL_skip rfl rfl rfl ?_))
                            all_goals first
                              | (refine HL_r rfl rfl rfl rfl (R_eqArr rfl rfl rfl rfl rfl (by kernel_rfl) (by first | (with_reducible (rw [List.length_map]; first | exact hp | exact hq | exact getR_p3 _)) | exact rfl) (by first | (with_reducible (rw [List.length_map]; first | exact hp | exact hq | exact getR_p3 _)) | exact rfl) (by first | exact scalS rfl _ | rfl) (by first | exact scalS rfl _ | rfl)) ?_)
                              | (refine HL_skip rfl rfl rfl ?_)
                              | (refine HL_case 31 rfl (fun hb20 => ?_) (fun hb20 => ?_) <;> (try simp only [decide_eq_true_eq, decide_eq_false_iff_not, beq_iff_eq, beq_eq_false_iff_ne, bne_iff_ne, bne_eq_false_iff_eq, Bool.not_eq_true', Bool.not_eq_false', ne_eq, Int.not_lt, Int.not_le, ge_iff_le, gt_iff_lt] at hb20) <;> first | (refine HL_r rfl rfl rfl rfl (R_eqArr rfl rfl rfl rfl rfl (by kernel_rfl) (by first | (with_reducible (rw [List.length_map]; first | exact hp | exact hq | exact getR_p3 _)) | exact rfl) (by first | (with_reducible (rw [List.length_map]; first | exact hp | exact hq | exact getR_p3 _)) | exact rfl) (by first | exact scalS rfl _ | rfl) (by first | exact scalS rfl _ | rfl)) ?_) | (refine HL_skip rfl rfl rfl ?_))
                            all_goals first
                              | (refine HL_as (show _ = Value.bool true from bool_eq' (by exact eqP_of (q := [[], [], []]) hp0)) ?_)
                              | (refine HL_as (show _ = Value.bool false from bool_eq' (by exact eqP_of (q := [[], [], []]) hp0)) ?_)
                              | skip
                            all_goals first
                              | (refine HL_r rfl rfl rfl rfl (R_pickT rfl rfl) ?_)
                              | (refine HL_r rfl rfl rfl rfl (R_pickF rfl rfl) ?_)
                            all_goals refine HL_r rfl rfl rfl rfl (R_move rfl) ?_
                            all_goals first
                              | (refine HL_r rfl rfl rfl rfl (R_move rfl) ?_)
                              | (refine HL_skip rfl rfl rfl ?_)
                              | (refine HL_case 36 rfl (fun hb21 => ?_) (fun hb21 => ?_) <;> (try simp only [decide_eq_true_eq, decide_eq_false_iff_not, beq_iff_eq, beq_eq_false_iff_ne, bne_iff_ne, bne_eq_false_iff_eq, Bool.not_eq_true', Bool.not_eq_false', ne_eq, Int.not_lt, Int.not_le, ge_iff_le, gt_iff_lt] at hb21) <;> first | (refine HL_r rfl rfl rfl rfl (R_move rfl) ?_) | (refine HL_skip rfl rfl rfl ?_))
                            all_goals first
                              | (refine HL_r rfl rfl rfl rfl (R_pure rfl rfl rfl) ?_)
                              | (refine HL_skip rfl rfl rfl ?_)
                              | (refine HL_case 36 rfl (fun hb22 => ?_) (fun hb22 => ?_) <;> (try simp only [decide_eq_true_eq, decide_eq_false_iff_not, beq_iff_eq, beq_eq_false_iff_ne, bne_iff_ne, bne_eq_false_iff_eq, Bool.not_eq_true', Bool.not_eq_false', ne_eq, Int.not_lt, Int.not_le, ge_iff_le, gt_iff_lt] at hb22) <;> first | (refine HL_r rfl rfl rfl rfl (R_pure rfl rfl rfl) ?_) | (refine HL_skip rfl rfl rfl ?_))
                            all_goals first
                              | (refine HL_as (show _ = Value.bool true from bool_eq' (by exact ieqT (by omega))) ?_)
                              | (refine HL_as (show _ = Value.bool false from bool_eq' (by exact ieqT (by omega))) ?_)
                              | skip
                            all_goals first
                              | (refine HL_r rfl rfl rfl rfl (R_pickT rfl rfl) ?_)
                              | (refine HL_r rfl rfl rfl rfl (R_pickF rfl rfl) ?_)
                            all_goals refine HL_r rfl rfl rfl rfl (R_assign rfl) ?_
                            all_goals refine HL_nil ?_
                            all_goals (
                              refine HQ_then ?_
                              refine hK15 _ _ _ _ ?_; clear hK15 K15
                              refine HC_ret ?_
                              refine HQ_thenR ?_; clear hK12 K12
                              refine HQ_post rfl rfl (.cons (res_tmp rfl) .nil) (fun w1 hs1 => ?_)
                              exact ⟨rfl, hs1.keep⟩
                              skip)
                            skip)
                        · try exact Bool.noConfusion h14
                          all_goals try simp only [decide_eq_true_eq, decide_eq_false_iff_not, beq_iff_eq, beq_eq_false_iff_ne, bne_iff_ne, bne_eq_false_iff_eq, Bool.not_eq_true', Bool.not_eq_false', ne_eq, Int.not_lt, Int.not_le, ge_iff_le, gt_iff_lt] at h14
                          all_goals (
                            refine HC_skip ?_
                            refine HQ_then ?_
                            refine hK12 _ _ _ _ ?_; clear hK12 K12
                            refine HC_seq fun K23 hK23 => ?_
                            refine HC_region ?_
                            all_goals refine HL_r rfl rfl rfl rfl (R_move rfl) ?_
                            all_goals first
                              | (refine HL_r rfl rfl rfl rfl (R_loadArr (n := 3) rfl (known_L (k := 0) rfl) rfl rfl (by first | (with_reducible (rw [List.length_map]; first | exact hp | exact hq | exact getR_p3 _)) | exact rfl)) ?_)
                              | (refine HL_r rfl rfl rfl rfl (R_loadArr (n := 3) rfl (known_L (k := 1) rfl) rfl rfl (by first | (with_reducible (rw [List.length_map]; first | exact hp | exact hq | exact getR_p3 _)) | exact rfl)) ?_)
                              | (refine HL_r rfl rfl rfl rfl (R_loadArr (n := 3) rfl (known_L (k := 2) rfl) rfl rfl (by first | (with_reducible (rw [List.length_map]; first | exact hp | exact hq | exact getR_p3 _)) | exact rfl)) ?_)
                              | (refine HL_r rfl rfl rfl rfl (R_loadArr (n := 3) rfl (known_L (k := 3) rfl) rfl rfl (by first | (with_reducible (rw [List.length_map]; first | exact hp | exact hq | exact getR_p3 _)) | exact rfl)) ?_)
                              | (refine HL_r rfl rfl rfl rfl (R_loadArr (n := 3) rfl (known_L (k := 4) rfl) rfl rfl (by first | (with_reducible (rw [List.length_map]; first | exact hp | exact hq | exact getR_p3 _)) | exact rfl)) ?_)
                              | (refine HL_r rfl rfl rfl rfl (R_loadArr (n := 3) rfl (known_L (k := 5) rfl) rfl rfl (by first | (with_reducible (rw [List.length_map]; first | exact hp | exact hq | exact getR_p3 _)) | exact rfl)) ?_)
                              | (refine HL_r rfl rfl rfl rfl (R_loadArr (n := 3) rfl (known_L (k := 6) rfl) rfl rfl (by first | (with_reducible (rw [List.length_map]; first | exact hp | exact hq | exact getR_p3 _)) | exact rfl)) ?_)
                            all_goals refine HL_r rfl rfl rfl rfl (R_move rfl) ?_
                            all_goals refine HL_callP rfl rfl rfl (enters_of Tryd.func14 (by kernel_rfl) rfl) (P_output_Put ..) ?_
                            all_goals refine HL_r rfl rfl rfl rfl (R_move rfl) ?_
                            all_goals refine HL_r rfl rfl rfl rfl (R_extract rfl rfl) ?_
                            all_goals refine HL_r rfl rfl rfl rfl (R_extract rfl rfl) ?_
                            all_goals refine HL_r rfl rfl rfl rfl (R_assign rfl) ?_
                            all_goals refine HL_r rfl rfl rfl rfl (R_assign rfl) ?_
                            all_goals refine HL_nil ?_
                            all_goals (
                              refine HQ_then ?_
                              refine hK23 _ _ _ _ ?_; clear hK23 K23
                              refine HC_seq fun K24 hK24 => ?_
                              refine HC_region ?_
                              all_goals refine HL_r rfl rfl rfl rfl (R_move rfl) ?_
                              all_goals refine HL_r rfl rfl rfl rfl (R_move rfl) ?_
                              all_goals first
                                | (refine HL_r rfl rfl rfl rfl (R_move rfl) ?_)
                                | (refine HL_skip rfl rfl rfl ?_)
                                | (refine HL_case 48 rfl (fun hb25 => ?_) (fun hb25 => ?_) <;> (try simp only [decide_eq_true_eq, decide_eq_false_iff_not, beq_iff_eq, beq_eq_false_iff_ne, bne_iff_ne, bne_eq_false_iff_eq, Bool.not_eq_true', Bool.not_eq_false', ne_eq, Int.not_lt, Int.not_le, ge_iff_le, gt_iff_lt] at hb25) <;> first | (refine HL_r rfl rfl rfl rfl (R_move rfl) ?_) | (refine HL_skip rfl rfl rfl ?_))
                              all_goals first
                                | (refine HL_r rfl rfl rfl rfl (R_pure rfl rfl rfl) ?_)
                                | (refine HL_skip rfl rfl rfl ?_)
                                | (refine HL_case 48 rfl (fun hb26 => ?_) (fun hb26 => ?_) <;> (try simp only [decide_eq_true_eq, decide_eq_false_iff_not, beq_iff_eq, beq_eq_false_iff_ne, bne_iff_ne, bne_eq_false_iff_eq, Bool.not_eq_true', Bool.not_eq_false', ne_eq, Int.not_lt, Int.not_le, ge_iff_le, gt_iff_lt] at hb26) <;> first | (refine HL_r rfl rfl rfl rfl (R_pure rfl rfl rfl) ?_) | (refine HL_skip rfl rfl rfl ?_))
                              all_goals first
                                | (refine HL_r rfl rfl rfl rfl (R_pickT rfl rfl) ?_)
                                | (refine HL_r rfl rfl rfl rfl (R_pickF rfl rfl) ?_)
                              all_goals refine HL_r rfl rfl rfl rfl (R_move rfl) ?_
                              all_goals first
                                | (refine HL_r rfl rfl rfl rfl (R_move rfl) ?_)
                                | (refine HL_skip rfl rfl rfl ?_)
                                | (refine HL_case 52 rfl (fun hb27 => ?_) (fun hb27 => ?_) <;> (try simp only [decide_eq_true_eq, decide_eq_false_iff_not, beq_iff_eq, beq_eq_false_iff_ne, bne_iff_ne, bne_eq_false_iff_eq, Bool.not_eq_true', Bool.not_eq_false', ne_eq, Int.not_lt, Int.not_le, ge_iff_le, gt_iff_lt] at hb27) <;> first | (refine HL_r rfl rfl rfl rfl (R_move rfl) ?_) | (refine HL_skip rfl rfl rfl ?_))
                              all_goals first
                                | (refine HL_r rfl rfl rfl rfl (R_move rfl) ?_)
                                | (refine HL_skip rfl rfl rfl ?_)
                                | (refine HL_case 52 rfl (fun hb28 => ?_) (fun hb28 => ?_) <;> (try simp only [decide_eq_true_eq, decide_eq_false_iff_not, beq_iff_eq, beq_eq_false_iff_ne, bne_iff_ne, bne_eq_false_iff_eq, Bool.not_eq_true', Bool.not_eq_false', ne_eq, Int.not_lt, Int.not_le, ge_iff_le, gt_iff_lt] at hb28) <;> first | (refine HL_r rfl rfl rfl rfl (R_move rfl) ?_) | (refine HL_skip rfl rfl rfl ?_))
                              all_goals first
                                | (refine HL_r rfl rfl rfl rfl (R_strEq rfl rfl) ?_)
                                | (refine HL_skip rfl rfl rfl ?_)
                                | (refine HL_case 52 rfl (fun hb29 => ?_) (fun hb29 => ?_) <;> (try simp only [decide_eq_true_eq, decide_eq_false_iff_not, beq_iff_eq, beq_eq_false_iff_ne, bne_iff_ne, bne_eq_false_iff_eq, Bool.not_eq_true', Bool.not_eq_false', ne_eq, Int.not_lt, Int.not_le, ge_iff_le, gt_iff_lt] at hb29) <;> first | (refine HL_r rfl rfl rfl rfl (R_strEq rfl rfl) ?_) | (refine HL_skip rfl rfl rfl ?_))
                              all_goals first
                                | (refine HL_r rfl rfl rfl rfl (R_pickT rfl rfl) ?_)
                                | (refine HL_r rfl rfl rfl rfl (R_pickF rfl rfl) ?_)
                              all_goals refine HL_r rfl rfl rfl rfl (R_assign rfl) ?_
                              all_goals refine HL_nil ?_
                              all_goals (
                                refine HQ_then ?_
                                refine hK24 _ _ _ _ ?_; clear hK24 K24
                                refine HC_ret ?_
                                refine HQ_post rfl rfl (.cons (res_tmp rfl) .nil) (fun w1 hs1 => ?_)
                                exact ⟨rfl, hs1.keep⟩
                                skip)
                              skip)
                            skip)
                        skip)
                      skip)
                    skip)
                skip)
              skip)
          skip)
        skip)
      skip)
theorem put_inj {v w : Int} {p q : List (List UInt8)} (hp : p.length = 3) (hq : q.length = 3) {n m : Nat} (hn : n < 18446744073709551616) (hm : m < 18446744073709551616) {s t : List UInt8} (h1 : getR s = (v.toNat, p, n, 0)) (h2 : getR t = (w.toNat, q, m, 0)) (hv : (v.toNat : Int) = v) (hw : (w.toNat : Int) = w)
    (g1 : putR v p n = (s, 0)) (g2 : putR w q m = (t, 0)) : decide (s = t) = (decide (v = w) && (decide (p = q) && decide (n = m))) := by
  rw [Bool.eq_iff_iff]
  simp only [Bool.and_eq_true, decide_eq_true_eq]
  constructor
  · rintro rfl
    have := h1.symm.trans h2
    simp only [Prod.mk.injEq] at this
    exact ⟨by omega, this.2.1, this.2.2.1⟩
  · rintro ⟨rfl, rfl, rfl⟩
    exact congrArg Prod.fst (g1.symm.trans g2)
end Go.Proofs.YthfinkklgbiaeaaDoor
