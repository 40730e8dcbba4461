import Derived.Test.YthfinkklgbiaeaaDoorOf
namespace Go.Proofs.YthfinkklgbiaeaaDoor
set_option linter.all false
open Go.SL Go.RowKit Go.Shelf
set_option maxRecDepth 10000 in
theorem P_OutputApart {p q : List (List UInt8)} (hp : p.length = 3) (hq : q.length = 3) {n m : Nat} (hn : n < 18446744073709551616) (hm : m < 18446744073709551616) (v v2 : Int) : Pure Tryd.prog 7 [.int .i64 v, pV p, uV n, .int .i64 v2, pV q, uV m].toArray (.bool true) := by
  refine pure_of_HC Tryd.func7 rfl rfl fun w => ?_
  have fin : ∀ {s t : List UInt8} {e e2 : Int}, (¬ e = 0 ∨ ¬ e2 = 0) → True := fun _ => trivial
  rcases put_cases v p hp hn with ⟨s, e, hu, he, hg, hvv, hsl, hv1, hr⟩ | ⟨s, e, hu, he, hs, hr⟩ <;> rcases put_cases v2 q hq hm with ⟨t, e2, hu2, he2, hg2, hvv2, hsl2, hv2, hr2⟩ | ⟨t, e2, hu2, he2, hs2, hr2⟩
  case inl.inl =>
    have hst := put_inj hp hq hn hm hg hg2 hvv hvv2 (by rw [hu, he]) (by rw [hu2, he2])
    refine HC_seq fun K1 hK1 => ?_
    refine HC_region ?_
    all_goals refine HL_box (cs := List.toArray _) rfl rfl rfl rfl fun r1 => ?_
    all_goals refine HL_box (cs := List.toArray _) rfl rfl rfl rfl fun r2 => ?_
    all_goals refine HL_r rfl rfl rfl rfl (R_assign rfl) ?_
    all_goals refine HL_nil ?_
    all_goals (
      refine HQ_then ?_
      refine hK1 _ _ _ _ ?_; clear hK1 K1
      refine HC_seq fun K2 hK2 => ?_
      refine HC_region ?_
      all_goals refine HL_callP rfl rfl rfl (enters_of Tryd.func12 (by kernel_rfl) rfl) P_works21 ?_
      all_goals refine HL_r rfl rfl rfl rfl (R_assign rfl) ?_
      all_goals refine HL_nil ?_
      all_goals (
        refine HQ_then ?_
        refine hK2 _ _ _ _ ?_; clear hK2 K2
        refine HC_seq fun K3 hK3 => ?_
        refine HC_seq fun K4 hK4 => ?_
        refine HC_region ?_
        all_goals refine HL_r rfl rfl rfl rfl (R_move rfl) ?_
        all_goals refine HL_r rfl rfl rfl rfl (R_pure rfl rfl rfl) ?_
        all_goals refine HL_nil ?_
        all_goals (
          refine HQ_then ?_
          refine hK4 _ _ _ _ ?_; clear hK4 K4
          refine HC_cond rfl (fun h5 => ?_) (fun h5 => ?_)
          · try exact Bool.noConfusion h5
            all_goals try simp only [decide_eq_true_eq, decide_eq_false_iff_not, beq_iff_eq, beq_eq_false_iff_ne, bne_iff_ne, bne_eq_false_iff_eq, Bool.not_eq_true', Bool.not_eq_false', ne_eq, Int.not_lt, Int.not_le, ge_iff_le, gt_iff_lt] at h5
            all_goals (
              refine HC_seq fun K6 hK6 => ?_
              refine HC_region ?_
              all_goals refine HL_r rfl rfl rfl rfl (R_assign rfl) ?_
              all_goals refine HL_nil ?_
              all_goals (
                refine HQ_then ?_
                refine hK6 _ _ _ _ ?_; clear hK6 K6
                refine HC_ret ?_
                refine HQ_thenR ?_; clear hK3 K3
                refine HQ_post rfl rfl (.cons (res_tmp rfl) .nil) (fun w1 hs1 => ?_)
                exact ⟨rfl, hs1.keep⟩
                skip)
              skip)
          · try exact Bool.noConfusion h5
            all_goals try simp only [decide_eq_true_eq, decide_eq_false_iff_not, beq_iff_eq, beq_eq_false_iff_ne, bne_iff_ne, bne_eq_false_iff_eq, Bool.not_eq_true', Bool.not_eq_false', ne_eq, Int.not_lt, Int.not_le, ge_iff_le, gt_iff_lt] at h5
            all_goals (
              refine HC_skip ?_
              refine HQ_then ?_
              refine hK3 _ _ _ _ ?_; clear hK3 K3
              refine HC_seq fun K7 hK7 => ?_
              refine HC_region ?_
              all_goals first
                | (refine HL_r rfl rfl rfl rfl (R_loadArr (n := 3) rfl (known_L (k := 0) rfl) rfl rfl (by first | (with_reducible (rw [List.length_map]; first | exact hp | exact hq | exact getR_p3 _)) | exact rfl)) ?_)
                | (refine HL_r rfl rfl rfl rfl (R_loadArr (n := 3) rfl (known_L (k := 1) rfl) rfl rfl (by first | (with_reducible (rw [List.length_map]; first | exact hp | exact hq | exact getR_p3 _)) | exact rfl)) ?_)
                | (refine HL_r rfl rfl rfl rfl (R_loadArr (n := 3) rfl (known_L (k := 2) rfl) rfl rfl (by first | (with_reducible (rw [List.length_map]; first | exact hp | exact hq | exact getR_p3 _)) | exact rfl)) ?_)
                | (refine HL_r rfl rfl rfl rfl (R_loadArr (n := 3) rfl (known_L (k := 3) rfl) rfl rfl (by first | (with_reducible (rw [List.length_map]; first | exact hp | exact hq | exact getR_p3 _)) | exact rfl)) ?_)
                | (refine HL_r rfl rfl rfl rfl (R_loadArr (n := 3) rfl (known_L (k := 4) rfl) rfl rfl (by first | (with_reducible (rw [List.length_map]; first | exact hp | exact hq | exact getR_p3 _)) | exact rfl)) ?_)
                | (refine HL_r rfl rfl rfl rfl (R_loadArr (n := 3) rfl (known_L (k := 5) rfl) rfl rfl (by first | (with_reducible (rw [List.length_map]; first | exact hp | exact hq | exact getR_p3 _)) | exact rfl)) ?_)
                | (refine HL_r rfl rfl rfl rfl (R_loadArr (n := 3) rfl (known_L (k := 6) rfl) rfl rfl (by first | (with_reducible (rw [List.length_map]; first | exact hp | exact hq | exact getR_p3 _)) | exact rfl)) ?_)
              all_goals refine HL_callP rfl rfl rfl (enters_of Tryd.func13 (by kernel_rfl) rfl) (P_few hp) ?_
              all_goals refine HL_r rfl rfl rfl rfl (R_move rfl) ?_
              all_goals first
                | (refine HL_r rfl rfl rfl rfl (R_loadArr (n := 3) rfl (known_L (k := 0) rfl) rfl rfl (by first | (with_reducible (rw [List.length_map]; first | exact hp | exact hq | exact getR_p3 _)) | exact rfl)) ?_)
                | (refine HL_r rfl rfl rfl rfl (R_loadArr (n := 3) rfl (known_L (k := 1) rfl) rfl rfl (by first | (with_reducible (rw [List.length_map]; first | exact hp | exact hq | exact getR_p3 _)) | exact rfl)) ?_)
                | (refine HL_r rfl rfl rfl rfl (R_loadArr (n := 3) rfl (known_L (k := 2) rfl) rfl rfl (by first | (with_reducible (rw [List.length_map]; first | exact hp | exact hq | exact getR_p3 _)) | exact rfl)) ?_)
                | (refine HL_r rfl rfl rfl rfl (R_loadArr (n := 3) rfl (known_L (k := 3) rfl) rfl rfl (by first | (with_reducible (rw [List.length_map]; first | exact hp | exact hq | exact getR_p3 _)) | exact rfl)) ?_)
                | (refine HL_r rfl rfl rfl rfl (R_loadArr (n := 3) rfl (known_L (k := 4) rfl) rfl rfl (by first | (with_reducible (rw [List.length_map]; first | exact hp | exact hq | exact getR_p3 _)) | exact rfl)) ?_)
                | (refine HL_r rfl rfl rfl rfl (R_loadArr (n := 3) rfl (known_L (k := 5) rfl) rfl rfl (by first | (with_reducible (rw [List.length_map]; first | exact hp | exact hq | exact getR_p3 _)) | exact rfl)) ?_)
                | (refine HL_r rfl rfl rfl rfl (R_loadArr (n := 3) rfl (known_L (k := 6) rfl) rfl rfl (by first | (with_reducible (rw [List.length_map]; first | exact hp | exact hq | exact getR_p3 _)) | exact rfl)) ?_)
                | (refine HL_skip rfl rfl rfl ?_)
                | (refine HL_case 24 rfl (fun hb8 => ?_) (fun hb8 => ?_) <;> (try simp only [decide_eq_true_eq, decide_eq_false_iff_not, beq_iff_eq, beq_eq_false_iff_ne, bne_iff_ne, bne_eq_false_iff_eq, Bool.not_eq_true', Bool.not_eq_false', ne_eq, Int.not_lt, Int.not_le, ge_iff_le, gt_iff_lt] at hb8) <;> first | (refine HL_r rfl rfl rfl rfl (R_loadArr (n := 3) rfl (known_L (k := 0) rfl) rfl rfl (by first | (with_reducible (rw [List.length_map]; first | exact hp | exact hq | exact getR_p3 _)) | exact rfl)) ?_) | (refine HL_r rfl rfl rfl rfl (R_loadArr (n := 3) rfl (known_L (k := 1) rfl) rfl rfl (by first | (with_reducible (rw [List.length_map]; first | exact hp | exact hq | exact getR_p3 _)) | exact rfl)) ?_) | (refine HL_r rfl rfl rfl rfl (R_loadArr (n := 3) rfl (known_L (k := 2) rfl) rfl rfl (by first | (with_reducible (rw [List.length_map]; first | exact hp | exact hq | exact getR_p3 _)) | exact rfl)) ?_) | (refine HL_r rfl rfl rfl rfl (R_loadArr (n := 3) rfl (known_L (k := 3) rfl) rfl rfl (by first | (with_reducible (rw [List.length_map]; first | exact hp | exact hq | exact getR_p3 _)) | exact rfl)) ?_) | (refine HL_r rfl rfl rfl rfl (R_loadArr (n := 3) rfl (known_L (k := 4) rfl) rfl rfl (by first | (with_reducible (rw [List.length_map]; first | exact hp | exact hq | exact getR_p3 _)) | exact rfl)) ?_) | (refine HL_r rfl rfl rfl rfl (R_loadArr (n := 3) rfl (known_L (k := 5) rfl) rfl rfl (by first | (with_reducible (rw [List.length_map]; first | exact hp | exact hq | exact getR_p3 _)) | exact rfl)) ?_) | (refine HL_r rfl rfl rfl rfl (R_loadArr (n := 3) rfl (known_L (k := 6) rfl) rfl rfl (by first | (with_reducible (rw [List.length_map]; first | exact hp | exact hq | exact getR_p3 _)) | exact rfl)) ?_) | (refine HL_skip rfl rfl rfl ?_))
              all_goals first | (refine HL_callP rfl rfl rfl (enters_of Tryd.func13 (by kernel_rfl) rfl) (P_few hq) ?_) | refine HL_skip rfl rfl rfl ?_ | (refine HL_case 24 rfl (fun hb0 => ?_) (fun hb0 => ?_) <;> first | (refine HL_callP rfl rfl rfl (enters_of Tryd.func13 (by kernel_rfl) rfl) (P_few hq) ?_) | refine HL_skip rfl rfl rfl ?_)
              all_goals first
                | (refine HL_r rfl rfl rfl rfl (R_pickT rfl rfl) ?_)
                | (refine HL_r rfl rfl rfl rfl (R_pickF rfl rfl) ?_)
              all_goals refine HL_r rfl rfl rfl rfl (R_assign rfl) ?_
              all_goals refine HL_nil ?_
              all_goals (
                refine HQ_then ?_
                refine hK7 _ _ _ _ ?_; clear hK7 K7
                refine HC_seq fun K9 hK9 => ?_
                refine HC_seq fun K10 hK10 => ?_
                refine HC_region ?_
                all_goals refine HL_r rfl rfl rfl rfl (R_move rfl) ?_
                all_goals refine HL_r rfl rfl rfl rfl (R_pure rfl rfl rfl) ?_
                all_goals refine HL_nil ?_
                all_goals (
                  refine HQ_then ?_
                  refine hK10 _ _ _ _ ?_; clear hK10 K10
                  refine HC_cond rfl (fun h11 => ?_) (fun h11 => ?_)
                  · try exact Bool.noConfusion h11
                    all_goals try simp only [decide_eq_true_eq, decide_eq_false_iff_not, beq_iff_eq, beq_eq_false_iff_ne, bne_iff_ne, bne_eq_false_iff_eq, Bool.not_eq_true', Bool.not_eq_false', ne_eq, Int.not_lt, Int.not_le, ge_iff_le, gt_iff_lt] at h11
                    all_goals (
                      refine HC_seq fun K12 hK12 => ?_
                      refine HC_region ?_
                      all_goals refine HL_r rfl rfl rfl rfl (R_move rfl) ?_
                      all_goals refine HL_r rfl rfl rfl rfl (R_assign rfl) ?_
                      all_goals refine HL_nil ?_
                      all_goals (
                        refine HQ_then ?_
                        refine hK12 _ _ _ _ ?_; clear hK12 K12
                        refine HC_ret ?_
                        refine HQ_thenR ?_; clear hK9 K9
                        refine HQ_post rfl rfl (.cons (res_tmp rfl) .nil) (fun w1 hs1 => ?_)
                        exact ⟨rfl, hs1.keep⟩
                        skip)
                      skip)
                  · try exact Bool.noConfusion h11
                    all_goals try simp only [decide_eq_true_eq, decide_eq_false_iff_not, beq_iff_eq, beq_eq_false_iff_ne, bne_iff_ne, bne_eq_false_iff_eq, Bool.not_eq_true', Bool.not_eq_false', ne_eq, Int.not_lt, Int.not_le, ge_iff_le, gt_iff_lt] at h11
                    all_goals (
                      refine HC_skip ?_
                      refine HQ_then ?_
                      refine hK9 _ _ _ _ ?_; clear hK9 K9
                      refine HC_seq fun K13 hK13 => ?_
                      refine HC_region ?_
                      all_goals refine HL_r rfl rfl rfl rfl (R_move rfl) ?_
                      all_goals first
                        | (refine HL_r rfl rfl rfl rfl (R_loadArr (n := 3) rfl (known_L (k := 0) rfl) rfl rfl (by first | (with_reducible (rw [List.length_map]; first | exact hp | exact hq | exact getR_p3 _)) | exact rfl)) ?_)
                        | (refine HL_r rfl rfl rfl rfl (R_loadArr (n := 3) rfl (known_L (k := 1) rfl) rfl rfl (by first | (with_reducible (rw [List.length_map]; first | exact hp | exact hq | exact getR_p3 _)) | exact rfl)) ?_)
                        | (refine HL_r rfl rfl rfl rfl (R_loadArr (n := 3) rfl (known_L (k := 2) rfl) rfl rfl (by first | (with_reducible (rw [List.length_map]; first | exact hp | exact hq | exact getR_p3 _)) | exact rfl)) ?_)
                        | (refine HL_r rfl rfl rfl rfl (R_loadArr (n := 3) rfl (known_L (k := 3) rfl) rfl rfl (by first | (with_reducible (rw [List.length_map]; first | exact hp | exact hq | exact getR_p3 _)) | exact rfl)) ?_)
                        | (refine HL_r rfl rfl rfl rfl (R_loadArr (n := 3) rfl (known_L (k := 4) rfl) rfl rfl (by first | (with_reducible (rw [List.length_map]; first | exact hp | exact hq | exact getR_p3 _)) | exact rfl)) ?_)
                        | (refine HL_r rfl rfl rfl rfl (R_loadArr (n := 3) rfl (known_L (k := 5) rfl) rfl rfl (by first | (with_reducible (rw [List.length_map]; first | exact hp | exact hq | exact getR_p3 _)) | exact rfl)) ?_)
                        | (refine HL_r rfl rfl rfl rfl (R_loadArr (n := 3) rfl (known_L (k := 6) rfl) rfl rfl (by first | (with_reducible (rw [List.length_map]; first | exact hp | exact hq | exact getR_p3 _)) | exact rfl)) ?_)
                      all_goals refine HL_r rfl rfl rfl rfl (R_move rfl) ?_
                      all_goals refine HL_callP rfl rfl rfl (enters_of Tryd.func14 (by kernel_rfl) rfl) (P_out_Put hp hn v) ?_; refine HL_as (show _ = Value.tuple #[.string (bs s), .int .i64 e] from by rw [hu]; rfl) ?_
                      all_goals refine HL_r rfl rfl rfl rfl (R_move rfl) ?_
                      all_goals refine HL_r rfl rfl rfl rfl (R_extract rfl rfl) ?_
                      all_goals refine HL_r rfl rfl rfl rfl (R_extract rfl rfl) ?_
                      all_goals refine HL_r rfl rfl rfl rfl (R_assign rfl) ?_
                      all_goals refine HL_r rfl rfl rfl rfl (R_assign rfl) ?_
                      all_goals refine HL_nil ?_
                      all_goals (
                        refine HQ_then ?_
                        refine hK13 _ _ _ _ ?_; clear hK13 K13
                        refine HC_seq fun K14 hK14 => ?_
                        refine HC_region ?_
                        all_goals refine HL_r rfl rfl rfl rfl (R_move rfl) ?_
                        all_goals first
                          | (refine HL_r rfl rfl rfl rfl (R_loadArr (n := 3) rfl (known_L (k := 0) rfl) rfl rfl (by first | (with_reducible (rw [List.length_map]; first | exact hp | exact hq | exact getR_p3 _)) | exact rfl)) ?_)
                          | (refine HL_r rfl rfl rfl rfl (R_loadArr (n := 3) rfl (known_L (k := 1) rfl) rfl rfl (by first | (with_reducible (rw [List.length_map]; first | exact hp | exact hq | exact getR_p3 _)) | exact rfl)) ?_)
                          | (refine HL_r rfl rfl rfl rfl (R_loadArr (n := 3) rfl (known_L (k := 2) rfl) rfl rfl (by first | (with_reducible (rw [List.length_map]; first | exact hp | exact hq | exact getR_p3 _)) | exact rfl)) ?_)
                          | (refine HL_r rfl rfl rfl rfl (R_loadArr (n := 3) rfl (known_L (k := 3) rfl) rfl rfl (by first | (with_reducible (rw [List.length_map]; first | exact hp | exact hq | exact getR_p3 _)) | exact rfl)) ?_)
                          | (refine HL_r rfl rfl rfl rfl (R_loadArr (n := 3) rfl (known_L (k := 4) rfl) rfl rfl (by first | (with_reducible (rw [List.length_map]; first | exact hp | exact hq | exact getR_p3 _)) | exact rfl)) ?_)
                          | (refine HL_r rfl rfl rfl rfl (R_loadArr (n := 3) rfl (known_L (k := 5) rfl) rfl rfl (by first | (with_reducible (rw [List.length_map]; first | exact hp | exact hq | exact getR_p3 _)) | exact rfl)) ?_)
                          | (refine HL_r rfl rfl rfl rfl (R_loadArr (n := 3) rfl (known_L (k := 6) rfl) rfl rfl (by first | (with_reducible (rw [List.length_map]; first | exact hp | exact hq | exact getR_p3 _)) | exact rfl)) ?_)
                        all_goals refine HL_r rfl rfl rfl rfl (R_move rfl) ?_
                        all_goals refine HL_callP rfl rfl rfl (enters_of Tryd.func14 (by kernel_rfl) rfl) (P_out_Put hq hm v2) ?_; refine HL_as (show _ = Value.tuple #[.string (bs t), .int .i64 e2] from by rw [hu2]; rfl) ?_
                        all_goals refine HL_r rfl rfl rfl rfl (R_move rfl) ?_
                        all_goals refine HL_r rfl rfl rfl rfl (R_extract rfl rfl) ?_
                        all_goals refine HL_r rfl rfl rfl rfl (R_extract rfl rfl) ?_
                        all_goals refine HL_r rfl rfl rfl rfl (R_assign rfl) ?_
                        all_goals refine HL_r rfl rfl rfl rfl (R_assign rfl) ?_
                        all_goals refine HL_nil ?_
                        all_goals (
                          refine HQ_then ?_
                          refine hK14 _ _ _ _ ?_; clear hK14 K14
                          refine HC_seq fun K15 hK15 => ?_
                          refine HC_seq fun K16 hK16 => ?_
                          refine HC_region ?_
                          all_goals refine HL_r rfl rfl rfl rfl (R_move rfl) ?_
                          all_goals refine HL_r rfl rfl rfl rfl (R_pure rfl rfl rfl) ?_
                          all_goals first
                            | (refine HL_as (show _ = Value.bool true from bool_eq' (ineF he)) ?_)
                            | (refine HL_as (show _ = Value.bool false from bool_eq' (ineF he)) ?_)
                            | skip
                          all_goals refine HL_r rfl rfl rfl rfl (R_move rfl) ?_
                          all_goals first
                            | (refine HL_r rfl rfl rfl rfl (R_move rfl) ?_)
                            | (refine HL_skip rfl rfl rfl ?_)
                            | (refine HL_case 47 rfl (fun hb17 => ?_) (fun hb17 => ?_) <;> (try simp only [decide_eq_true_eq, decide_eq_false_iff_not, beq_iff_eq, beq_eq_false_iff_ne, bne_iff_ne, bne_eq_false_iff_eq, Bool.not_eq_true', Bool.not_eq_false', ne_eq, Int.not_lt, Int.not_le, ge_iff_le, gt_iff_lt] at hb17) <;> first | (refine HL_r rfl rfl rfl rfl (R_move rfl) ?_) | (refine HL_skip rfl rfl rfl ?_))
                          all_goals first
                            | (refine HL_r rfl rfl rfl rfl (R_pure rfl rfl rfl) ?_)
                            | (refine HL_skip rfl rfl rfl ?_)
                            | (refine HL_case 47 rfl (fun hb18 => ?_) (fun hb18 => ?_) <;> (try simp only [decide_eq_true_eq, decide_eq_false_iff_not, beq_iff_eq, beq_eq_false_iff_ne, bne_iff_ne, bne_eq_false_iff_eq, Bool.not_eq_true', Bool.not_eq_false', ne_eq, Int.not_lt, Int.not_le, ge_iff_le, gt_iff_lt] at hb18) <;> first | (refine HL_r rfl rfl rfl rfl (R_pure rfl rfl rfl) ?_) | (refine HL_skip rfl rfl rfl ?_))
                          all_goals first
                            | (refine HL_as (show _ = Value.bool true from bool_eq' (ineF he2)) ?_)
                            | (refine HL_as (show _ = Value.bool false from bool_eq' (ineF he2)) ?_)
                            | skip
                          all_goals first
                            | (refine HL_r rfl rfl rfl rfl (R_pickT rfl rfl) ?_)
                            | (refine HL_r rfl rfl rfl rfl (R_pickF rfl rfl) ?_)
                          all_goals refine HL_nil ?_
                          all_goals (
                            refine HQ_then ?_
                            refine hK16 _ _ _ _ ?_; clear hK16 K16
                            refine HC_cond rfl (fun h19 => ?_) (fun h19 => ?_)
                            · try exact Bool.noConfusion h19
                              all_goals try simp only [decide_eq_true_eq, decide_eq_false_iff_not, beq_iff_eq, beq_eq_false_iff_ne, bne_iff_ne, bne_eq_false_iff_eq, Bool.not_eq_true', Bool.not_eq_false', ne_eq, Int.not_lt, Int.not_le, ge_iff_le, gt_iff_lt] at h19
                              all_goals (
                                refine HC_seq fun K20 hK20 => ?_
                                refine HC_region ?_
                                all_goals refine HL_r rfl rfl rfl rfl (R_move rfl) ?_
                                all_goals refine HL_r rfl rfl rfl rfl (R_assign rfl) ?_
                                all_goals refine HL_nil ?_
                                all_goals (
                                  refine HQ_then ?_
                                  refine hK20 _ _ _ _ ?_; clear hK20 K20
                                  refine HC_ret ?_
                                  refine HQ_thenR ?_; clear hK15 K15
                                  refine HQ_post rfl rfl (.cons (res_tmp rfl) .nil) (fun w1 hs1 => ?_)
                                  exact ⟨rfl, hs1.keep⟩
                                  skip)
                                skip)
                            · try exact Bool.noConfusion h19
                              all_goals try simp only [decide_eq_true_eq, decide_eq_false_iff_not, beq_iff_eq, beq_eq_false_iff_ne, bne_iff_ne, bne_eq_false_iff_eq, Bool.not_eq_true', Bool.not_eq_false', ne_eq, Int.not_lt, Int.not_le, ge_iff_le, gt_iff_lt] at h19
                              all_goals (
                                refine HC_skip ?_
                                refine HQ_then ?_
                                refine hK15 _ _ _ _ ?_; clear hK15 K15
                                refine HC_seq fun K21 hK21 => ?_
                                refine HC_region ?_
                                all_goals refine HL_r rfl rfl rfl rfl (R_move rfl) ?_
                                all_goals refine HL_r rfl rfl rfl rfl (R_move rfl) ?_
                                all_goals first
                                  | (refine HL_r rfl rfl rfl rfl (R_move rfl) ?_)
                                  | (refine HL_skip rfl rfl rfl ?_)
                                  | (refine HL_case 53 rfl (fun hb22 => ?_) (fun hb22 => ?_) <;> (try simp only [decide_eq_true_eq, decide_eq_false_iff_not, beq_iff_eq, beq_eq_false_iff_ne, bne_iff_ne, bne_eq_false_iff_eq, Bool.not_eq_true', Bool.not_eq_false', ne_eq, Int.not_lt, Int.not_le, ge_iff_le, gt_iff_lt] at hb22) <;> first | (refine HL_r rfl rfl rfl rfl (R_move rfl) ?_) | (refine HL_skip rfl rfl rfl ?_))
                                all_goals first
                                  | (refine HL_r rfl rfl rfl rfl (R_move rfl) ?_)
                                  | (refine HL_skip rfl rfl rfl ?_)
                                  | (refine HL_case 53 rfl (fun hb23 => ?_) (fun hb23 => ?_) <;> (try simp only [decide_eq_true_eq, decide_eq_false_iff_not, beq_iff_eq, beq_eq_false_iff_ne, bne_iff_ne, bne_eq_false_iff_eq, Bool.not_eq_true', Bool.not_eq_false', ne_eq, Int.not_lt, Int.not_le, ge_iff_le, gt_iff_lt] at hb23) <;> first | (refine HL_r rfl rfl rfl rfl (R_move rfl) ?_) | (refine HL_skip rfl rfl rfl ?_))
                                all_goals first
                                  | (refine HL_r rfl rfl rfl rfl (R_strEq rfl rfl) ?_)
                                  | (refine HL_skip rfl rfl rfl ?_)
                                  | (refine HL_case 53 rfl (fun hb24 => ?_) (fun hb24 => ?_) <;> (try simp only [decide_eq_true_eq, decide_eq_false_iff_not, beq_iff_eq, beq_eq_false_iff_ne, bne_iff_ne, bne_eq_false_iff_eq, Bool.not_eq_true', Bool.not_eq_false', ne_eq, Int.not_lt, Int.not_le, ge_iff_le, gt_iff_lt] at hb24) <;> first | (refine HL_r rfl rfl rfl rfl (R_strEq rfl rfl) ?_) | (refine HL_skip rfl rfl rfl ?_))
                                all_goals first
                                  | (refine HL_r rfl rfl rfl rfl (R_move rfl) ?_)
                                  | (refine HL_skip rfl rfl rfl ?_)
                                  | (refine HL_case 53 rfl (fun hb25 => ?_) (fun hb25 => ?_) <;> (try simp only [decide_eq_true_eq, decide_eq_false_iff_not, beq_iff_eq, beq_eq_false_iff_ne, bne_iff_ne, bne_eq_false_iff_eq, Bool.not_eq_true', Bool.not_eq_false', ne_eq, Int.not_lt, Int.not_le, ge_iff_le, gt_iff_lt] at hb25) <;> first | (refine HL_r rfl rfl rfl rfl (R_move rfl) ?_) | (refine HL_skip rfl rfl rfl ?_))
                                all_goals first
                                  | (refine HL_r rfl rfl rfl rfl (R_move rfl) ?_)
                                  | (refine HL_skip rfl rfl rfl ?_)
                                  | (refine HL_case 53 rfl (fun hb26 => ?_) (fun hb26 => ?_) <;> (try simp only [decide_eq_true_eq, decide_eq_false_iff_not, beq_iff_eq, beq_eq_false_iff_ne, bne_iff_ne, bne_eq_false_iff_eq, Bool.not_eq_true', Bool.not_eq_false', ne_eq, Int.not_lt, Int.not_le, ge_iff_le, gt_iff_lt] at hb26) <;> first | (refine HL_r rfl rfl rfl rfl (R_move rfl) ?_) | (refine HL_skip rfl rfl rfl ?_))
                                all_goals first
                                  | (refine HL_r rfl rfl rfl rfl (R_pure rfl rfl rfl) ?_)
                                  | (refine HL_skip rfl rfl rfl ?_)
                                  | (refine HL_case 53 rfl (fun hb27 => ?_) (fun hb27 => ?_) <;> (try simp only [decide_eq_true_eq, decide_eq_false_iff_not, beq_iff_eq, beq_eq_false_iff_ne, bne_iff_ne, bne_eq_false_iff_eq, Bool.not_eq_true', Bool.not_eq_false', ne_eq, Int.not_lt, Int.not_le, ge_iff_le, gt_iff_lt] at hb27) <;> first | (refine HL_r rfl rfl rfl rfl (R_pure rfl rfl rfl) ?_) | (refine HL_skip rfl rfl rfl ?_))
                                all_goals first
                                  | (refine HL_r rfl rfl rfl rfl (R_move rfl) ?_)
                                  | (refine HL_skip rfl rfl rfl ?_)
                                  | (refine HL_case 53 rfl (fun hb28 => ?_) (fun hb28 => ?_) <;> (try simp only [decide_eq_true_eq, decide_eq_false_iff_not, beq_iff_eq, beq_eq_false_iff_ne, bne_iff_ne, bne_eq_false_iff_eq, Bool.not_eq_true', Bool.not_eq_false', ne_eq, Int.not_lt, Int.not_le, ge_iff_le, gt_iff_lt] at hb28) <;> first | (refine HL_r rfl rfl rfl rfl (R_move rfl) ?_) | (refine HL_skip rfl rfl rfl ?_))
                                all_goals first
                                  | (refine HL_r rfl rfl rfl rfl (R_loadArr (n := 3) rfl (known_L (k := 0) rfl) rfl rfl (by first | (with_reducible (rw [List.length_map]; first | exact hp | exact hq | exact getR_p3 _)) | exact rfl)) ?_)
                                  | (refine HL_r rfl rfl rfl rfl (R_loadArr (n := 3) rfl (known_L (k := 1) rfl) rfl rfl (by first | (with_reducible (rw [List.length_map]; first | exact hp | exact hq | exact getR_p3 _)) | exact rfl)) ?_)
                                  | (refine HL_r rfl rfl rfl rfl (R_loadArr (n := 3) rfl (known_L (k := 2) rfl) rfl rfl (by first | (with_reducible (rw [List.length_map]; first | exact hp | exact hq | exact getR_p3 _)) | exact rfl)) ?_)
                                  | (refine HL_r rfl rfl rfl rfl (R_loadArr (n := 3) rfl (known_L (k := 3) rfl) rfl rfl (by first | (with_reducible (rw [List.length_map]; first | exact hp | exact hq | exact getR_p3 _)) | exact rfl)) ?_)
                                  | (refine HL_r rfl rfl rfl rfl (R_loadArr (n := 3) rfl (known_L (k := 4) rfl) rfl rfl (by first | (with_reducible (rw [List.length_map]; first | exact hp | exact hq | exact getR_p3 _)) | exact rfl)) ?_)
                                  | (refine HL_r rfl rfl rfl rfl (R_loadArr (n := 3) rfl (known_L (k := 5) rfl) rfl rfl (by first | (with_reducible (rw [List.length_map]; first | exact hp | exact hq | exact getR_p3 _)) | exact rfl)) ?_)
                                  | (refine HL_r rfl rfl rfl rfl (R_loadArr (n := 3) rfl (known_L (k := 6) rfl) rfl rfl (by first | (with_reducible (rw [List.length_map]; first | exact hp | exact hq | exact getR_p3 _)) | exact rfl)) ?_)
                                  | (refine HL_skip rfl rfl rfl ?_)
                                  | (refine HL_case 60 rfl (fun hb29 => ?_) (fun hb29 => ?_) <;> (try simp only [decide_eq_true_eq, decide_eq_false_iff_not, beq_iff_eq, beq_eq_false_iff_ne, bne_iff_ne, bne_eq_false_iff_eq, Bool.not_eq_true', Bool.not_eq_false', ne_eq, Int.not_lt, Int.not_le, ge_iff_le, gt_iff_lt] at hb29) <;> first | (refine HL_r rfl rfl rfl rfl (R_loadArr (n := 3) rfl (known_L (k := 0) rfl) rfl rfl (by first | (with_reducible (rw [List.length_map]; first | exact hp | exact hq | exact getR_p3 _)) | exact rfl)) ?_) | (refine HL_r rfl rfl rfl rfl (R_loadArr (n := 3) rfl (known_L (k := 1) rfl) rfl rfl (by first | (with_reducible (rw [List.length_map]; first | exact hp | exact hq | exact getR_p3 _)) | exact rfl)) ?_) | (refine HL_r rfl rfl rfl rfl (R_loadArr (n := 3) rfl (known_L (k := 2) rfl) rfl rfl (by first | (with_reducible (rw [List.length_map]; first | exact hp | exact hq | exact getR_p3 _)) | exact rfl)) ?_) | (refine HL_r rfl rfl rfl rfl (R_loadArr (n := 3) rfl (known_L (k := 3) rfl) rfl rfl (by first | (with_reducible (rw [List.length_map]; first | exact hp | exact hq | exact getR_p3 _)) | exact rfl)) ?_) | (refine HL_r rfl rfl rfl rfl (R_loadArr (n := 3) rfl (known_L (k := 4) rfl) rfl rfl (by first | (with_reducible (rw [List.length_map]; first | exact hp | exact hq | exact getR_p3 _)) | exact rfl)) ?_) | (refine HL_r rfl rfl rfl rfl (R_loadArr (n := 3) rfl (known_L (k := 5) rfl) rfl rfl (by first | (with_reducible (rw [List.length_map]; first | exact hp | exact hq | exact getR_p3 _)) | exact rfl)) ?_) | (refine HL_r rfl rfl rfl rfl (R_loadArr (n := 3) rfl (known_L (k := 6) rfl) rfl rfl (by first | (with_reducible (rw [List.length_map]; first | exact hp | exact hq | exact getR_p3 _)) | exact rfl)) ?_) | (refine HL_skip rfl rfl rfl ?_))
                                all_goals first
                                  | (refine HL_r rfl rfl rfl rfl (R_loadArr (n := 3) rfl (known_L (k := 0) rfl) rfl rfl (by first | (with_reducible (rw [List.length_map]; first | exact hp | exact hq | exact getR_p3 _)) | exact rfl)) ?_)
                                  | (refine HL_r rfl rfl rfl rfl (R_loadArr (n := 3) rfl (known_L (k := 1) rfl) rfl rfl (by first | (with_reducible (rw [List.length_map]; first | exact hp | exact hq | exact getR_p3 _)) | exact rfl)) ?_)
                                  | (refine HL_r rfl rfl rfl rfl (R_loadArr (n := 3) rfl (known_L (k := 2) rfl) rfl rfl (by first | (with_reducible (rw [List.length_map]; first | exact hp | exact hq | exact getR_p3 _)) | exact rfl)) ?_)
                                  | (refine HL_r rfl rfl rfl rfl (R_loadArr (n := 3) rfl (known_L (k := 3) rfl) rfl rfl (by first | (with_reducible (rw [List.length_map]; first | exact hp | exact hq | exact getR_p3 _)) | exact rfl)) ?_)
                                  | (refine HL_r rfl rfl rfl rfl (R_loadArr (n := 3) rfl (known_L (k := 4) rfl) rfl rfl (by first | (with_reducible (rw [List.length_map]; first | exact hp | exact hq | exact getR_p3 _)) | exact rfl)) ?_)
                                  | (refine HL_r rfl rfl rfl rfl (R_loadArr (n := 3) rfl (known_L (k := 5) rfl) rfl rfl (by first | (with_reducible (rw [List.length_map]; first | exact hp | exact hq | exact getR_p3 _)) | exact rfl)) ?_)
                                  | (refine HL_r rfl rfl rfl rfl (R_loadArr (n := 3) rfl (known_L (k := 6) rfl) rfl rfl (by first | (with_reducible (rw [List.length_map]; first | exact hp | exact hq | exact getR_p3 _)) | exact rfl)) ?_)
                                  | (refine HL_skip rfl rfl rfl ?_)
                                  | (refine HL_case 60 rfl (fun hb30 => ?_) (fun hb30 => ?_) <;> (try simp only [decide_eq_true_eq, decide_eq_false_iff_not, beq_iff_eq, beq_eq_false_iff_ne, bne_iff_ne, bne_eq_false_iff_eq, Bool.not_eq_true', Bool.not_eq_false', ne_eq, Int.not_lt, Int.not_le, ge_iff_le, gt_iff_lt] at hb30) <;> first | (refine HL_r rfl rfl rfl rfl (R_loadArr (n := 3) rfl (known_L (k := 0) rfl) rfl rfl (by first | (with_reducible (rw [List.length_map]; first | exact hp | exact hq | exact getR_p3 _)) | exact rfl)) ?_) | (refine HL_r rfl rfl rfl rfl (R_loadArr (n := 3) rfl (known_L (k := 1) rfl) rfl rfl (by first | (with_reducible (rw [List.length_map]; first | exact hp | exact hq | exact getR_p3 _)) | exact rfl)) ?_) | (refine HL_r rfl rfl rfl rfl (R_loadArr (n := 3) rfl (known_L (k := 2) rfl) rfl rfl (by first | (with_reducible (rw [List.length_map]; first | exact hp | exact hq | exact getR_p3 _)) | exact rfl)) ?_) | (refine HL_r rfl rfl rfl rfl (R_loadArr (n := 3) rfl (known_L (k := 3) rfl) rfl rfl (by first | (with_reducible (rw [List.length_map]; first | exact hp | exact hq | exact getR_p3 _)) | exact rfl)) ?_) | (refine HL_r rfl rfl rfl rfl (R_loadArr (n := 3) rfl (known_L (k := 4) rfl) rfl rfl (by first | (with_reducible (rw [List.length_map]; first | exact hp | exact hq | exact getR_p3 _)) | exact rfl)) ?_) | (refine HL_r rfl rfl rfl rfl (R_loadArr (n := 3) rfl (known_L (k := 5) rfl) rfl rfl (by first | (with_reducible (rw [List.length_map]; first | exact hp | exact hq | exact getR_p3 _)) | exact rfl)) ?_) | (refine HL_r rfl rfl rfl rfl (R_loadArr (n := 3) rfl (known_L (k := 6) rfl) rfl rfl (by first | (with_reducible (rw [List.length_map]; first | exact hp | exact hq | exact getR_p3 _)) | exact rfl)) ?_) | (refine HL_skip rfl rfl rfl ?_))
                                all_goals first
                                  | (refine HL_r rfl rfl rfl rfl (R_eqArr rfl rfl rfl rfl rfl (by kernel_rfl) (by first | (with_reducible (rw [List.length_map]; first | exact hp | exact hq | exact getR_p3 _)) | exact rfl) (by first | (with_reducible (rw [List.length_map]; first | exact hp | exact hq | exact getR_p3 _)) | exact rfl) (by first | exact scalS rfl _ | rfl) (by first | exact scalS rfl _ | rfl)) ?_)
                                  | (refine HL_skip rfl rfl rfl ?_)
                                  | (refine HL_case 60 rfl (fun hb31 => ?_) (fun hb31 => ?_) <;> (try simp only [decide_eq_true_eq, decide_eq_false_iff_not, beq_iff_eq, beq_eq_false_iff_ne, bne_iff_ne, bne_eq_false_iff_eq, Bool.not_eq_true', Bool.not_eq_false', ne_eq, Int.not_lt, Int.not_le, ge_iff_le, gt_iff_lt] at hb31) <;> first | (refine HL_r rfl rfl rfl rfl (R_eqArr rfl rfl rfl rfl rfl (by kernel_rfl) (by first | (with_reducible (rw [List.length_map]; first | exact hp | exact hq | exact getR_p3 _)) | exact rfl) (by first | (with_reducible (rw [List.length_map]; first | exact hp | exact hq | exact getR_p3 _)) | exact rfl) (by first | exact scalS rfl _ | rfl) (by first | exact scalS rfl _ | rfl)) ?_) | (refine HL_skip rfl rfl rfl ?_))
                                all_goals try refine HL_as (show _ = Value.bool (decide (p = q)) from bool_eq' (eqP_iff (hp.trans hq.symm))) ?_
                                all_goals first
                                  | (refine HL_r rfl rfl rfl rfl (R_pickT rfl rfl) ?_)
                                  | (refine HL_r rfl rfl rfl rfl (R_pickF rfl rfl) ?_)
                                  | (refine HL_skip rfl rfl rfl ?_)
                                  | (refine HL_case 53 rfl (fun hb32 => ?_) (fun hb32 => ?_) <;> (try simp only [decide_eq_true_eq, decide_eq_false_iff_not, beq_iff_eq, beq_eq_false_iff_ne, bne_iff_ne, bne_eq_false_iff_eq, Bool.not_eq_true', Bool.not_eq_false', ne_eq, Int.not_lt, Int.not_le, ge_iff_le, gt_iff_lt] at hb32) <;> first | (refine HL_r rfl rfl rfl rfl (R_pickT rfl rfl) ?_) | (refine HL_r rfl rfl rfl rfl (R_pickF rfl rfl) ?_) | (refine HL_skip rfl rfl rfl ?_))
                                all_goals first
                                  | (refine HL_r rfl rfl rfl rfl (R_move rfl) ?_)
                                  | (refine HL_skip rfl rfl rfl ?_)
                                  | (refine HL_case 53 rfl (fun hb33 => ?_) (fun hb33 => ?_) <;> (try simp only [decide_eq_true_eq, decide_eq_false_iff_not, beq_iff_eq, beq_eq_false_iff_ne, bne_iff_ne, bne_eq_false_iff_eq, Bool.not_eq_true', Bool.not_eq_false', ne_eq, Int.not_lt, Int.not_le, ge_iff_le, gt_iff_lt] at hb33) <;> first | (refine HL_r rfl rfl rfl rfl (R_move rfl) ?_) | (refine HL_skip rfl rfl rfl ?_))
                                all_goals first
                                  | (refine HL_r rfl rfl rfl rfl (R_move rfl) ?_)
                                  | (refine HL_skip rfl rfl rfl ?_)
                                  | (refine HL_case 65 rfl (fun hb34 => ?_) (fun hb34 => ?_) <;> (try simp only [decide_eq_true_eq, decide_eq_false_iff_not, beq_iff_eq, beq_eq_false_iff_ne, bne_iff_ne, bne_eq_false_iff_eq, Bool.not_eq_true', Bool.not_eq_false', ne_eq, Int.not_lt, Int.not_le, ge_iff_le, gt_iff_lt] at hb34) <;> first | (refine HL_r rfl rfl rfl rfl (R_move rfl) ?_) | (refine HL_skip rfl rfl rfl ?_))
                                all_goals first
                                  | (refine HL_r rfl rfl rfl rfl (R_move rfl) ?_)
                                  | (refine HL_skip rfl rfl rfl ?_)
                                  | (refine HL_case 65 rfl (fun hb35 => ?_) (fun hb35 => ?_) <;> (try simp only [decide_eq_true_eq, decide_eq_false_iff_not, beq_iff_eq, beq_eq_false_iff_ne, bne_iff_ne, bne_eq_false_iff_eq, Bool.not_eq_true', Bool.not_eq_false', ne_eq, Int.not_lt, Int.not_le, ge_iff_le, gt_iff_lt] at hb35) <;> first | (refine HL_r rfl rfl rfl rfl (R_move rfl) ?_) | (refine HL_skip rfl rfl rfl ?_))
                                all_goals first
                                  | (refine HL_r rfl rfl rfl rfl (R_pure rfl rfl rfl) ?_)
                                  | (refine HL_skip rfl rfl rfl ?_)
                                  | (refine HL_case 65 rfl (fun hb36 => ?_) (fun hb36 => ?_) <;> (try simp only [decide_eq_true_eq, decide_eq_false_iff_not, beq_iff_eq, beq_eq_false_iff_ne, bne_iff_ne, bne_eq_false_iff_eq, Bool.not_eq_true', Bool.not_eq_false', ne_eq, Int.not_lt, Int.not_le, ge_iff_le, gt_iff_lt] at hb36) <;> first | (refine HL_r rfl rfl rfl rfl (R_pure rfl rfl rfl) ?_) | (refine HL_skip rfl rfl rfl ?_))
                                all_goals first
                                  | (refine HL_r rfl rfl rfl rfl (R_pickT rfl rfl) ?_)
                                  | (refine HL_r rfl rfl rfl rfl (R_pickF rfl rfl) ?_)
                                  | (refine HL_skip rfl rfl rfl ?_)
                                  | (refine HL_case 53 rfl (fun hb37 => ?_) (fun hb37 => ?_) <;> (try simp only [decide_eq_true_eq, decide_eq_false_iff_not, beq_iff_eq, beq_eq_false_iff_ne, bne_iff_ne, bne_eq_false_iff_eq, Bool.not_eq_true', Bool.not_eq_false', ne_eq, Int.not_lt, Int.not_le, ge_iff_le, gt_iff_lt] at hb37) <;> first | (refine HL_r rfl rfl rfl rfl (R_pickT rfl rfl) ?_) | (refine HL_r rfl rfl rfl rfl (R_pickF rfl rfl) ?_) | (refine HL_skip rfl rfl rfl ?_))
                                all_goals first
                                  | (refine HL_r rfl rfl rfl rfl (R_pure rfl rfl rfl) ?_)
                                  | (refine HL_skip rfl rfl rfl ?_)
                                  | (refine HL_case 53 rfl (fun hb38 => ?_) (fun hb38 => ?_) <;> (try simp only [decide_eq_true_eq, decide_eq_false_iff_not, beq_iff_eq, beq_eq_false_iff_ne, bne_iff_ne, bne_eq_false_iff_eq, Bool.not_eq_true', Bool.not_eq_false', ne_eq, Int.not_lt, Int.not_le, ge_iff_le, gt_iff_lt] at hb38) <;> first | (refine HL_r rfl rfl rfl rfl (R_pure rfl rfl rfl) ?_) | (refine HL_skip rfl rfl rfl ?_))
                                all_goals first
                                  | (refine HL_as (show _ = Value.bool true from bool_eq' (by rw [hst]; first | (rw [decide_eq_false (p := v = v2) (by with_reducible assumption)]; rfl) | (rw [decide_eq_true (p := v = v2) (by with_reducible assumption), decide_eq_false (p := p = q) (by with_reducible assumption)]; rfl) | (rw [decide_eq_true (p := v = v2) (by with_reducible assumption), decide_eq_true (p := p = q) (by with_reducible assumption), show ((n : Int) == (m : Int)) = decide (n = m) from by rw [Bool.eq_iff_iff, beq_iff_eq, decide_eq_true_eq]; omega, Bool.true_and, Bool.true_and]; exact beq_self_eq_true _))) ?_)
                                  | (refine HL_as (show _ = Value.bool false from bool_eq' (by rw [hst]; first | (rw [decide_eq_false (p := v = v2) (by with_reducible assumption)]; rfl) | (rw [decide_eq_true (p := v = v2) (by with_reducible assumption), decide_eq_false (p := p = q) (by with_reducible assumption)]; rfl) | (rw [decide_eq_true (p := v = v2) (by with_reducible assumption), decide_eq_true (p := p = q) (by with_reducible assumption), show ((n : Int) == (m : Int)) = decide (n = m) from by rw [Bool.eq_iff_iff, beq_iff_eq, decide_eq_true_eq]; omega, Bool.true_and, Bool.true_and]; exact beq_self_eq_true _))) ?_)
                                  | skip
                                all_goals first
                                  | (refine HL_r rfl rfl rfl rfl (R_pickT rfl rfl) ?_)
                                  | (refine HL_r rfl rfl rfl rfl (R_pickF rfl rfl) ?_)
                                all_goals refine HL_r rfl rfl rfl rfl (R_move rfl) ?_
                                all_goals first
                                  | (refine HL_r rfl rfl rfl rfl (R_move rfl) ?_)
                                  | (refine HL_skip rfl rfl rfl ?_)
                                  | (refine HL_case 72 rfl (fun hb39 => ?_) (fun hb39 => ?_) <;> (try simp only [decide_eq_true_eq, decide_eq_false_iff_not, beq_iff_eq, beq_eq_false_iff_ne, bne_iff_ne, bne_eq_false_iff_eq, Bool.not_eq_true', Bool.not_eq_false', ne_eq, Int.not_lt, Int.not_le, ge_iff_le, gt_iff_lt] at hb39) <;> first | (refine HL_r rfl rfl rfl rfl (R_move rfl) ?_) | (refine HL_skip rfl rfl rfl ?_))
                                all_goals first
                                  | (refine HL_r rfl rfl rfl rfl (R_lenBs rfl rfl) ?_)
                                  | (refine HL_r rfl rfl rfl rfl (R_lenSl rfl rfl) ?_)
                                  | (refine HL_r rfl rfl rfl rfl (R_lenStr rfl rfl rfl) ?_)
                                  | (refine HL_r rfl rfl rfl rfl (R_pure rfl rfl rfl) ?_)
                                  | (refine HL_skip rfl rfl rfl ?_)
                                  | (refine HL_case 72 rfl (fun hb40 => ?_) (fun hb40 => ?_) <;> (try simp only [decide_eq_true_eq, decide_eq_false_iff_not, beq_iff_eq, beq_eq_false_iff_ne, bne_iff_ne, bne_eq_false_iff_eq, Bool.not_eq_true', Bool.not_eq_false', ne_eq, Int.not_lt, Int.not_le, ge_iff_le, gt_iff_lt] at hb40) <;> first | (refine HL_r rfl rfl rfl rfl (R_lenBs rfl rfl) ?_) | (refine HL_r rfl rfl rfl rfl (R_lenSl rfl rfl) ?_) | (refine HL_r rfl rfl rfl rfl (R_lenStr rfl rfl rfl) ?_) | (refine HL_r rfl rfl rfl rfl (R_pure rfl rfl rfl) ?_) | (refine HL_skip rfl rfl rfl ?_))
                                all_goals first
                                  | (refine HL_r rfl rfl rfl rfl (R_move rfl) ?_)
                                  | (refine HL_skip rfl rfl rfl ?_)
                                  | (refine HL_case 72 rfl (fun hb41 => ?_) (fun hb41 => ?_) <;> (try simp only [decide_eq_true_eq, decide_eq_false_iff_not, beq_iff_eq, beq_eq_false_iff_ne, bne_iff_ne, bne_eq_false_iff_eq, Bool.not_eq_true', Bool.not_eq_false', ne_eq, Int.not_lt, Int.not_le, ge_iff_le, gt_iff_lt] at hb41) <;> first | (refine HL_r rfl rfl rfl rfl (R_move rfl) ?_) | (refine HL_skip rfl rfl rfl ?_))
                                all_goals first
                                  | (refine HL_r rfl rfl rfl rfl (R_lenBs rfl rfl) ?_)
                                  | (refine HL_r rfl rfl rfl rfl (R_lenSl rfl rfl) ?_)
                                  | (refine HL_r rfl rfl rfl rfl (R_lenStr rfl rfl rfl) ?_)
                                  | (refine HL_r rfl rfl rfl rfl (R_pure rfl rfl rfl) ?_)
                                  | (refine HL_skip rfl rfl rfl ?_)
                                  | (refine HL_case 72 rfl (fun hb42 => ?_) (fun hb42 => ?_) <;> (try simp only [decide_eq_true_eq, decide_eq_false_iff_not, beq_iff_eq, beq_eq_false_iff_ne, bne_iff_ne, bne_eq_false_iff_eq, Bool.not_eq_true', Bool.not_eq_false', ne_eq, Int.not_lt, Int.not_le, ge_iff_le, gt_iff_lt] at hb42) <;> first | (refine HL_r rfl rfl rfl rfl (R_lenBs rfl rfl) ?_) | (refine HL_r rfl rfl rfl rfl (R_lenSl rfl rfl) ?_) | (refine HL_r rfl rfl rfl rfl (R_lenStr rfl rfl rfl) ?_) | (refine HL_r rfl rfl rfl rfl (R_pure rfl rfl rfl) ?_) | (refine HL_skip rfl rfl rfl ?_))
                                all_goals first
                                  | (refine HL_r rfl rfl rfl rfl (R_pure rfl rfl rfl) ?_)
                                  | (refine HL_skip rfl rfl rfl ?_)
                                  | (refine HL_case 72 rfl (fun hb43 => ?_) (fun hb43 => ?_) <;> (try simp only [decide_eq_true_eq, decide_eq_false_iff_not, beq_iff_eq, beq_eq_false_iff_ne, bne_iff_ne, bne_eq_false_iff_eq, Bool.not_eq_true', Bool.not_eq_false', ne_eq, Int.not_lt, Int.not_le, ge_iff_le, gt_iff_lt] at hb43) <;> first | (refine HL_r rfl rfl rfl rfl (R_pure rfl rfl rfl) ?_) | (refine HL_skip rfl rfl rfl ?_))
                                all_goals first
                                  | (refine HL_r rfl rfl rfl rfl (R_move rfl) ?_)
                                  | (refine HL_skip rfl rfl rfl ?_)
                                  | (refine HL_case 72 rfl (fun hb44 => ?_) (fun hb44 => ?_) <;> (try simp only [decide_eq_true_eq, decide_eq_false_iff_not, beq_iff_eq, beq_eq_false_iff_ne, bne_iff_ne, bne_eq_false_iff_eq, Bool.not_eq_true', Bool.not_eq_false', ne_eq, Int.not_lt, Int.not_le, ge_iff_le, gt_iff_lt] at hb44) <;> first | (refine HL_r rfl rfl rfl rfl (R_move rfl) ?_) | (refine HL_skip rfl rfl rfl ?_))
                                all_goals first
                                  | (refine HL_r rfl rfl rfl rfl (R_move rfl) ?_)
                                  | (refine HL_skip rfl rfl rfl ?_)
                                  | (refine HL_case 72 rfl (fun hb45 => ?_) (fun hb45 => ?_) <;> (try simp only [decide_eq_true_eq, decide_eq_false_iff_not, beq_iff_eq, beq_eq_false_iff_ne, bne_iff_ne, bne_eq_false_iff_eq, Bool.not_eq_true', Bool.not_eq_false', ne_eq, Int.not_lt, Int.not_le, ge_iff_le, gt_iff_lt] at hb45) <;> first | (refine HL_r rfl rfl rfl rfl (R_move rfl) ?_) | (refine HL_skip rfl rfl rfl ?_))
                                all_goals first
                                  | (refine HL_r rfl rfl rfl rfl (R_pure rfl rfl rfl) ?_)
                                  | (refine HL_skip rfl rfl rfl ?_)
                                  | (refine HL_case 72 rfl (fun hb46 => ?_) (fun hb46 => ?_) <;> (try simp only [decide_eq_true_eq, decide_eq_false_iff_not, beq_iff_eq, beq_eq_false_iff_ne, bne_iff_ne, bne_eq_false_iff_eq, Bool.not_eq_true', Bool.not_eq_false', ne_eq, Int.not_lt, Int.not_le, ge_iff_le, gt_iff_lt] at hb46) <;> first | (refine HL_r rfl rfl rfl rfl (R_pure rfl rfl rfl) ?_) | (refine HL_skip rfl rfl rfl ?_))
                                all_goals first
                                  | (refine HL_r rfl rfl rfl rfl (R_pure rfl rfl rfl) ?_)
                                  | (refine HL_skip rfl rfl rfl ?_)
                                  | (refine HL_case 72 rfl (fun hb47 => ?_) (fun hb47 => ?_) <;> (try simp only [decide_eq_true_eq, decide_eq_false_iff_not, beq_iff_eq, beq_eq_false_iff_ne, bne_iff_ne, bne_eq_false_iff_eq, Bool.not_eq_true', Bool.not_eq_false', ne_eq, Int.not_lt, Int.not_le, ge_iff_le, gt_iff_lt] at hb47) <;> first | (refine HL_r rfl rfl rfl rfl (R_pure rfl rfl rfl) ?_) | (refine HL_skip rfl rfl rfl ?_))
                                all_goals first
                                  | (refine HL_as (show _ = Value.bool true from bool_eq' (by rw [show ((s.length : Int) == (t.length : Int)) = (v == v2) from by rw [Bool.eq_iff_iff, beq_iff_eq, beq_iff_eq]; omega]; exact beq_self_eq_true _)) ?_)
                                  | (refine HL_as (show _ = Value.bool false from bool_eq' (by rw [show ((s.length : Int) == (t.length : Int)) = (v == v2) from by rw [Bool.eq_iff_iff, beq_iff_eq, beq_iff_eq]; omega]; exact beq_self_eq_true _)) ?_)
                                  | skip
                                all_goals first
                                  | (refine HL_r rfl rfl rfl rfl (R_pickT rfl rfl) ?_)
                                  | (refine HL_r rfl rfl rfl rfl (R_pickF rfl rfl) ?_)
                                all_goals refine HL_r rfl rfl rfl rfl (R_assign rfl) ?_
                                all_goals refine HL_nil ?_
                                all_goals (
                                  refine HQ_then ?_
                                  refine hK21 _ _ _ _ ?_; clear hK21 K21
                                  refine HC_ret ?_
                                  refine HQ_post rfl rfl (.cons (res_tmp rfl) .nil) (fun w1 hs1 => ?_)
                                  exact ⟨rfl, hs1.keep⟩
                                  skip)
                                skip)
                            skip)
                          skip)
                        skip)
                      skip)
                  skip)
                skip)
              skip)
          skip)
        skip)
      skip)
  all_goals (
    refine HC_seq fun K1 hK1 => ?_
    refine HC_region ?_
    all_goals refine HL_box (cs := List.toArray _) rfl rfl rfl rfl fun r1 => ?_
    all_goals refine HL_box (cs := List.toArray _) rfl rfl rfl rfl fun r2 => ?_
    all_goals refine HL_r rfl rfl rfl rfl (R_assign rfl) ?_
    all_goals refine HL_nil ?_
    all_goals (
      refine HQ_then ?_
      refine hK1 _ _ _ _ ?_; clear hK1 K1
      refine HC_seq fun K2 hK2 => ?_
      refine HC_region ?_
      all_goals refine HL_callP rfl rfl rfl (enters_of Tryd.func12 (by kernel_rfl) rfl) P_works21 ?_
      all_goals refine HL_r rfl rfl rfl rfl (R_assign rfl) ?_
      all_goals refine HL_nil ?_
      all_goals (
        refine HQ_then ?_
        refine hK2 _ _ _ _ ?_; clear hK2 K2
        refine HC_seq fun K3 hK3 => ?_
        refine HC_seq fun K4 hK4 => ?_
        refine HC_region ?_
        all_goals refine HL_r rfl rfl rfl rfl (R_move rfl) ?_
        all_goals refine HL_r rfl rfl rfl rfl (R_pure rfl rfl rfl) ?_
        all_goals refine HL_nil ?_
        all_goals (
          refine HQ_then ?_
          refine hK4 _ _ _ _ ?_; clear hK4 K4
          refine HC_cond rfl (fun h5 => ?_) (fun h5 => ?_)
          · try exact Bool.noConfusion h5
            all_goals try simp only [decide_eq_true_eq, decide_eq_false_iff_not, beq_iff_eq, beq_eq_false_iff_ne, bne_iff_ne, bne_eq_false_iff_eq, Bool.not_eq_true', Bool.not_eq_false', ne_eq, Int.not_lt, Int.not_le, ge_iff_le, gt_iff_lt] at h5
            all_goals (
              refine HC_seq fun K6 hK6 => ?_
              refine HC_region ?_
              all_goals refine HL_r rfl rfl rfl rfl (R_assign rfl) ?_
              all_goals refine HL_nil ?_
              all_goals (
                refine HQ_then ?_
                refine hK6 _ _ _ _ ?_; clear hK6 K6
                refine HC_ret ?_
                refine HQ_thenR ?_; clear hK3 K3
                refine HQ_post rfl rfl (.cons (res_tmp rfl) .nil) (fun w1 hs1 => ?_)
                exact ⟨rfl, hs1.keep⟩
                skip)
              skip)
          · try exact Bool.noConfusion h5
            all_goals try simp only [decide_eq_true_eq, decide_eq_false_iff_not, beq_iff_eq, beq_eq_false_iff_ne, bne_iff_ne, bne_eq_false_iff_eq, Bool.not_eq_true', Bool.not_eq_false', ne_eq, Int.not_lt, Int.not_le, ge_iff_le, gt_iff_lt] at h5
            all_goals (
              refine HC_skip ?_
              refine HQ_then ?_
              refine hK3 _ _ _ _ ?_; clear hK3 K3
              refine HC_seq fun K7 hK7 => ?_
              refine HC_region ?_
              all_goals first
                | (refine HL_r rfl rfl rfl rfl (R_loadArr (n := 3) rfl (known_L (k := 0) rfl) rfl rfl (by first | (with_reducible (rw [List.length_map]; first | exact hp | exact hq | exact getR_p3 _)) | exact rfl)) ?_)
                | (refine HL_r rfl rfl rfl rfl (R_loadArr (n := 3) rfl (known_L (k := 1) rfl) rfl rfl (by first | (with_reducible (rw [List.length_map]; first | exact hp | exact hq | exact getR_p3 _)) | exact rfl)) ?_)
                | (refine HL_r rfl rfl rfl rfl (R_loadArr (n := 3) rfl (known_L (k := 2) rfl) rfl rfl (by first | (with_reducible (rw [List.length_map]; first | exact hp | exact hq | exact getR_p3 _)) | exact rfl)) ?_)
                | (refine HL_r rfl rfl rfl rfl (R_loadArr (n := 3) rfl (known_L (k := 3) rfl) rfl rfl (by first | (with_reducible (rw [List.length_map]; first | exact hp | exact hq | exact getR_p3 _)) | exact rfl)) ?_)
                | (refine HL_r rfl rfl rfl rfl (R_loadArr (n := 3) rfl (known_L (k := 4) rfl) rfl rfl (by first | (with_reducible (rw [List.length_map]; first | exact hp | exact hq | exact getR_p3 _)) | exact rfl)) ?_)
                | (refine HL_r rfl rfl rfl rfl (R_loadArr (n := 3) rfl (known_L (k := 5) rfl) rfl rfl (by first | (with_reducible (rw [List.length_map]; first | exact hp | exact hq | exact getR_p3 _)) | exact rfl)) ?_)
                | (refine HL_r rfl rfl rfl rfl (R_loadArr (n := 3) rfl (known_L (k := 6) rfl) rfl rfl (by first | (with_reducible (rw [List.length_map]; first | exact hp | exact hq | exact getR_p3 _)) | exact rfl)) ?_)
              all_goals refine HL_callP rfl rfl rfl (enters_of Tryd.func13 (by kernel_rfl) rfl) (P_few hp) ?_
              all_goals refine HL_r rfl rfl rfl rfl (R_move rfl) ?_
              all_goals first
                | (refine HL_r rfl rfl rfl rfl (R_loadArr (n := 3) rfl (known_L (k := 0) rfl) rfl rfl (by first | (with_reducible (rw [List.length_map]; first | exact hp | exact hq | exact getR_p3 _)) | exact rfl)) ?_)
                | (refine HL_r rfl rfl rfl rfl (R_loadArr (n := 3) rfl (known_L (k := 1) rfl) rfl rfl (by first | (with_reducible (rw [List.length_map]; first | exact hp | exact hq | exact getR_p3 _)) | exact rfl)) ?_)
                | (refine HL_r rfl rfl rfl rfl (R_loadArr (n := 3) rfl (known_L (k := 2) rfl) rfl rfl (by first | (with_reducible (rw [List.length_map]; first | exact hp | exact hq | exact getR_p3 _)) | exact rfl)) ?_)
                | (refine HL_r rfl rfl rfl rfl (R_loadArr (n := 3) rfl (known_L (k := 3) rfl) rfl rfl (by first | (with_reducible (rw [List.length_map]; first | exact hp | exact hq | exact getR_p3 _)) | exact rfl)) ?_)
                | (refine HL_r rfl rfl rfl rfl (R_loadArr (n := 3) rfl (known_L (k := 4) rfl) rfl rfl (by first | (with_reducible (rw [List.length_map]; first | exact hp | exact hq | exact getR_p3 _)) | exact rfl)) ?_)
                | (refine HL_r rfl rfl rfl rfl (R_loadArr (n := 3) rfl (known_L (k := 5) rfl) rfl rfl (by first | (with_reducible (rw [List.length_map]; first | exact hp | exact hq | exact getR_p3 _)) | exact rfl)) ?_)
                | (refine HL_r rfl rfl rfl rfl (R_loadArr (n := 3) rfl (known_L (k := 6) rfl) rfl rfl (by first | (with_reducible (rw [List.length_map]; first | exact hp | exact hq | exact getR_p3 _)) | exact rfl)) ?_)
                | (refine HL_skip rfl rfl rfl ?_)
                | (refine HL_case 24 rfl (fun hb8 => ?_) (fun hb8 => ?_) <;> (try simp only [decide_eq_true_eq, decide_eq_false_iff_not, beq_iff_eq, beq_eq_false_iff_ne, bne_iff_ne, bne_eq_false_iff_eq, Bool.not_eq_true', Bool.not_eq_false', ne_eq, Int.not_lt, Int.not_le, ge_iff_le, gt_iff_lt] at hb8) <;> first | (refine HL_r rfl rfl rfl rfl (R_loadArr (n := 3) rfl (known_L (k := 0) rfl) rfl rfl (by first | (with_reducible (rw [List.length_map]; first | exact hp | exact hq | exact getR_p3 _)) | exact rfl)) ?_) | (refine HL_r rfl rfl rfl rfl (R_loadArr (n := 3) rfl (known_L (k := 1) rfl) rfl rfl (by first | (with_reducible (rw [List.length_map]; first | exact hp | exact hq | exact getR_p3 _)) | exact rfl)) ?_) | (refine HL_r rfl rfl rfl rfl (R_loadArr (n := 3) rfl (known_L (k := 2) rfl) rfl rfl (by first | (with_reducible (rw [List.length_map]; first | exact hp | exact hq | exact getR_p3 _)) | exact rfl)) ?_) | (refine HL_r rfl rfl rfl rfl (R_loadArr (n := 3) rfl (known_L (k := 3) rfl) rfl rfl (by first | (with_reducible (rw [List.length_map]; first | exact hp | exact hq | exact getR_p3 _)) | exact rfl)) ?_) | (refine HL_r rfl rfl rfl rfl (R_loadArr (n := 3) rfl (known_L (k := 4) rfl) rfl rfl (by first | (with_reducible (rw [List.length_map]; first | exact hp | exact hq | exact getR_p3 _)) | exact rfl)) ?_) | (refine HL_r rfl rfl rfl rfl (R_loadArr (n := 3) rfl (known_L (k := 5) rfl) rfl rfl (by first | (with_reducible (rw [List.length_map]; first | exact hp | exact hq | exact getR_p3 _)) | exact rfl)) ?_) | (refine HL_r rfl rfl rfl rfl (R_loadArr (n := 3) rfl (known_L (k := 6) rfl) rfl rfl (by first | (with_reducible (rw [List.length_map]; first | exact hp | exact hq | exact getR_p3 _)) | exact rfl)) ?_) | (refine HL_skip rfl rfl rfl ?_))
              all_goals first | (refine HL_callP rfl rfl rfl (enters_of Tryd.func13 (by kernel_rfl) rfl) (P_few hq) ?_) | refine HL_skip rfl rfl rfl ?_ | (refine HL_case 24 rfl (fun hb0 => ?_) (fun hb0 => ?_) <;> first | (refine HL_callP rfl rfl rfl (enters_of Tryd.func13 (by kernel_rfl) rfl) (P_few hq) ?_) | refine HL_skip rfl rfl rfl ?_)
              all_goals first
                | (refine HL_r rfl rfl rfl rfl (R_pickT rfl rfl) ?_)
                | (refine HL_r rfl rfl rfl rfl (R_pickF rfl rfl) ?_)
              all_goals refine HL_r rfl rfl rfl rfl (R_assign rfl) ?_
              all_goals refine HL_nil ?_
              all_goals (
                refine HQ_then ?_
                refine hK7 _ _ _ _ ?_; clear hK7 K7
                refine HC_seq fun K9 hK9 => ?_
                refine HC_seq fun K10 hK10 => ?_
                refine HC_region ?_
                all_goals refine HL_r rfl rfl rfl rfl (R_move rfl) ?_
                all_goals refine HL_r rfl rfl rfl rfl (R_pure rfl rfl rfl) ?_
                all_goals refine HL_nil ?_
                all_goals (
                  refine HQ_then ?_
                  refine hK10 _ _ _ _ ?_; clear hK10 K10
                  refine HC_cond rfl (fun h11 => ?_) (fun h11 => ?_)
                  · try exact Bool.noConfusion h11
                    all_goals try simp only [decide_eq_true_eq, decide_eq_false_iff_not, beq_iff_eq, beq_eq_false_iff_ne, bne_iff_ne, bne_eq_false_iff_eq, Bool.not_eq_true', Bool.not_eq_false', ne_eq, Int.not_lt, Int.not_le, ge_iff_le, gt_iff_lt] at h11
                    all_goals (
                      refine HC_seq fun K12 hK12 => ?_
                      refine HC_region ?_
                      all_goals refine HL_r rfl rfl rfl rfl (R_move rfl) ?_
                      all_goals refine HL_r rfl rfl rfl rfl (R_assign rfl) ?_
                      all_goals refine HL_nil ?_
                      all_goals (
                        refine HQ_then ?_
                        refine hK12 _ _ _ _ ?_; clear hK12 K12
                        refine HC_ret ?_
                        refine HQ_thenR ?_; clear hK9 K9
                        refine HQ_post rfl rfl (.cons (res_tmp rfl) .nil) (fun w1 hs1 => ?_)
                        exact ⟨rfl, hs1.keep⟩
                        skip)
                      skip)
                  · try exact Bool.noConfusion h11
                    all_goals try simp only [decide_eq_true_eq, decide_eq_false_iff_not, beq_iff_eq, beq_eq_false_iff_ne, bne_iff_ne, bne_eq_false_iff_eq, Bool.not_eq_true', Bool.not_eq_false', ne_eq, Int.not_lt, Int.not_le, ge_iff_le, gt_iff_lt] at h11
                    all_goals (
                      refine HC_skip ?_
                      refine HQ_then ?_
                      refine hK9 _ _ _ _ ?_; clear hK9 K9
                      refine HC_seq fun K13 hK13 => ?_
                      refine HC_region ?_
                      all_goals refine HL_r rfl rfl rfl rfl (R_move rfl) ?_
                      all_goals first
                        | (refine HL_r rfl rfl rfl rfl (R_loadArr (n := 3) rfl (known_L (k := 0) rfl) rfl rfl (by first | (with_reducible (rw [List.length_map]; first | exact hp | exact hq | exact getR_p3 _)) | exact rfl)) ?_)
                        | (refine HL_r rfl rfl rfl rfl (R_loadArr (n := 3) rfl (known_L (k := 1) rfl) rfl rfl (by first | (with_reducible (rw [List.length_map]; first | exact hp | exact hq | exact getR_p3 _)) | exact rfl)) ?_)
                        | (refine HL_r rfl rfl rfl rfl (R_loadArr (n := 3) rfl (known_L (k := 2) rfl) rfl rfl (by first | (with_reducible (rw [List.length_map]; first | exact hp | exact hq | exact getR_p3 _)) | exact rfl)) ?_)
                        | (refine HL_r rfl rfl rfl rfl (R_loadArr (n := 3) rfl (known_L (k := 3) rfl) rfl rfl (by first | (with_reducible (rw [List.length_map]; first | exact hp | exact hq | exact getR_p3 _)) | exact rfl)) ?_)
                        | (refine HL_r rfl rfl rfl rfl (R_loadArr (n := 3) rfl (known_L (k := 4) rfl) rfl rfl (by first | (with_reducible (rw [List.length_map]; first | exact hp | exact hq | exact getR_p3 _)) | exact rfl)) ?_)
                        | (refine HL_r rfl rfl rfl rfl (R_loadArr (n := 3) rfl (known_L (k := 5) rfl) rfl rfl (by first | (with_reducible (rw [List.length_map]; first | exact hp | exact hq | exact getR_p3 _)) | exact rfl)) ?_)
                        | (refine HL_r rfl rfl rfl rfl (R_loadArr (n := 3) rfl (known_L (k := 6) rfl) rfl rfl (by first | (with_reducible (rw [List.length_map]; first | exact hp | exact hq | exact getR_p3 _)) | exact rfl)) ?_)
                      all_goals refine HL_r rfl rfl rfl rfl (R_move rfl) ?_
                      all_goals refine HL_callP rfl rfl rfl (enters_of Tryd.func14 (by kernel_rfl) rfl) (P_out_Put hp hn v) ?_; refine HL_as (show _ = Value.tuple #[.string (bs s), .int .i64 e] from by rw [hu]; rfl) ?_
                      all_goals refine HL_r rfl rfl rfl rfl (R_move rfl) ?_
                      all_goals refine HL_r rfl rfl rfl rfl (R_extract rfl rfl) ?_
                      all_goals refine HL_r rfl rfl rfl rfl (R_extract rfl rfl) ?_
                      all_goals refine HL_r rfl rfl rfl rfl (R_assign rfl) ?_
                      all_goals refine HL_r rfl rfl rfl rfl (R_assign rfl) ?_
                      all_goals refine HL_nil ?_
                      all_goals (
                        refine HQ_then ?_
                        refine hK13 _ _ _ _ ?_; clear hK13 K13
                        refine HC_seq fun K14 hK14 => ?_
                        refine HC_region ?_
                        all_goals refine HL_r rfl rfl rfl rfl (R_move rfl) ?_
                        all_goals first
                          | (refine HL_r rfl rfl rfl rfl (R_loadArr (n := 3) rfl (known_L (k := 0) rfl) rfl rfl (by first | (with_reducible (rw [List.length_map]; first | exact hp | exact hq | exact getR_p3 _)) | exact rfl)) ?_)
                          | (refine HL_r rfl rfl rfl rfl (R_loadArr (n := 3) rfl (known_L (k := 1) rfl) rfl rfl (by first | (with_reducible (rw [List.length_map]; first | exact hp | exact hq | exact getR_p3 _)) | exact rfl)) ?_)
                          | (refine HL_r rfl rfl rfl rfl (R_loadArr (n := 3) rfl (known_L (k := 2) rfl) rfl rfl (by first | (with_reducible (rw [List.length_map]; first | exact hp | exact hq | exact getR_p3 _)) | exact rfl)) ?_)
                          | (refine HL_r rfl rfl rfl rfl (R_loadArr (n := 3) rfl (known_L (k := 3) rfl) rfl rfl (by first | (with_reducible (rw [List.length_map]; first | exact hp | exact hq | exact getR_p3 _)) | exact rfl)) ?_)
                          | (refine HL_r rfl rfl rfl rfl (R_loadArr (n := 3) rfl (known_L (k := 4) rfl) rfl rfl (by first | (with_reducible (rw [List.length_map]; first | exact hp | exact hq | exact getR_p3 _)) | exact rfl)) ?_)
                          | (refine HL_r rfl rfl rfl rfl (R_loadArr (n := 3) rfl (known_L (k := 5) rfl) rfl rfl (by first | (with_reducible (rw [List.length_map]; first | exact hp | exact hq | exact getR_p3 _)) | exact rfl)) ?_)
                          | (refine HL_r rfl rfl rfl rfl (R_loadArr (n := 3) rfl (known_L (k := 6) rfl) rfl rfl (by first | (with_reducible (rw [List.length_map]; first | exact hp | exact hq | exact getR_p3 _)) | exact rfl)) ?_)
                        all_goals refine HL_r rfl rfl rfl rfl (R_move rfl) ?_
                        all_goals refine HL_callP rfl rfl rfl (enters_of Tryd.func14 (by kernel_rfl) rfl) (P_out_Put hq hm v2) ?_; refine HL_as (show _ = Value.tuple #[.string (bs t), .int .i64 e2] from by rw [hu2]; rfl) ?_
                        all_goals refine HL_r rfl rfl rfl rfl (R_move rfl) ?_
                        all_goals refine HL_r rfl rfl rfl rfl (R_extract rfl rfl) ?_
                        all_goals refine HL_r rfl rfl rfl rfl (R_extract rfl rfl) ?_
                        all_goals refine HL_r rfl rfl rfl rfl (R_assign rfl) ?_
                        all_goals refine HL_r rfl rfl rfl rfl (R_assign rfl) ?_
                        all_goals refine HL_nil ?_
                        all_goals (
                          refine HQ_then ?_
                          refine hK14 _ _ _ _ ?_; clear hK14 K14
                          refine HC_seq fun K15 hK15 => ?_
                          refine HC_seq fun K16 hK16 => ?_
                          refine HC_region ?_
                          all_goals refine HL_r rfl rfl rfl rfl (R_move rfl) ?_
                          all_goals refine HL_r rfl rfl rfl rfl (R_pure rfl rfl rfl) ?_
                          all_goals first
                            | (refine HL_as (show _ = Value.bool true from bool_eq' (by first | exact ineF he | exact ineT he)) ?_)
                            | (refine HL_as (show _ = Value.bool false from bool_eq' (by first | exact ineF he | exact ineT he)) ?_)
                            | skip
                          all_goals refine HL_r rfl rfl rfl rfl (R_move rfl) ?_
                          all_goals first
                            | (refine HL_r rfl rfl rfl rfl (R_move rfl) ?_)
                            | (refine HL_skip rfl rfl rfl ?_)
                            | (refine HL_case 47 rfl (fun hb17 => ?_) (fun hb17 => ?_) <;> (try simp only [decide_eq_true_eq, decide_eq_false_iff_not, beq_iff_eq, beq_eq_false_iff_ne, bne_iff_ne, bne_eq_false_iff_eq, Bool.not_eq_true', Bool.not_eq_false', ne_eq, Int.not_lt, Int.not_le, ge_iff_le, gt_iff_lt] at hb17) <;> first | (refine HL_r rfl rfl rfl rfl (R_move rfl) ?_) | (refine HL_skip rfl rfl rfl ?_))
                          all_goals first
                            | (refine HL_r rfl rfl rfl rfl (R_pure rfl rfl rfl) ?_)
                            | (refine HL_skip rfl rfl rfl ?_)
                            | (refine HL_case 47 rfl (fun hb18 => ?_) (fun hb18 => ?_) <;> (try simp only [decide_eq_true_eq, decide_eq_false_iff_not, beq_iff_eq, beq_eq_false_iff_ne, bne_iff_ne, bne_eq_false_iff_eq, Bool.not_eq_true', Bool.not_eq_false', ne_eq, Int.not_lt, Int.not_le, ge_iff_le, gt_iff_lt] at hb18) <;> first | (refine HL_r rfl rfl rfl rfl (R_pure rfl rfl rfl) ?_) | (refine HL_skip rfl rfl rfl ?_))
                          all_goals first
                            | (refine HL_as (show _ = Value.bool true from bool_eq' (by first | exact ineF he2 | exact ineT he2)) ?_)
                            | (refine HL_as (show _ = Value.bool false from bool_eq' (by first | exact ineF he2 | exact ineT he2)) ?_)
                            | skip
                          all_goals first
                            | (refine HL_r rfl rfl rfl rfl (R_pickT rfl rfl) ?_)
                            | (refine HL_r rfl rfl rfl rfl (R_pickF rfl rfl) ?_)
                          all_goals refine HL_nil ?_
                          all_goals (
                            refine HQ_then ?_
                            refine hK16 _ _ _ _ ?_; clear hK16 K16
                            refine HC_cond rfl (fun h19 => ?_) (fun h19 => ?_)
                            · try exact Bool.noConfusion h19
                              all_goals try simp only [decide_eq_true_eq, decide_eq_false_iff_not, beq_iff_eq, beq_eq_false_iff_ne, bne_iff_ne, bne_eq_false_iff_eq, Bool.not_eq_true', Bool.not_eq_false', ne_eq, Int.not_lt, Int.not_le, ge_iff_le, gt_iff_lt] at h19
                              all_goals (
                                refine HC_seq fun K20 hK20 => ?_
                                refine HC_region ?_
                                all_goals refine HL_r rfl rfl rfl rfl (R_move rfl) ?_
                                all_goals refine HL_r rfl rfl rfl rfl (R_assign rfl) ?_
                                all_goals refine HL_nil ?_
                                all_goals (
                                  refine HQ_then ?_
                                  refine hK20 _ _ _ _ ?_; clear hK20 K20
                                  refine HC_ret ?_
                                  refine HQ_thenR ?_; clear hK15 K15
                                  refine HQ_post rfl rfl (.cons (res_tmp rfl) .nil) (fun w1 hs1 => ?_)
                                  exact ⟨rfl, hs1.keep⟩
                                  skip)
                                skip)
                            · try exact Bool.noConfusion h19
                              all_goals try simp only [decide_eq_true_eq, decide_eq_false_iff_not, beq_iff_eq, beq_eq_false_iff_ne, bne_iff_ne, bne_eq_false_iff_eq, Bool.not_eq_true', Bool.not_eq_false', ne_eq, Int.not_lt, Int.not_le, ge_iff_le, gt_iff_lt] at h19
                              all_goals (
                                refine HC_skip ?_
                                refine HQ_then ?_
                                refine hK15 _ _ _ _ ?_; clear hK15 K15
                                refine HC_seq fun K21 hK21 => ?_
                                refine HC_region ?_
                                all_goals refine HL_r rfl rfl rfl rfl (R_move rfl) ?_
                                all_goals refine HL_r rfl rfl rfl rfl (R_move rfl) ?_
                                all_goals first
                                  | (refine HL_r rfl rfl rfl rfl (R_move rfl) ?_)
                                  | (refine HL_skip rfl rfl rfl ?_)
                                  | (refine HL_case 53 rfl (fun hb22 => ?_) (fun hb22 => ?_) <;> (try simp only [decide_eq_true_eq, decide_eq_false_iff_not, beq_iff_eq, beq_eq_false_iff_ne, bne_iff_ne, bne_eq_false_iff_eq, Bool.not_eq_true', Bool.not_eq_false', ne_eq, Int.not_lt, Int.not_le, ge_iff_le, gt_iff_lt] at hb22) <;> first | (refine HL_r rfl rfl rfl rfl (R_move rfl) ?_) | (refine HL_skip rfl rfl rfl ?_))
                                all_goals first
                                  | (refine HL_r rfl rfl rfl rfl (R_move rfl) ?_)
                                  | (refine HL_skip rfl rfl rfl ?_)
                                  | (refine HL_case 53 rfl (fun hb23 => ?_) (fun hb23 => ?_) <;> (try simp only [decide_eq_true_eq, decide_eq_false_iff_not, beq_iff_eq, beq_eq_false_iff_ne, bne_iff_ne, bne_eq_false_iff_eq, Bool.not_eq_true', Bool.not_eq_false', ne_eq, Int.not_lt, Int.not_le, ge_iff_le, gt_iff_lt] at hb23) <;> first | (refine HL_r rfl rfl rfl rfl (R_move rfl) ?_) | (refine HL_skip rfl rfl rfl ?_))
                                all_goals first
                                  | (refine HL_r rfl rfl rfl rfl (R_strEq rfl rfl) ?_)
                                  | (refine HL_skip rfl rfl rfl ?_)
                                  | (refine HL_case 53 rfl (fun hb24 => ?_) (fun hb24 => ?_) <;> (try simp only [decide_eq_true_eq, decide_eq_false_iff_not, beq_iff_eq, beq_eq_false_iff_ne, bne_iff_ne, bne_eq_false_iff_eq, Bool.not_eq_true', Bool.not_eq_false', ne_eq, Int.not_lt, Int.not_le, ge_iff_le, gt_iff_lt] at hb24) <;> first | (refine HL_r rfl rfl rfl rfl (R_strEq rfl rfl) ?_) | (refine HL_skip rfl rfl rfl ?_))
                                all_goals first
                                  | (refine HL_r rfl rfl rfl rfl (R_move rfl) ?_)
                                  | (refine HL_skip rfl rfl rfl ?_)
                                  | (refine HL_case 53 rfl (fun hb25 => ?_) (fun hb25 => ?_) <;> (try simp only [decide_eq_true_eq, decide_eq_false_iff_not, beq_iff_eq, beq_eq_false_iff_ne, bne_iff_ne, bne_eq_false_iff_eq, Bool.not_eq_true', Bool.not_eq_false', ne_eq, Int.not_lt, Int.not_le, ge_iff_le, gt_iff_lt] at hb25) <;> first | (refine HL_r rfl rfl rfl rfl (R_move rfl) ?_) | (refine HL_skip rfl rfl rfl ?_))
                                all_goals first
                                  | (refine HL_r rfl rfl rfl rfl (R_move rfl) ?_)
                                  | (refine HL_skip rfl rfl rfl ?_)
                                  | (refine HL_case 53 rfl (fun hb26 => ?_) (fun hb26 => ?_) <;> (try simp only [decide_eq_true_eq, decide_eq_false_iff_not, beq_iff_eq, beq_eq_false_iff_ne, bne_iff_ne, bne_eq_false_iff_eq, Bool.not_eq_true', Bool.not_eq_false', ne_eq, Int.not_lt, Int.not_le, ge_iff_le, gt_iff_lt] at hb26) <;> first | (refine HL_r rfl rfl rfl rfl (R_move rfl) ?_) | (refine HL_skip rfl rfl rfl ?_))
                                all_goals first
                                  | (refine HL_r rfl rfl rfl rfl (R_pure rfl rfl rfl) ?_)
                                  | (refine HL_skip rfl rfl rfl ?_)
                                  | (refine HL_case 53 rfl (fun hb27 => ?_) (fun hb27 => ?_) <;> (try simp only [decide_eq_true_eq, decide_eq_false_iff_not, beq_iff_eq, beq_eq_false_iff_ne, bne_iff_ne, bne_eq_false_iff_eq, Bool.not_eq_true', Bool.not_eq_false', ne_eq, Int.not_lt, Int.not_le, ge_iff_le, gt_iff_lt] at hb27) <;> first | (refine HL_r rfl rfl rfl rfl (R_pure rfl rfl rfl) ?_) | (refine HL_skip rfl rfl rfl ?_))
                                all_goals first
                                  | (refine HL_r rfl rfl rfl rfl (R_move rfl) ?_)
                                  | (refine HL_skip rfl rfl rfl ?_)
                                  | (refine HL_case 53 rfl (fun hb28 => ?_) (fun hb28 => ?_) <;> (try simp only [decide_eq_true_eq, decide_eq_false_iff_not, beq_iff_eq, beq_eq_false_iff_ne, bne_iff_ne, bne_eq_false_iff_eq, Bool.not_eq_true', Bool.not_eq_false', ne_eq, Int.not_lt, Int.not_le, ge_iff_le, gt_iff_lt] at hb28) <;> first | (refine HL_r rfl rfl rfl rfl (R_move rfl) ?_) | (refine HL_skip rfl rfl rfl ?_))
                                all_goals first
                                  | (refine HL_r rfl rfl rfl rfl (R_loadArr (n := 3) rfl (known_L (k := 0) rfl) rfl rfl (by first | (with_reducible (rw [List.length_map]; first | exact hp | exact hq | exact getR_p3 _)) | exact rfl)) ?_)
                                  | (refine HL_r rfl rfl rfl rfl (R_loadArr (n := 3) rfl (known_L (k := 1) rfl) rfl rfl (by first | (with_reducible (rw [List.length_map]; first | exact hp | exact hq | exact getR_p3 _)) | exact rfl)) ?_)
                                  | (refine HL_r rfl rfl rfl rfl (R_loadArr (n := 3) rfl (known_L (k := 2) rfl) rfl rfl (by first | (with_reducible (rw [List.length_map]; first | exact hp | exact hq | exact getR_p3 _)) | exact rfl)) ?_)
                                  | (refine HL_r rfl rfl rfl rfl (R_loadArr (n := 3) rfl (known_L (k := 3) rfl) rfl rfl (by first | (with_reducible (rw [List.length_map]; first | exact hp | exact hq | exact getR_p3 _)) | exact rfl)) ?_)
                                  | (refine HL_r rfl rfl rfl rfl (R_loadArr (n := 3) rfl (known_L (k := 4) rfl) rfl rfl (by first | (with_reducible (rw [List.length_map]; first | exact hp | exact hq | exact getR_p3 _)) | exact rfl)) ?_)
                                  | (refine HL_r rfl rfl rfl rfl (R_loadArr (n := 3) rfl (known_L (k := 5) rfl) rfl rfl (by first | (with_reducible (rw [List.length_map]; first | exact hp | exact hq | exact getR_p3 _)) | exact rfl)) ?_)
                                  | (refine HL_r rfl rfl rfl rfl (R_loadArr (n := 3) rfl (known_L (k := 6) rfl) rfl rfl (by first | (with_reducible (rw [List.length_map]; first | exact hp | exact hq | exact getR_p3 _)) | exact rfl)) ?_)
                                  | (refine HL_skip rfl rfl rfl ?_)
                                  | (refine HL_case 60 rfl (fun hb29 => ?_) (fun hb29 => ?_) <;> (try simp only [decide_eq_true_eq, decide_eq_false_iff_not, beq_iff_eq, beq_eq_false_iff_ne, bne_iff_ne, bne_eq_false_iff_eq, Bool.not_eq_true', Bool.not_eq_false', ne_eq, Int.not_lt, Int.not_le, ge_iff_le, gt_iff_lt] at hb29) <;> first | (refine HL_r rfl rfl rfl rfl (R_loadArr (n := 3) rfl (known_L (k := 0) rfl) rfl rfl (by first | (with_reducible (rw [List.length_map]; first | exact hp | exact hq | exact getR_p3 _)) | exact rfl)) ?_) | (refine HL_r rfl rfl rfl rfl (R_loadArr (n := 3) rfl (known_L (k := 1) rfl) rfl rfl (by first | (with_reducible (rw [List.length_map]; first | exact hp | exact hq | exact getR_p3 _)) | exact rfl)) ?_) | (refine HL_r rfl rfl rfl rfl (R_loadArr (n := 3) rfl (known_L (k := 2) rfl) rfl rfl (by first | (with_reducible (rw [List.length_map]; first | exact hp | exact hq | exact getR_p3 _)) | exact rfl)) ?_) | (refine HL_r rfl rfl rfl rfl (R_loadArr (n := 3) rfl (known_L (k := 3) rfl) rfl rfl (by first | (with_reducible (rw [List.length_map]; first | exact hp | exact hq | exact getR_p3 _)) | exact rfl)) ?_) | (refine HL_r rfl rfl rfl rfl (R_loadArr (n := 3) rfl (known_L (k := 4) rfl) rfl rfl (by first | (with_reducible (rw [List.length_map]; first | exact hp | exact hq | exact getR_p3 _)) | exact rfl)) ?_) | (refine HL_r rfl rfl rfl rfl (R_loadArr (n := 3) rfl (known_L (k := 5) rfl) rfl rfl (by first | (with_reducible (rw [List.length_map]; first | exact hp | exact hq | exact getR_p3 _)) | exact rfl)) ?_) | (refine HL_r rfl rfl rfl rfl (R_loadArr (n := 3) rfl (known_L (k := 6) rfl) rfl rfl (by first | (with_reducible (rw [List.length_map]; first | exact hp | exact hq | exact getR_p3 _)) | exact rfl)) ?_) | (refine HL_skip rfl rfl rfl ?_))
                                all_goals first
                                  | (refine HL_r rfl rfl rfl rfl (R_loadArr (n := 3) rfl (known_L (k := 0) rfl) rfl rfl (by first | (with_reducible (rw [List.length_map]; first | exact hp | exact hq | exact getR_p3 _)) | exact rfl)) ?_)
                                  | (refine HL_r rfl rfl rfl rfl (R_loadArr (n := 3) rfl (known_L (k := 1) rfl) rfl rfl (by first | (with_reducible (rw [List.length_map]; first | exact hp | exact hq | exact getR_p3 _)) | exact rfl)) ?_)
                                  | (refine HL_r rfl rfl rfl rfl (R_loadArr (n := 3) rfl (known_L (k := 2) rfl) rfl rfl (by first | (with_reducible (rw [List.length_map]; first | exact hp | exact hq | exact getR_p3 _)) | exact rfl)) ?_)
                                  | (refine HL_r rfl rfl rfl rfl (R_loadArr (n := 3) rfl (known_L (k := 3) rfl) rfl rfl (by first | (with_reducible (rw [List.length_map]; first | exact hp | exact hq | exact getR_p3 _)) | exact rfl)) ?_)
                                  | (refine HL_r rfl rfl rfl rfl (R_loadArr (n := 3) rfl (known_L (k := 4) rfl) rfl rfl (by first | (with_reducible (rw [List.length_map]; first | exact hp | exact hq | exact getR_p3 _)) | exact rfl)) ?_)
                                  | (refine HL_r rfl rfl rfl rfl (R_loadArr (n := 3) rfl (known_L (k := 5) rfl) rfl rfl (by first | (with_reducible (rw [List.length_map]; first | exact hp | exact hq | exact getR_p3 _)) | exact rfl)) ?_)
                                  | (refine HL_r rfl rfl rfl rfl (R_loadArr (n := 3) rfl (known_L (k := 6) rfl) rfl rfl (by first | (with_reducible (rw [List.length_map]; first | exact hp | exact hq | exact getR_p3 _)) | exact rfl)) ?_)
                                  | (refine HL_skip rfl rfl rfl ?_)
                                  | (refine HL_case 60 rfl (fun hb30 => ?_) (fun hb30 => ?_) <;> (try simp only [decide_eq_true_eq, decide_eq_false_iff_not, beq_iff_eq, beq_eq_false_iff_ne, bne_iff_ne, bne_eq_false_iff_eq, Bool.not_eq_true', Bool.not_eq_false', ne_eq, Int.not_lt, Int.not_le, ge_iff_le, gt_iff_lt] at hb30) <;> first | (refine HL_r rfl rfl rfl rfl (R_loadArr (n := 3) rfl (known_L (k := 0) rfl) rfl rfl (by first | (with_reducible (rw [List.length_map]; first | exact hp | exact hq | exact getR_p3 _)) | exact rfl)) ?_) | (refine HL_r rfl rfl rfl rfl (R_loadArr (n := 3) rfl (known_L (k := 1) rfl) rfl rfl (by first | (with_reducible (rw [List.length_map]; first | exact hp | exact hq | exact getR_p3 _)) | exact rfl)) ?_) | (refine HL_r rfl rfl rfl rfl (R_loadArr (n := 3) rfl (known_L (k := 2) rfl) rfl rfl (by first | (with_reducible (rw [List.length_map]; first | exact hp | exact hq | exact getR_p3 _)) | exact rfl)) ?_) | (refine HL_r rfl rfl rfl rfl (R_loadArr (n := 3) rfl (known_L (k := 3) rfl) rfl rfl (by first | (with_reducible (rw [List.length_map]; first | exact hp | exact hq | exact getR_p3 _)) | exact rfl)) ?_) | (refine HL_r rfl rfl rfl rfl (R_loadArr (n := 3) rfl (known_L (k := 4) rfl) rfl rfl (by first | (with_reducible (rw [List.length_map]; first | exact hp | exact hq | exact getR_p3 _)) | exact rfl)) ?_) | (refine HL_r rfl rfl rfl rfl (R_loadArr (n := 3) rfl (known_L (k := 5) rfl) rfl rfl (by first | (with_reducible (rw [List.length_map]; first | exact hp | exact hq | exact getR_p3 _)) | exact rfl)) ?_) | (refine HL_r rfl rfl rfl rfl (R_loadArr (n := 3) rfl (known_L (k := 6) rfl) rfl rfl (by first | (with_reducible (rw [List.length_map]; first | exact hp | exact hq | exact getR_p3 _)) | exact rfl)) ?_) | (refine HL_skip rfl rfl rfl ?_))
                                all_goals first
                                  | (refine HL_r rfl rfl rfl rfl (R_eqArr rfl rfl rfl rfl rfl (by kernel_rfl) (by first | (with_reducible (rw [List.length_map]; first | exact hp | exact hq | exact getR_p3 _)) | exact rfl) (by first | (with_reducible (rw [List.length_map]; first | exact hp | exact hq | exact getR_p3 _)) | exact rfl) (by first | exact scalS rfl _ | rfl) (by first | exact scalS rfl _ | rfl)) ?_)
                                  | (refine HL_skip rfl rfl rfl ?_)
                                  | (refine HL_case 60 rfl (fun hb31 => ?_) (fun hb31 => ?_) <;> (try simp only [decide_eq_true_eq, decide_eq_false_iff_not, beq_iff_eq, beq_eq_false_iff_ne, bne_iff_ne, bne_eq_false_iff_eq, Bool.not_eq_true', Bool.not_eq_false', ne_eq, Int.not_lt, Int.not_le, ge_iff_le, gt_iff_lt] at hb31) <;> first | (refine HL_r rfl rfl rfl rfl (R_eqArr rfl rfl rfl rfl rfl (by kernel_rfl) (by first | (with_reducible (rw [List.length_map]; first | exact hp | exact hq | exact getR_p3 _)) | exact rfl) (by first | (with_reducible (rw [List.length_map]; first | exact hp | exact hq | exact getR_p3 _)) | exact rfl) (by first | exact scalS rfl _ | rfl) (by first | exact scalS rfl _ | rfl)) ?_) | (refine HL_skip rfl rfl rfl ?_))
                                all_goals first
                                  | (refine HL_r rfl rfl rfl rfl (R_pickT rfl rfl) ?_)
                                  | (refine HL_r rfl rfl rfl rfl (R_pickF rfl rfl) ?_)
                                  | (refine HL_skip rfl rfl rfl ?_)
                                  | (refine HL_case 53 rfl (fun hb32 => ?_) (fun hb32 => ?_) <;> (try simp only [decide_eq_true_eq, decide_eq_false_iff_not, beq_iff_eq, beq_eq_false_iff_ne, bne_iff_ne, bne_eq_false_iff_eq, Bool.not_eq_true', Bool.not_eq_false', ne_eq, Int.not_lt, Int.not_le, ge_iff_le, gt_iff_lt] at hb32) <;> first | (refine HL_r rfl rfl rfl rfl (R_pickT rfl rfl) ?_) | (refine HL_r rfl rfl rfl rfl (R_pickF rfl rfl) ?_) | (refine HL_skip rfl rfl rfl ?_))
                                all_goals first
                                  | (refine HL_r rfl rfl rfl rfl (R_move rfl) ?_)
                                  | (refine HL_skip rfl rfl rfl ?_)
                                  | (refine HL_case 53 rfl (fun hb33 => ?_) (fun hb33 => ?_) <;> (try simp only [decide_eq_true_eq, decide_eq_false_iff_not, beq_iff_eq, beq_eq_false_iff_ne, bne_iff_ne, bne_eq_false_iff_eq, Bool.not_eq_true', Bool.not_eq_false', ne_eq, Int.not_lt, Int.not_le, ge_iff_le, gt_iff_lt] at hb33) <;> first | (refine HL_r rfl rfl rfl rfl (R_move rfl) ?_) | (refine HL_skip rfl rfl rfl ?_))
                                all_goals first
                                  | (refine HL_r rfl rfl rfl rfl (R_move rfl) ?_)
                                  | (refine HL_skip rfl rfl rfl ?_)
                                  | (refine HL_case 65 rfl (fun hb34 => ?_) (fun hb34 => ?_) <;> (try simp only [decide_eq_true_eq, decide_eq_false_iff_not, beq_iff_eq, beq_eq_false_iff_ne, bne_iff_ne, bne_eq_false_iff_eq, Bool.not_eq_true', Bool.not_eq_false', ne_eq, Int.not_lt, Int.not_le, ge_iff_le, gt_iff_lt] at hb34) <;> first | (refine HL_r rfl rfl rfl rfl (R_move rfl) ?_) | (refine HL_skip rfl rfl rfl ?_))
                                all_goals first
                                  | (refine HL_r rfl rfl rfl rfl (R_move rfl) ?_)
                                  | (refine HL_skip rfl rfl rfl ?_)
                                  | (refine HL_case 65 rfl (fun hb35 => ?_) (fun hb35 => ?_) <;> (try simp only [decide_eq_true_eq, decide_eq_false_iff_not, beq_iff_eq, beq_eq_false_iff_ne, bne_iff_ne, bne_eq_false_iff_eq, Bool.not_eq_true', Bool.not_eq_false', ne_eq, Int.not_lt, Int.not_le, ge_iff_le, gt_iff_lt] at hb35) <;> first | (refine HL_r rfl rfl rfl rfl (R_move rfl) ?_) | (refine HL_skip rfl rfl rfl ?_))
                                all_goals first
                                  | (refine HL_r rfl rfl rfl rfl (R_pure rfl rfl rfl) ?_)
                                  | (refine HL_skip rfl rfl rfl ?_)
                                  | (refine HL_case 65 rfl (fun hb36 => ?_) (fun hb36 => ?_) <;> (try simp only [decide_eq_true_eq, decide_eq_false_iff_not, beq_iff_eq, beq_eq_false_iff_ne, bne_iff_ne, bne_eq_false_iff_eq, Bool.not_eq_true', Bool.not_eq_false', ne_eq, Int.not_lt, Int.not_le, ge_iff_le, gt_iff_lt] at hb36) <;> first | (refine HL_r rfl rfl rfl rfl (R_pure rfl rfl rfl) ?_) | (refine HL_skip rfl rfl rfl ?_))
                                all_goals first
                                  | (refine HL_r rfl rfl rfl rfl (R_pickT rfl rfl) ?_)
                                  | (refine HL_r rfl rfl rfl rfl (R_pickF rfl rfl) ?_)
                                  | (refine HL_skip rfl rfl rfl ?_)
                                  | (refine HL_case 53 rfl (fun hb37 => ?_) (fun hb37 => ?_) <;> (try simp only [decide_eq_true_eq, decide_eq_false_iff_not, beq_iff_eq, beq_eq_false_iff_ne, bne_iff_ne, bne_eq_false_iff_eq, Bool.not_eq_true', Bool.not_eq_false', ne_eq, Int.not_lt, Int.not_le, ge_iff_le, gt_iff_lt] at hb37) <;> first | (refine HL_r rfl rfl rfl rfl (R_pickT rfl rfl) ?_) | (refine HL_r rfl rfl rfl rfl (R_pickF rfl rfl) ?_) | (refine HL_skip rfl rfl rfl ?_))
                                all_goals first
                                  | (refine HL_r rfl rfl rfl rfl (R_pure rfl rfl rfl) ?_)
                                  | (refine HL_skip rfl rfl rfl ?_)
                                  | (refine HL_case 53 rfl (fun hb38 => ?_) (fun hb38 => ?_) <;> (try simp only [decide_eq_true_eq, decide_eq_false_iff_not, beq_iff_eq, beq_eq_false_iff_ne, bne_iff_ne, bne_eq_false_iff_eq, Bool.not_eq_true', Bool.not_eq_false', ne_eq, Int.not_lt, Int.not_le, ge_iff_le, gt_iff_lt] at hb38) <;> first | (refine HL_r rfl rfl rfl rfl (R_pure rfl rfl rfl) ?_) | (refine HL_skip rfl rfl rfl ?_))
                                all_goals first
                                  | (refine HL_r rfl rfl rfl rfl (R_pickT rfl rfl) ?_)
                                  | (refine HL_r rfl rfl rfl rfl (R_pickF rfl rfl) ?_)
                                all_goals refine HL_r rfl rfl rfl rfl (R_move rfl) ?_
                                all_goals first
                                  | (refine HL_r rfl rfl rfl rfl (R_move rfl) ?_)
                                  | (refine HL_skip rfl rfl rfl ?_)
                                  | (refine HL_case 72 rfl (fun hb39 => ?_) (fun hb39 => ?_) <;> (try simp only [decide_eq_true_eq, decide_eq_false_iff_not, beq_iff_eq, beq_eq_false_iff_ne, bne_iff_ne, bne_eq_false_iff_eq, Bool.not_eq_true', Bool.not_eq_false', ne_eq, Int.not_lt, Int.not_le, ge_iff_le, gt_iff_lt] at hb39) <;> first | (refine HL_r rfl rfl rfl rfl (R_move rfl) ?_) | (refine HL_skip rfl rfl rfl ?_))
                                all_goals first
                                  | (refine HL_r rfl rfl rfl rfl (R_lenBs rfl rfl) ?_)
                                  | (refine HL_r rfl rfl rfl rfl (R_lenSl rfl rfl) ?_)
                                  | (refine HL_r rfl rfl rfl rfl (R_lenStr rfl rfl rfl) ?_)
                                  | (refine HL_r rfl rfl rfl rfl (R_pure rfl rfl rfl) ?_)
                                  | (refine HL_skip rfl rfl rfl ?_)
                                  | (refine HL_case 72 rfl (fun hb40 => ?_) (fun hb40 => ?_) <;> (try simp only [decide_eq_true_eq, decide_eq_false_iff_not, beq_iff_eq, beq_eq_false_iff_ne, bne_iff_ne, bne_eq_false_iff_eq, Bool.not_eq_true', Bool.not_eq_false', ne_eq, Int.not_lt, Int.not_le, ge_iff_le, gt_iff_lt] at hb40) <;> first | (refine HL_r rfl rfl rfl rfl (R_lenBs rfl rfl) ?_) | (refine HL_r rfl rfl rfl rfl (R_lenSl rfl rfl) ?_) | (refine HL_r rfl rfl rfl rfl (R_lenStr rfl rfl rfl) ?_) | (refine HL_r rfl rfl rfl rfl (R_pure rfl rfl rfl) ?_) | (refine HL_skip rfl rfl rfl ?_))
                                all_goals first
                                  | (refine HL_r rfl rfl rfl rfl (R_move rfl) ?_)
                                  | (refine HL_skip rfl rfl rfl ?_)
                                  | (refine HL_case 72 rfl (fun hb41 => ?_) (fun hb41 => ?_) <;> (try simp only [decide_eq_true_eq, decide_eq_false_iff_not, beq_iff_eq, beq_eq_false_iff_ne, bne_iff_ne, bne_eq_false_iff_eq, Bool.not_eq_true', Bool.not_eq_false', ne_eq, Int.not_lt, Int.not_le, ge_iff_le, gt_iff_lt] at hb41) <;> first | (refine HL_r rfl rfl rfl rfl (R_move rfl) ?_) | (refine HL_skip rfl rfl rfl ?_))
                                all_goals first
                                  | (refine HL_r rfl rfl rfl rfl (R_lenBs rfl rfl) ?_)
                                  | (refine HL_r rfl rfl rfl rfl (R_lenSl rfl rfl) ?_)
                                  | (refine HL_r rfl rfl rfl rfl (R_lenStr rfl rfl rfl) ?_)
                                  | (refine HL_r rfl rfl rfl rfl (R_pure rfl rfl rfl) ?_)
                                  | (refine HL_skip rfl rfl rfl ?_)
                                  | (refine HL_case 72 rfl (fun hb42 => ?_) (fun hb42 => ?_) <;> (try simp only [decide_eq_true_eq, decide_eq_false_iff_not, beq_iff_eq, beq_eq_false_iff_ne, bne_iff_ne, bne_eq_false_iff_eq, Bool.not_eq_true', Bool.not_eq_false', ne_eq, Int.not_lt, Int.not_le, ge_iff_le, gt_iff_lt] at hb42) <;> first | (refine HL_r rfl rfl rfl rfl (R_lenBs rfl rfl) ?_) | (refine HL_r rfl rfl rfl rfl (R_lenSl rfl rfl) ?_) | (refine HL_r rfl rfl rfl rfl (R_lenStr rfl rfl rfl) ?_) | (refine HL_r rfl rfl rfl rfl (R_pure rfl rfl rfl) ?_) | (refine HL_skip rfl rfl rfl ?_))
                                all_goals first
                                  | (refine HL_r rfl rfl rfl rfl (R_pure rfl rfl rfl) ?_)
                                  | (refine HL_skip rfl rfl rfl ?_)
                                  | (refine HL_case 72 rfl (fun hb43 => ?_) (fun hb43 => ?_) <;> (try simp only [decide_eq_true_eq, decide_eq_false_iff_not, beq_iff_eq, beq_eq_false_iff_ne, bne_iff_ne, bne_eq_false_iff_eq, Bool.not_eq_true', Bool.not_eq_false', ne_eq, Int.not_lt, Int.not_le, ge_iff_le, gt_iff_lt] at hb43) <;> first | (refine HL_r rfl rfl rfl rfl (R_pure rfl rfl rfl) ?_) | (refine HL_skip rfl rfl rfl ?_))
                                all_goals first
                                  | (refine HL_r rfl rfl rfl rfl (R_move rfl) ?_)
                                  | (refine HL_skip rfl rfl rfl ?_)
                                  | (refine HL_case 72 rfl (fun hb44 => ?_) (fun hb44 => ?_) <;> (try simp only [decide_eq_true_eq, decide_eq_false_iff_not, beq_iff_eq, beq_eq_false_iff_ne, bne_iff_ne, bne_eq_false_iff_eq, Bool.not_eq_true', Bool.not_eq_false', ne_eq, Int.not_lt, Int.not_le, ge_iff_le, gt_iff_lt] at hb44) <;> first | (refine HL_r rfl rfl rfl rfl (R_move rfl) ?_) | (refine HL_skip rfl rfl rfl ?_))
                                all_goals first
                                  | (refine HL_r rfl rfl rfl rfl (R_move rfl) ?_)
                                  | (refine HL_skip rfl rfl rfl ?_)
                                  | (refine HL_case 72 rfl (fun hb45 => ?_) (fun hb45 => ?_) <;> (try simp only [decide_eq_true_eq, decide_eq_false_iff_not, beq_iff_eq, beq_eq_false_iff_ne, bne_iff_ne, bne_eq_false_iff_eq, Bool.not_eq_true', Bool.not_eq_false', ne_eq, Int.not_lt, Int.not_le, ge_iff_le, gt_iff_lt] at hb45) <;> first | (refine HL_r rfl rfl rfl rfl (R_move rfl) ?_) | (refine HL_skip rfl rfl rfl ?_))
                                all_goals first
                                  | (refine HL_r rfl rfl rfl rfl (R_pure rfl rfl rfl) ?_)
                                  | (refine HL_skip rfl rfl rfl ?_)
                                  | (refine HL_case 72 rfl (fun hb46 => ?_) (fun hb46 => ?_) <;> (try simp only [decide_eq_true_eq, decide_eq_false_iff_not, beq_iff_eq, beq_eq_false_iff_ne, bne_iff_ne, bne_eq_false_iff_eq, Bool.not_eq_true', Bool.not_eq_false', ne_eq, Int.not_lt, Int.not_le, ge_iff_le, gt_iff_lt] at hb46) <;> first | (refine HL_r rfl rfl rfl rfl (R_pure rfl rfl rfl) ?_) | (refine HL_skip rfl rfl rfl ?_))
                                all_goals first
                                  | (refine HL_r rfl rfl rfl rfl (R_pure rfl rfl rfl) ?_)
                                  | (refine HL_skip rfl rfl rfl ?_)
                                  | (refine HL_case 72 rfl (fun hb47 => ?_) (fun hb47 => ?_) <;> (try simp only [decide_eq_true_eq, decide_eq_false_iff_not, beq_iff_eq, beq_eq_false_iff_ne, bne_iff_ne, bne_eq_false_iff_eq, Bool.not_eq_true', Bool.not_eq_false', ne_eq, Int.not_lt, Int.not_le, ge_iff_le, gt_iff_lt] at hb47) <;> first | (refine HL_r rfl rfl rfl rfl (R_pure rfl rfl rfl) ?_) | (refine HL_skip rfl rfl rfl ?_))
                                all_goals first
                                  | (refine HL_r rfl rfl rfl rfl (R_pickT rfl rfl) ?_)
                                  | (refine HL_r rfl rfl rfl rfl (R_pickF rfl rfl) ?_)
                                all_goals refine HL_r rfl rfl rfl rfl (R_assign rfl) ?_
                                all_goals refine HL_nil ?_
                                all_goals (
                                  refine HQ_then ?_
                                  refine hK21 _ _ _ _ ?_; clear hK21 K21
                                  refine HC_ret ?_
                                  refine HQ_post rfl rfl (.cons (res_tmp rfl) .nil) (fun w1 hs1 => ?_)
                                  exact ⟨rfl, hs1.keep⟩
                                  skip)
                                skip)
                            skip)
                          skip)
                        skip)
                      skip)
                  skip)
                skip)
              skip)
          skip)
        skip)
      skip)
    skip)
end Go.Proofs.YthfinkklgbiaeaaDoor
