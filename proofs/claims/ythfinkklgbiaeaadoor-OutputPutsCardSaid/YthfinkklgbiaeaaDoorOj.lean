import Derived.Test.YthfinkklgbiaeaaDoorOe
import Derived.Test.YthfinkklgbiaeaaDoorKk
namespace Go.Proofs.YthfinkklgbiaeaaDoor
set_option linter.all false
open Go.SL Go.RowKit Go.Shelf
set_option maxRecDepth 10000 in
theorem P_ref_Root {p : List (List UInt8)} (hp : p.length = 3) {n : Nat} (hn : n < 18446744073709551616) (v : Int) : Pure Tryd.prog 17 [.int .i64 v, pV p, uV n].toArray (resS (rootR v p n)) := by
  refine pure_of_HC Tryd.func17 rfl rfl fun w => ?_
  have hpl := putR_len (v := v) hp n
  refine HC_seq fun K1 hK1 => ?_
  refine HC_region ?_
  all_goals refine HL_box (cs := (p.map sV).toArray) rfl rfl rfl rfl fun r1 => ?_
  all_goals refine HL_r rfl rfl rfl rfl (R_assign rfl) ?_
  all_goals refine HL_r rfl rfl rfl rfl (R_assign rfl) ?_
  all_goals refine HL_nil ?_
  all_goals (
    refine HQ_then ?_
    refine hK1 _ _ _ _ ?_; clear hK1 K1
    refine HC_seq fun K2 hK2 => ?_
    refine HC_region ?_
    all_goals refine HL_r rfl rfl rfl rfl (R_move rfl) ?_
    all_goals refine HL_r rfl rfl rfl rfl (R_loadArr (xs := p.map sV) (n := 3) rfl (known_L (k := 0) rfl) rfl rfl (by rw [List.length_map, hp])) ?_
    all_goals refine HL_r rfl rfl rfl rfl (R_move rfl) ?_
    all_goals refine HL_callP rfl rfl rfl (enters_of Tryd.func15 (by kernel_rfl) rfl) (P_ref_Put hp hn v) ?_
    all_goals refine HL_r rfl rfl rfl rfl (R_move rfl) ?_
    all_goals refine HL_r rfl rfl rfl rfl (R_extract rfl rfl) ?_
    all_goals refine HL_r rfl rfl rfl rfl (R_extract rfl rfl) ?_
    all_goals refine HL_r rfl rfl rfl rfl (R_assign rfl) ?_
    all_goals refine HL_r rfl rfl rfl rfl (R_assign rfl) ?_
    all_goals refine HL_nil ?_
    all_goals (
      refine HQ_then ?_
      refine hK2 _ _ _ _ ?_; clear hK2 K2
      refine HC_seq fun K3 hK3 => ?_
      refine HC_seq fun K4 hK4 => ?_
      refine HC_region ?_
      all_goals refine HL_r rfl rfl rfl rfl (R_move rfl) ?_
      all_goals refine HL_r rfl rfl rfl rfl (R_pure rfl rfl rfl) ?_
      all_goals refine HL_nil ?_
      all_goals (
        refine HQ_then ?_
        refine hK4 _ _ _ _ ?_; clear hK4 K4
        refine HC_cond rfl (fun h5 => ?_) (fun h5 => ?_)
        · try exact Bool.noConfusion h5
          all_goals try simp only [decide_eq_true_eq, decide_eq_false_iff_not, beq_iff_eq, beq_eq_false_iff_ne, bne_iff_ne, bne_eq_false_iff_eq, Bool.not_eq_true', Bool.not_eq_false', ne_eq, Int.not_lt, Int.not_le, ge_iff_le, gt_iff_lt] at h5
          all_goals (
            refine HC_seq fun K6 hK6 => ?_
            refine HC_region ?_
            all_goals refine HL_r rfl rfl rfl rfl (R_move rfl) ?_
            all_goals refine HL_r rfl rfl rfl rfl (R_assign rfl) ?_
            all_goals refine HL_r rfl rfl rfl rfl (R_assign rfl) ?_
            all_goals refine HL_nil ?_
            all_goals (
              refine HQ_then ?_
              refine hK6 _ _ _ _ ?_; clear hK6 K6
              refine HC_ret ?_
              refine HQ_thenR ?_; clear hK3 K3
              refine HQ_post rfl rfl (.cons (res_tmp rfl) (.cons (res_tmp rfl) .nil)) (fun w1 hs1 => ?_)
              refine ⟨?_, hs1.keep⟩
              first
                | (rw [show rootR v p n = ([], (putR v p n).2) from by unfold rootR; rw [if_neg (by assumption)]]; rfl)
                | (rw [show rootR v p n = (kec (putR v p n).1, 0) from by unfold rootR; rw [if_pos (by assumption)]]; rfl)
              skip)
            skip)
        · try exact Bool.noConfusion h5
          all_goals try simp only [decide_eq_true_eq, decide_eq_false_iff_not, beq_iff_eq, beq_eq_false_iff_ne, bne_iff_ne, bne_eq_false_iff_eq, Bool.not_eq_true', Bool.not_eq_false', ne_eq, Int.not_lt, Int.not_le, ge_iff_le, gt_iff_lt] at h5
          all_goals (
            refine HC_skip ?_
            refine HQ_then ?_
            refine hK3 _ _ _ _ ?_; clear hK3 K3
            refine HC_seq fun K7 hK7 => ?_
            refine HC_region ?_
            all_goals refine HL_r rfl rfl rfl rfl (R_move rfl) ?_
            all_goals refine HL_callP rfl rfl rfl (enters_of Tryd.func34 (by kernel_rfl) rfl) (P_ref3_kec (by omega)) ?_
            all_goals refine HL_r rfl rfl rfl rfl (R_assign rfl) ?_
            all_goals refine HL_r rfl rfl rfl rfl (R_assign rfl) ?_
            all_goals refine HL_nil ?_
            all_goals (
              refine HQ_then ?_
              refine hK7 _ _ _ _ ?_; clear hK7 K7
              refine HC_ret ?_
              refine HQ_post rfl rfl (.cons (res_tmp rfl) (.cons (res_tmp rfl) .nil)) (fun w1 hs1 => ?_)
              refine ⟨?_, hs1.keep⟩
              first
                | (rw [show rootR v p n = ([], (putR v p n).2) from by unfold rootR; rw [if_neg (by assumption)]]; rfl)
                | (rw [show rootR v p n = (kec (putR v p n).1, 0) from by unfold rootR; rw [if_pos (by assumption)]]; rfl)
              skip)
            skip)
        skip)
      skip)
    skip)
set_option maxRecDepth 10000 in
theorem P_OutputPuts {p : List (List UInt8)} (hp : p.length = 3) {n : Nat} (hn : n < 18446744073709551616) (v : Int) : Pure Tryd.prog 3 [.int .i64 v, pV p, uV n].toArray (.bool true) := by
  refine pure_of_HC Tryd.func3 rfl rfl fun w => ?_
  obtain ⟨⟨s, e⟩, hu⟩ : ∃ g, g = putR v p n := ⟨_, rfl⟩
  obtain ⟨⟨t, e2⟩, hr⟩ : ∃ g, g = rootR v p n := ⟨_, rfl⟩
  refine HC_seq fun K1 hK1 => ?_
  refine HC_region ?_
  all_goals refine HL_box (cs := List.toArray _) rfl rfl rfl rfl fun r1 => ?_
  all_goals refine HL_r rfl rfl rfl rfl (R_assign rfl) ?_
  all_goals refine HL_nil ?_
  all_goals (
    refine HQ_then ?_
    refine hK1 _ _ _ _ ?_; clear hK1 K1
    refine HC_seq fun K2 hK2 => ?_
    refine HC_region ?_
    all_goals refine HL_callP rfl rfl rfl (enters_of Tryd.func12 (by kernel_rfl) rfl) P_works21 ?_
    all_goals refine HL_r rfl rfl rfl rfl (R_assign rfl) ?_
    all_goals refine HL_nil ?_
    all_goals (
      refine HQ_then ?_
      refine hK2 _ _ _ _ ?_; clear hK2 K2
      refine HC_seq fun K3 hK3 => ?_
      refine HC_seq fun K4 hK4 => ?_
      refine HC_region ?_
      all_goals refine HL_r rfl rfl rfl rfl (R_move rfl) ?_
      all_goals refine HL_r rfl rfl rfl rfl (R_pure rfl rfl rfl) ?_
      all_goals refine HL_nil ?_
      all_goals (
        refine HQ_then ?_
        refine hK4 _ _ _ _ ?_; clear hK4 K4
        refine HC_cond rfl (fun h5 => ?_) (fun h5 => ?_)
        · try exact Bool.noConfusion h5
          all_goals try simp only [decide_eq_true_eq, decide_eq_false_iff_not, beq_iff_eq, beq_eq_false_iff_ne, bne_iff_ne, bne_eq_false_iff_eq, Bool.not_eq_true', Bool.not_eq_false', ne_eq, Int.not_lt, Int.not_le, ge_iff_le, gt_iff_lt] at h5
          all_goals (
            refine HC_seq fun K6 hK6 => ?_
            refine HC_region ?_
            all_goals refine HL_r rfl rfl rfl rfl (R_assign rfl) ?_
            all_goals refine HL_nil ?_
            all_goals (
              refine HQ_then ?_
              refine hK6 _ _ _ _ ?_; clear hK6 K6
              refine HC_ret ?_
              refine HQ_thenR ?_; clear hK3 K3
              refine HQ_post rfl rfl (.cons (res_tmp rfl) .nil) (fun w1 hs1 => ?_)
              exact ⟨rfl, hs1.keep⟩
              skip)
            skip)
        · try exact Bool.noConfusion h5
          all_goals try simp only [decide_eq_true_eq, decide_eq_false_iff_not, beq_iff_eq, beq_eq_false_iff_ne, bne_iff_ne, bne_eq_false_iff_eq, Bool.not_eq_true', Bool.not_eq_false', ne_eq, Int.not_lt, Int.not_le, ge_iff_le, gt_iff_lt] at h5
          all_goals (
            refine HC_skip ?_
            refine HQ_then ?_
            refine hK3 _ _ _ _ ?_; clear hK3 K3
            refine HC_seq fun K7 hK7 => ?_
            refine HC_region ?_
            all_goals first
              | (refine HL_r rfl rfl rfl rfl (R_loadArr (n := 3) rfl (known_L (k := 0) rfl) rfl rfl (by first | (with_reducible (rw [List.length_map]; exact hp)) | exact rfl)) ?_)
              | (refine HL_r rfl rfl rfl rfl (R_loadArr (n := 3) rfl (known_L (k := 1) rfl) rfl rfl (by first | (with_reducible (rw [List.length_map]; exact hp)) | exact rfl)) ?_)
            all_goals refine HL_callP rfl rfl rfl (enters_of Tryd.func13 (by kernel_rfl) rfl) (P_few hp) ?_
            all_goals refine HL_r rfl rfl rfl rfl (R_assign rfl) ?_
            all_goals refine HL_nil ?_
            all_goals (
              refine HQ_then ?_
              refine hK7 _ _ _ _ ?_; clear hK7 K7
              refine HC_seq fun K8 hK8 => ?_
              refine HC_seq fun K9 hK9 => ?_
              refine HC_region ?_
              all_goals refine HL_r rfl rfl rfl rfl (R_move rfl) ?_
              all_goals refine HL_r rfl rfl rfl rfl (R_pure rfl rfl rfl) ?_
              all_goals refine HL_nil ?_
              all_goals (
                refine HQ_then ?_
                refine hK9 _ _ _ _ ?_; clear hK9 K9
                refine HC_cond rfl (fun h10 => ?_) (fun h10 => ?_)
                · try exact Bool.noConfusion h10
                  all_goals try simp only [decide_eq_true_eq, decide_eq_false_iff_not, beq_iff_eq, beq_eq_false_iff_ne, bne_iff_ne, bne_eq_false_iff_eq, Bool.not_eq_true', Bool.not_eq_false', ne_eq, Int.not_lt, Int.not_le, ge_iff_le, gt_iff_lt] at h10
                  all_goals (
                    refine HC_seq fun K11 hK11 => ?_
                    refine HC_region ?_
                    all_goals refine HL_r rfl rfl rfl rfl (R_move rfl) ?_
                    all_goals refine HL_r rfl rfl rfl rfl (R_assign rfl) ?_
                    all_goals refine HL_nil ?_
                    all_goals (
                      refine HQ_then ?_
                      refine hK11 _ _ _ _ ?_; clear hK11 K11
                      refine HC_ret ?_
                      refine HQ_thenR ?_; clear hK8 K8
                      refine HQ_post rfl rfl (.cons (res_tmp rfl) .nil) (fun w1 hs1 => ?_)
                      exact ⟨rfl, hs1.keep⟩
                      skip)
                    skip)
                · try exact Bool.noConfusion h10
                  all_goals try simp only [decide_eq_true_eq, decide_eq_false_iff_not, beq_iff_eq, beq_eq_false_iff_ne, bne_iff_ne, bne_eq_false_iff_eq, Bool.not_eq_true', Bool.not_eq_false', ne_eq, Int.not_lt, Int.not_le, ge_iff_le, gt_iff_lt] at h10
                  all_goals (
                    refine HC_skip ?_
                    refine HQ_then ?_
                    refine hK8 _ _ _ _ ?_; clear hK8 K8
                    refine HC_seq fun K12 hK12 => ?_
                    refine HC_region ?_
                    all_goals refine HL_r rfl rfl rfl rfl (R_move rfl) ?_
                    all_goals first
                      | (refine HL_r rfl rfl rfl rfl (R_loadArr (n := 3) rfl (known_L (k := 0) rfl) rfl rfl (by first | (with_reducible (rw [List.length_map]; exact hp)) | exact rfl)) ?_)
                      | (refine HL_r rfl rfl rfl rfl (R_loadArr (n := 3) rfl (known_L (k := 1) rfl) rfl rfl (by first | (with_reducible (rw [List.length_map]; exact hp)) | exact rfl)) ?_)
                    all_goals refine HL_r rfl rfl rfl rfl (R_move rfl) ?_
                    all_goals refine HL_callP rfl rfl rfl (enters_of Tryd.func14 (by kernel_rfl) rfl) (P_out_Put hp hn v) ?_; refine HL_as (show _ = Value.tuple #[.string (bs s), .int .i64 e] from by rw [← hu]; rfl) ?_
                    all_goals refine HL_r rfl rfl rfl rfl (R_move rfl) ?_
                    all_goals refine HL_r rfl rfl rfl rfl (R_extract rfl rfl) ?_
                    all_goals refine HL_r rfl rfl rfl rfl (R_extract rfl rfl) ?_
                    all_goals refine HL_r rfl rfl rfl rfl (R_assign rfl) ?_
                    all_goals refine HL_r rfl rfl rfl rfl (R_assign rfl) ?_
                    all_goals refine HL_nil ?_
                    all_goals (
                      refine HQ_then ?_
                      refine hK12 _ _ _ _ ?_; clear hK12 K12
                      refine HC_seq fun K13 hK13 => ?_
                      refine HC_region ?_
                      all_goals refine HL_r rfl rfl rfl rfl (R_move rfl) ?_
                      all_goals first
                        | (refine HL_r rfl rfl rfl rfl (R_loadArr (n := 3) rfl (known_L (k := 0) rfl) rfl rfl (by first | (with_reducible (rw [List.length_map]; exact hp)) | exact rfl)) ?_)
                        | (refine HL_r rfl rfl rfl rfl (R_loadArr (n := 3) rfl (known_L (k := 1) rfl) rfl rfl (by first | (with_reducible (rw [List.length_map]; exact hp)) | exact rfl)) ?_)
                      all_goals refine HL_r rfl rfl rfl rfl (R_move rfl) ?_
                      all_goals refine HL_callP rfl rfl rfl (enters_of Tryd.func15 (by kernel_rfl) rfl) (P_ref_Put hp hn v) ?_; refine HL_as (show _ = Value.tuple #[.string (bs s), .int .i64 e] from by rw [← hu]; rfl) ?_
                      all_goals refine HL_r rfl rfl rfl rfl (R_move rfl) ?_
                      all_goals refine HL_r rfl rfl rfl rfl (R_extract rfl rfl) ?_
                      all_goals refine HL_r rfl rfl rfl rfl (R_extract rfl rfl) ?_
                      all_goals refine HL_r rfl rfl rfl rfl (R_assign rfl) ?_
                      all_goals refine HL_r rfl rfl rfl rfl (R_assign rfl) ?_
                      all_goals refine HL_nil ?_
                      all_goals (
                        refine HQ_then ?_
                        refine hK13 _ _ _ _ ?_; clear hK13 K13
                        refine HC_seq fun K14 hK14 => ?_
                        refine HC_region ?_
                        all_goals refine HL_r rfl rfl rfl rfl (R_move rfl) ?_
                        all_goals first
                          | (refine HL_r rfl rfl rfl rfl (R_loadArr (n := 3) rfl (known_L (k := 0) rfl) rfl rfl (by first | (with_reducible (rw [List.length_map]; exact hp)) | exact rfl)) ?_)
                          | (refine HL_r rfl rfl rfl rfl (R_loadArr (n := 3) rfl (known_L (k := 1) rfl) rfl rfl (by first | (with_reducible (rw [List.length_map]; exact hp)) | exact rfl)) ?_)
                        all_goals refine HL_r rfl rfl rfl rfl (R_move rfl) ?_
                        all_goals refine HL_callP rfl rfl rfl (enters_of Tryd.func16 (by kernel_rfl) rfl) (P_out_Root hp hn v) ?_; refine HL_as (show _ = Value.tuple #[.string (bs t), .int .i64 e2] from by rw [← hr]; rfl) ?_
                        all_goals refine HL_r rfl rfl rfl rfl (R_move rfl) ?_
                        all_goals refine HL_r rfl rfl rfl rfl (R_extract rfl rfl) ?_
                        all_goals refine HL_r rfl rfl rfl rfl (R_extract rfl rfl) ?_
                        all_goals refine HL_r rfl rfl rfl rfl (R_assign rfl) ?_
                        all_goals refine HL_r rfl rfl rfl rfl (R_assign rfl) ?_
                        all_goals refine HL_nil ?_
                        all_goals (
                          refine HQ_then ?_
                          refine hK14 _ _ _ _ ?_; clear hK14 K14
                          refine HC_seq fun K15 hK15 => ?_
                          refine HC_region ?_
                          all_goals refine HL_r rfl rfl rfl rfl (R_move rfl) ?_
                          all_goals first
                            | (refine HL_r rfl rfl rfl rfl (R_loadArr (n := 3) rfl (known_L (k := 0) rfl) rfl rfl (by first | (with_reducible (rw [List.length_map]; exact hp)) | exact rfl)) ?_)
                            | (refine HL_r rfl rfl rfl rfl (R_loadArr (n := 3) rfl (known_L (k := 1) rfl) rfl rfl (by first | (with_reducible (rw [List.length_map]; exact hp)) | exact rfl)) ?_)
                          all_goals refine HL_r rfl rfl rfl rfl (R_move rfl) ?_
                          all_goals refine HL_callP rfl rfl rfl (enters_of Tryd.func17 (by kernel_rfl) rfl) (P_ref_Root hp hn v) ?_; refine HL_as (show _ = Value.tuple #[.string (bs t), .int .i64 e2] from by rw [← hr]; rfl) ?_
                          all_goals refine HL_r rfl rfl rfl rfl (R_move rfl) ?_
                          all_goals refine HL_r rfl rfl rfl rfl (R_extract rfl rfl) ?_
                          all_goals refine HL_r rfl rfl rfl rfl (R_extract rfl rfl) ?_
                          all_goals refine HL_r rfl rfl rfl rfl (R_assign rfl) ?_
                          all_goals refine HL_r rfl rfl rfl rfl (R_assign rfl) ?_
                          all_goals refine HL_nil ?_
                          all_goals (
                            refine HQ_then ?_
                            refine hK15 _ _ _ _ ?_; clear hK15 K15
                            refine HC_seq fun K16 hK16 => ?_
                            refine HC_region ?_
                            all_goals refine HL_r rfl rfl rfl rfl (R_move rfl) ?_
                            all_goals refine HL_r rfl rfl rfl rfl (R_move rfl) ?_
                            all_goals first
                              | (refine HL_r rfl rfl rfl rfl (R_move rfl) ?_)
                              | (refine HL_skip rfl rfl rfl ?_)
                              | (refine HL_case 54 rfl (fun hb17 => ?_) (fun hb17 => ?_) <;> (try simp only [decide_eq_true_eq, decide_eq_false_iff_not, beq_iff_eq, beq_eq_false_iff_ne, bne_iff_ne, bne_eq_false_iff_eq, Bool.not_eq_true', Bool.not_eq_false', ne_eq, Int.not_lt, Int.not_le, ge_iff_le, gt_iff_lt] at hb17) <;> first | (refine HL_r rfl rfl rfl rfl (R_move rfl) ?_) | (refine HL_skip rfl rfl rfl ?_))
                            all_goals first
                              | (refine HL_r rfl rfl rfl rfl (R_move rfl) ?_)
                              | (refine HL_skip rfl rfl rfl ?_)
                              | (refine HL_case 54 rfl (fun hb18 => ?_) (fun hb18 => ?_) <;> (try simp only [decide_eq_true_eq, decide_eq_false_iff_not, beq_iff_eq, beq_eq_false_iff_ne, bne_iff_ne, bne_eq_false_iff_eq, Bool.not_eq_true', Bool.not_eq_false', ne_eq, Int.not_lt, Int.not_le, ge_iff_le, gt_iff_lt] at hb18) <;> first | (refine HL_r rfl rfl rfl rfl (R_move rfl) ?_) | (refine HL_skip rfl rfl rfl ?_))
                            all_goals first
                              | (refine HL_r rfl rfl rfl rfl (R_strEq rfl rfl) ?_)
                              | (refine HL_skip rfl rfl rfl ?_)
                              | (refine HL_case 54 rfl (fun hb19 => ?_) (fun hb19 => ?_) <;> (try simp only [decide_eq_true_eq, decide_eq_false_iff_not, beq_iff_eq, beq_eq_false_iff_ne, bne_iff_ne, bne_eq_false_iff_eq, Bool.not_eq_true', Bool.not_eq_false', ne_eq, Int.not_lt, Int.not_le, ge_iff_le, gt_iff_lt] at hb19) <;> first | (refine HL_r rfl rfl rfl rfl (R_strEq rfl rfl) ?_) | (refine HL_skip rfl rfl rfl ?_))
                            all_goals first
                              | (refine HL_as (show _ = Value.bool true from bool_eq' (decide_eq_true rfl)) ?_)
                              | (refine HL_as (show _ = Value.bool false from bool_eq' (decide_eq_true rfl)) ?_)
                              | skip
                            all_goals first
                              | (refine HL_r rfl rfl rfl rfl (R_pickT rfl rfl) ?_)
                              | (refine HL_r rfl rfl rfl rfl (R_pickF rfl rfl) ?_)
                            all_goals refine HL_r rfl rfl rfl rfl (R_move rfl) ?_
                            all_goals first
                              | (refine HL_r rfl rfl rfl rfl (R_move rfl) ?_)
                              | (refine HL_skip rfl rfl rfl ?_)
                              | (refine HL_case 59 rfl (fun hb20 => ?_) (fun hb20 => ?_) <;> (try simp only [decide_eq_true_eq, decide_eq_false_iff_not, beq_iff_eq, beq_eq_false_iff_ne, bne_iff_ne, bne_eq_false_iff_eq, Bool.not_eq_true', Bool.not_eq_false', ne_eq, Int.not_lt, Int.not_le, ge_iff_le, gt_iff_lt] at hb20) <;> first | (refine HL_r rfl rfl rfl rfl (R_move rfl) ?_) | (refine HL_skip rfl rfl rfl ?_))
                            all_goals first
                              | (refine HL_r rfl rfl rfl rfl (R_move rfl) ?_)
                              | (refine HL_skip rfl rfl rfl ?_)
                              | (refine HL_case 59 rfl (fun hb21 => ?_) (fun hb21 => ?_) <;> (try simp only [decide_eq_true_eq, decide_eq_false_iff_not, beq_iff_eq, beq_eq_false_iff_ne, bne_iff_ne, bne_eq_false_iff_eq, Bool.not_eq_true', Bool.not_eq_false', ne_eq, Int.not_lt, Int.not_le, ge_iff_le, gt_iff_lt] at hb21) <;> first | (refine HL_r rfl rfl rfl rfl (R_move rfl) ?_) | (refine HL_skip rfl rfl rfl ?_))
                            all_goals first
                              | (refine HL_r rfl rfl rfl rfl (R_pure rfl rfl rfl) ?_)
                              | (refine HL_skip rfl rfl rfl ?_)
                              | (refine HL_case 59 rfl (fun hb22 => ?_) (fun hb22 => ?_) <;> (try simp only [decide_eq_true_eq, decide_eq_false_iff_not, beq_iff_eq, beq_eq_false_iff_ne, bne_iff_ne, bne_eq_false_iff_eq, Bool.not_eq_true', Bool.not_eq_false', ne_eq, Int.not_lt, Int.not_le, ge_iff_le, gt_iff_lt] at hb22) <;> first | (refine HL_r rfl rfl rfl rfl (R_pure rfl rfl rfl) ?_) | (refine HL_skip rfl rfl rfl ?_))
                            all_goals first
                              | (refine HL_as (show _ = Value.bool true from bool_eq' (beq_self_eq_true _)) ?_)
                              | (refine HL_as (show _ = Value.bool false from bool_eq' (beq_self_eq_true _)) ?_)
                              | skip
                            all_goals first
                              | (refine HL_r rfl rfl rfl rfl (R_pickT rfl rfl) ?_)
                              | (refine HL_r rfl rfl rfl rfl (R_pickF rfl rfl) ?_)
                            all_goals refine HL_r rfl rfl rfl rfl (R_move rfl) ?_
                            all_goals first
                              | (refine HL_r rfl rfl rfl rfl (R_move rfl) ?_)
                              | (refine HL_skip rfl rfl rfl ?_)
                              | (refine HL_case 64 rfl (fun hb23 => ?_) (fun hb23 => ?_) <;> (try simp only [decide_eq_true_eq, decide_eq_false_iff_not, beq_iff_eq, beq_eq_false_iff_ne, bne_iff_ne, bne_eq_false_iff_eq, Bool.not_eq_true', Bool.not_eq_false', ne_eq, Int.not_lt, Int.not_le, ge_iff_le, gt_iff_lt] at hb23) <;> first | (refine HL_r rfl rfl rfl rfl (R_move rfl) ?_) | (refine HL_skip rfl rfl rfl ?_))
                            all_goals first
                              | (refine HL_r rfl rfl rfl rfl (R_move rfl) ?_)
                              | (refine HL_skip rfl rfl rfl ?_)
                              | (refine HL_case 64 rfl (fun hb24 => ?_) (fun hb24 => ?_) <;> (try simp only [decide_eq_true_eq, decide_eq_false_iff_not, beq_iff_eq, beq_eq_false_iff_ne, bne_iff_ne, bne_eq_false_iff_eq, Bool.not_eq_true', Bool.not_eq_false', ne_eq, Int.not_lt, Int.not_le, ge_iff_le, gt_iff_lt] at hb24) <;> first | (refine HL_r rfl rfl rfl rfl (R_move rfl) ?_) | (refine HL_skip rfl rfl rfl ?_))
                            all_goals first
                              | (refine HL_r rfl rfl rfl rfl (R_strEq rfl rfl) ?_)
                              | (refine HL_skip rfl rfl rfl ?_)
                              | (refine HL_case 64 rfl (fun hb25 => ?_) (fun hb25 => ?_) <;> (try simp only [decide_eq_true_eq, decide_eq_false_iff_not, beq_iff_eq, beq_eq_false_iff_ne, bne_iff_ne, bne_eq_false_iff_eq, Bool.not_eq_true', Bool.not_eq_false', ne_eq, Int.not_lt, Int.not_le, ge_iff_le, gt_iff_lt] at hb25) <;> first | (refine HL_r rfl rfl rfl rfl (R_strEq rfl rfl) ?_) | (refine HL_skip rfl rfl rfl ?_))
                            all_goals first
                              | (refine HL_as (show _ = Value.bool true from bool_eq' (decide_eq_true rfl)) ?_)
                              | (refine HL_as (show _ = Value.bool false from bool_eq' (decide_eq_true rfl)) ?_)
                              | skip
                            all_goals first
                              | (refine HL_r rfl rfl rfl rfl (R_pickT rfl rfl) ?_)
                              | (refine HL_r rfl rfl rfl rfl (R_pickF rfl rfl) ?_)
                            all_goals refine HL_r rfl rfl rfl rfl (R_move rfl) ?_
                            all_goals first
                              | (refine HL_r rfl rfl rfl rfl (R_move rfl) ?_)
                              | (refine HL_skip rfl rfl rfl ?_)
                              | (refine HL_case 69 rfl (fun hb26 => ?_) (fun hb26 => ?_) <;> (try simp only [decide_eq_true_eq, decide_eq_false_iff_not, beq_iff_eq, beq_eq_false_iff_ne, bne_iff_ne, bne_eq_false_iff_eq, Bool.not_eq_true', Bool.not_eq_false', ne_eq, Int.not_lt, Int.not_le, ge_iff_le, gt_iff_lt] at hb26) <;> first | (refine HL_r rfl rfl rfl rfl (R_move rfl) ?_) | (refine HL_skip rfl rfl rfl ?_))
                            all_goals first
                              | (refine HL_r rfl rfl rfl rfl (R_move rfl) ?_)
                              | (refine HL_skip rfl rfl rfl ?_)
                              | (refine HL_case 69 rfl (fun hb27 => ?_) (fun hb27 => ?_) <;> (try simp only [decide_eq_true_eq, decide_eq_false_iff_not, beq_iff_eq, beq_eq_false_iff_ne, bne_iff_ne, bne_eq_false_iff_eq, Bool.not_eq_true', Bool.not_eq_false', ne_eq, Int.not_lt, Int.not_le, ge_iff_le, gt_iff_lt] at hb27) <;> first | (refine HL_r rfl rfl rfl rfl (R_move rfl) ?_) | (refine HL_skip rfl rfl rfl ?_))
                            all_goals first
                              | (refine HL_r rfl rfl rfl rfl (R_pure rfl rfl rfl) ?_)
                              | (refine HL_skip rfl rfl rfl ?_)
                              | (refine HL_case 69 rfl (fun hb28 => ?_) (fun hb28 => ?_) <;> (try simp only [decide_eq_true_eq, decide_eq_false_iff_not, beq_iff_eq, beq_eq_false_iff_ne, bne_iff_ne, bne_eq_false_iff_eq, Bool.not_eq_true', Bool.not_eq_false', ne_eq, Int.not_lt, Int.not_le, ge_iff_le, gt_iff_lt] at hb28) <;> first | (refine HL_r rfl rfl rfl rfl (R_pure rfl rfl rfl) ?_) | (refine HL_skip rfl rfl rfl ?_))
                            all_goals first
                              | (refine HL_as (show _ = Value.bool true from bool_eq' (beq_self_eq_true _)) ?_)
                              | (refine HL_as (show _ = Value.bool false from bool_eq' (beq_self_eq_true _)) ?_)
                              | skip
                            all_goals first
                              | (refine HL_r rfl rfl rfl rfl (R_pickT rfl rfl) ?_)
                              | (refine HL_r rfl rfl rfl rfl (R_pickF rfl rfl) ?_)
                            all_goals refine HL_r rfl rfl rfl rfl (R_assign rfl) ?_
                            all_goals refine HL_nil ?_
                            all_goals (
                              refine HQ_then ?_
                              refine hK16 _ _ _ _ ?_; clear hK16 K16
                              refine HC_ret ?_
                              refine HQ_post rfl rfl (.cons (res_tmp rfl) .nil) (fun w1 hs1 => ?_)
                              exact ⟨rfl, hs1.keep⟩
                              skip)
                            skip)
                          skip)
                        skip)
                      skip)
                    skip)
                skip)
              skip)
            skip)
        skip)
      skip)
    skip)
end Go.Proofs.YthfinkklgbiaeaaDoor
