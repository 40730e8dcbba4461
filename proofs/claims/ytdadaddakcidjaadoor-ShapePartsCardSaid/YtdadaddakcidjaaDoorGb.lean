import Derived.Test.YtdadaddakcidjaaDoorGa
namespace Go.Proofs.YtdadaddakcidjaaDoor
set_option linter.all false
open Go.SL Go.RowKit Go.Shelf
set_option maxRecDepth 10000 in
theorem S_ref_check {R : List (Nat × Obj)} {t : Ty} (ht : t.In R) : ∀ d : Int, 0 ≤ d → d ≤ 1000 → PureR Tryd.prog 22 [t.val, .int .i64 d].toArray (.int .i64 (chk t d)) R := by
  induction ht with
  | @mk k n p ins hk hn hl hs hi ih =>
  intro d hd0 hd1
  have hform := S_ref_form (.mk hk hn hl hs hi : Ty.In R (.mk k n p ins))
  refine pureR_of_HC Tryd.func22 rfl rfl fun w => ?_
  refine HC_seq fun K1 hK1 => ?_
  refine HC_region ?_
  all_goals refine HL_box (cs := #[_, _, _]) rfl rfl rfl rfl fun r1 => ?_
  all_goals refine HL_r rfl rfl rfl rfl (R_assign rfl) ?_
  all_goals refine HL_nil ?_
  all_goals (
    refine HQ_then ?_
    refine hK1 _ _ _ _ ?_; clear hK1 K1
    refine HC_seq fun K2 hK2 => ?_
    refine HC_seq fun K3 hK3 => ?_
    refine HC_region ?_
    all_goals refine HL_r rfl rfl rfl rfl (R_fieldAddr rfl rfl (by first | (simp only [Nat.zero_add, Nat.reduceAdd, Nat.reduceMul, Nat.zero_mul, Nat.mul_one, Nat.add_zero]; exact rfl) | exact rfl)) ?_
    all_goals refine HL_r rfl rfl rfl rfl (R_load rfl (known_L (k := 0) rfl) rfl rfl) ?_
    all_goals refine HL_r rfl rfl rfl rfl (R_pure rfl rfl rfl) ?_
    all_goals refine HL_r rfl rfl rfl rfl (R_move rfl) ?_
    all_goals (refine HL_case 11 rfl (fun hb4 => ?_) (fun hb4 => ?_) <;> (try simp only [decide_eq_true_eq, decide_eq_false_iff_not, beq_iff_eq, beq_eq_false_iff_ne, bne_iff_ne, bne_eq_false_iff_eq, Bool.not_eq_true', Bool.not_eq_false', ne_eq, Int.not_lt, Int.not_le, ge_iff_le, gt_iff_lt] at hb4) <;> first | (refine HL_r rfl rfl rfl rfl (R_fieldAddr rfl rfl (by first | (simp only [Nat.zero_add, Nat.reduceAdd, Nat.reduceMul, Nat.zero_mul, Nat.mul_one, Nat.add_zero]; exact rfl) | exact rfl)) ?_) | (refine HL_skip rfl rfl rfl ?_))
    all_goals first
      | (refine HL_r rfl rfl rfl rfl (R_load rfl (known_L (k := 0) rfl) rfl rfl) ?_)
      | (refine HL_skip rfl rfl rfl ?_)
    all_goals first
      | (refine HL_r rfl rfl rfl rfl (R_pure rfl rfl rfl) ?_)
      | (refine HL_skip rfl rfl rfl ?_)
    all_goals first
      | (refine HL_r rfl rfl rfl rfl (R_pickT rfl rfl) ?_)
      | (refine HL_r rfl rfl rfl rfl (R_pickF rfl rfl) ?_)
    all_goals refine HL_nil ?_
    all_goals (
      refine HQ_then ?_
      refine hK3 _ _ _ _ ?_; clear hK3 K3
      refine HC_cond rfl (fun h7 => ?_) (fun h7 => ?_)
      · try exact Bool.noConfusion h7
        all_goals try simp only [decide_eq_true_eq, decide_eq_false_iff_not, beq_iff_eq, beq_eq_false_iff_ne, bne_iff_ne, bne_eq_false_iff_eq, Bool.not_eq_true', Bool.not_eq_false', ne_eq, Int.not_lt, Int.not_le, ge_iff_le, gt_iff_lt] at h7
        all_goals (
          refine HC_seq fun K8 hK8 => ?_
          refine HC_region ?_
          all_goals refine HL_r rfl rfl rfl rfl (R_assign rfl) ?_
          all_goals refine HL_nil ?_
          all_goals (
            refine HQ_then ?_
            refine hK8 _ _ _ _ ?_; clear hK8 K8
            refine HC_ret ?_
            refine HQ_thenR ?_; clear hK2 K2
            refine HQ_post rfl rfl (.cons (res_tmp rfl) .nil) (fun w1 hs1 => ?_)
            refine ⟨?_, hs1.keep⟩
            first
              | (rw [chk, if_pos (by omega)]; rfl)
              | (rw [chk, if_neg (by omega), if_pos (by assumption)]; rfl)
              | (rw [chk, if_neg (by omega), if_neg (by simp_all), if_pos (by omega)]; rfl)
              | (rw [chk, if_neg (by omega), if_neg (by simp_all), if_neg (by omega), ← hinv, if_neg (by assumption)]; rfl)
              | (rw [chk, if_neg (by omega), if_neg (by simp_all), if_neg (by omega), ← hinv, List.drop_of_length_le (by omega), chkL]; rfl)
            skip)
          skip)
      · try exact Bool.noConfusion h7
        all_goals try simp only [decide_eq_true_eq, decide_eq_false_iff_not, beq_iff_eq, beq_eq_false_iff_ne, bne_iff_ne, bne_eq_false_iff_eq, Bool.not_eq_true', Bool.not_eq_false', ne_eq, Int.not_lt, Int.not_le, ge_iff_le, gt_iff_lt] at h7
        all_goals (
          refine HC_skip ?_
          refine HQ_then ?_
          refine hK2 _ _ _ _ ?_; clear hK2 K2
          refine HC_seq fun K9 hK9 => ?_
          refine HC_region ?_
          all_goals refine HL_r rfl rfl rfl rfl (R_loadA (vs := [_, _, _]) rfl (known_L (k := 0) rfl) rfl rfl rfl rfl) ?_
          all_goals refine HL_callR rfl rfl rfl (enters_of Tryd.func33 (by kernel_rfl) rfl) hform (fun q hq => Or.inr hq) ?_
          all_goals refine HL_r rfl rfl rfl rfl (R_assign rfl) ?_
          all_goals refine HL_nil ?_
          all_goals (
            refine HQ_then ?_
            refine hK9 _ _ _ _ ?_; clear hK9 K9
            refine HC_seq fun K10 hK10 => ?_
            refine HC_seq fun K11 hK11 => ?_
            refine HC_region ?_
            all_goals refine HL_r rfl rfl rfl rfl (R_move rfl) ?_
            all_goals refine HL_r rfl rfl rfl rfl (R_pure rfl rfl rfl) ?_
            all_goals refine HL_nil ?_
            all_goals (
              refine HQ_then ?_
              refine hK11 _ _ _ _ ?_; clear hK11 K11
              refine HC_cond rfl (fun h12 => ?_) (fun h12 => ?_)
              · try exact Bool.noConfusion h12
                all_goals try simp only [decide_eq_true_eq, decide_eq_false_iff_not, beq_iff_eq, beq_eq_false_iff_ne, bne_iff_ne, bne_eq_false_iff_eq, Bool.not_eq_true', Bool.not_eq_false', ne_eq, Int.not_lt, Int.not_le, ge_iff_le, gt_iff_lt] at h12
                all_goals (
                  refine HC_seq fun K13 hK13 => ?_
                  refine HC_region ?_
                  all_goals refine HL_r rfl rfl rfl rfl (R_assign rfl) ?_
                  all_goals refine HL_nil ?_
                  all_goals (
                    refine HQ_then ?_
                    refine hK13 _ _ _ _ ?_; clear hK13 K13
                    refine HC_ret ?_
                    refine HQ_thenR ?_; clear hK10 K10
                    refine HQ_post rfl rfl (.cons (res_tmp rfl) .nil) (fun w1 hs1 => ?_)
                    refine ⟨?_, hs1.keep⟩
                    first
                      | (rw [chk, if_pos (by omega)]; rfl)
                      | (rw [chk, if_neg (by omega), if_pos (by assumption)]; rfl)
                      | (rw [chk, if_neg (by omega), if_neg (by simp_all), if_pos (by omega)]; rfl)
                      | (rw [chk, if_neg (by omega), if_neg (by simp_all), if_neg (by omega), ← hinv, if_neg (by assumption)]; rfl)
                      | (rw [chk, if_neg (by omega), if_neg (by simp_all), if_neg (by omega), ← hinv, List.drop_of_length_le (by omega), chkL]; rfl)
                    skip)
                  skip)
              · try exact Bool.noConfusion h12
                all_goals try simp only [decide_eq_true_eq, decide_eq_false_iff_not, beq_iff_eq, beq_eq_false_iff_ne, bne_iff_ne, bne_eq_false_iff_eq, Bool.not_eq_true', Bool.not_eq_false', ne_eq, Int.not_lt, Int.not_le, ge_iff_le, gt_iff_lt] at h12
                all_goals (
                  refine HC_skip ?_
                  refine HQ_then ?_
                  refine hK10 _ _ _ _ ?_; clear hK10 K10
                  refine HC_seq fun K14 hK14 => ?_
                  refine HC_seq fun K15 hK15 => ?_
                  refine HC_region ?_
                  all_goals refine HL_r rfl rfl rfl rfl (R_move rfl) ?_
                  all_goals refine HL_r rfl rfl rfl rfl (R_pure rfl rfl rfl) ?_
                  all_goals refine HL_nil ?_
                  all_goals (
                    refine HQ_then ?_
                    refine hK15 _ _ _ _ ?_; clear hK15 K15
                    refine HC_cond rfl (fun h16 => ?_) (fun h16 => ?_)
                    · try exact Bool.noConfusion h16
                      all_goals try simp only [decide_eq_true_eq, decide_eq_false_iff_not, beq_iff_eq, beq_eq_false_iff_ne, bne_iff_ne, bne_eq_false_iff_eq, Bool.not_eq_true', Bool.not_eq_false', ne_eq, Int.not_lt, Int.not_le, ge_iff_le, gt_iff_lt] at h16
                      all_goals (
                        refine HC_seq fun K17 hK17 => ?_
                        refine HC_region ?_
                        all_goals refine HL_r rfl rfl rfl rfl (R_assign rfl) ?_
                        all_goals refine HL_nil ?_
                        all_goals (
                          refine HQ_then ?_
                          refine hK17 _ _ _ _ ?_; clear hK17 K17
                          refine HC_ret ?_
                          refine HQ_thenR ?_; clear hK14 K14
                          refine HQ_post rfl rfl (.cons (res_tmp rfl) .nil) (fun w1 hs1 => ?_)
                          refine ⟨?_, hs1.keep⟩
                          first
                            | (rw [chk, if_pos (by omega)]; rfl)
                            | (rw [chk, if_neg (by omega), if_pos (by assumption)]; rfl)
                            | (rw [chk, if_neg (by omega), if_neg (by simp_all), if_pos (by omega)]; rfl)
                            | (rw [chk, if_neg (by omega), if_neg (by simp_all), if_neg (by omega), ← hinv, if_neg (by assumption)]; rfl)
                            | (rw [chk, if_neg (by omega), if_neg (by simp_all), if_neg (by omega), ← hinv, List.drop_of_length_le (by omega), chkL]; rfl)
                          skip)
                        skip)
                    · try exact Bool.noConfusion h16
                      all_goals try simp only [decide_eq_true_eq, decide_eq_false_iff_not, beq_iff_eq, beq_eq_false_iff_ne, bne_iff_ne, bne_eq_false_iff_eq, Bool.not_eq_true', Bool.not_eq_false', ne_eq, Int.not_lt, Int.not_le, ge_iff_le, gt_iff_lt] at h16
                      all_goals (
                        refine HC_skip ?_
                        refine HQ_then ?_
                        refine hK14 _ _ _ _ ?_; clear hK14 K14
                        refine HC_seq fun K18 hK18 => ?_
                        refine HC_seq fun K19 hK19 => ?_
                        refine HC_region ?_
                        all_goals refine HL_r rfl rfl rfl rfl (R_assign rfl) ?_
                        all_goals refine HL_nil ?_
                        all_goals (
                          refine HQ_then ?_
                          refine hK19 _ _ _ _ ?_; clear hK19 K19
                          refine HC_block ?_
                          refine HC_loop (σ := Nat) (fun i => i ≤ ins.length ∧ chkL (ins.drop i) (d + 1) = chkL ins (d + 1)) (fun i => [(1, .int .i64 d), (2, .pointer (some ⟨r1, 0, none⟩)), (6, .int .i64 (i : Int))]) (fun _ => [(r1, .cells #[.int .i64 k, .int .i64 n, plV ins.length p] 24 (0, 0))]) (fun _ _ _ => True) (fun i => ins.length - i) 0 ⟨by omega, rfl⟩ (.cons rfl (.cons rfl (.cons rfl .nil))) (List.Sublist.refl _) (fun _ _ h => h) ?_
                          rintro i ⟨hi1, hinv⟩
                          refine HC_seq fun K20 hK20 => ?_
                          refine HC_seq fun K21 hK21 => ?_
                          refine HC_region ?_
                          all_goals refine HL_r rfl rfl rfl rfl (R_move rfl) ?_
                          all_goals refine HL_r rfl rfl rfl rfl (R_fieldAddr rfl rfl (by first | (simp only [Nat.zero_add, Nat.reduceAdd, Nat.reduceMul, Nat.zero_mul, Nat.mul_one, Nat.add_zero]; exact rfl) | exact rfl)) ?_
                          all_goals refine HL_r rfl rfl rfl rfl (R_load rfl (known_L (k := 0) rfl) rfl rfl) ?_
                          all_goals (refine HL_r rfl rfl rfl rfl (R_lenPl rfl hs rfl) ?_)
                          all_goals refine HL_r rfl rfl rfl rfl (R_pure rfl rfl rfl) ?_
                          all_goals refine HL_nil ?_
                          all_goals (
                            refine HQ_then ?_
                            refine hK21 _ _ _ _ ?_; clear hK21 K21
                            refine HC_cond rfl (fun h22 => ?_) (fun h22 => ?_)
                            · try exact Bool.noConfusion h22
                              all_goals try simp only [decide_eq_true_eq, decide_eq_false_iff_not, beq_iff_eq, beq_eq_false_iff_ne, bne_iff_ne, bne_eq_false_iff_eq, Bool.not_eq_true', Bool.not_eq_false', ne_eq, Int.not_lt, Int.not_le, ge_iff_le, gt_iff_lt] at h22
                              all_goals (
                                refine HC_skip ?_
                                refine HQ_then ?_
                                refine hK20 _ _ _ _ ?_; clear hK20 K20
                                refine HC_seq fun K23 hK23 => ?_
                                refine HC_block ?_
                                refine HC_seq fun K24 hK24 => ?_
                                obtain ⟨y, hy, hmem⟩ := getI (show i < ins.length by omega)
                                rw [dropI hy, chkL] at hinv
                                refine HC_region ?_
                                all_goals refine HL_r rfl rfl rfl rfl (R_fieldAddr rfl rfl (by first | (simp only [Nat.zero_add, Nat.reduceAdd, Nat.reduceMul, Nat.zero_mul, Nat.mul_one, Nat.add_zero]; exact rfl) | exact rfl)) ?_
                                all_goals refine HL_r rfl rfl rfl rfl (R_load rfl (known_L (k := 0) rfl) rfl rfl) ?_
                                all_goals refine HL_r rfl rfl rfl rfl (R_move rfl) ?_
                                all_goals refine HL_r rfl rfl rfl rfl (R_indexPl (j := i) rfl hs rfl rfl rfl rfl (by omega)) ?_
                                all_goals refine HL_r rfl rfl rfl rfl (R_loadTy (fun q hq => Or.inr hq) rfl hs hy rfl rfl) ?_
                                all_goals refine HL_r rfl rfl rfl rfl (R_move rfl) ?_
                                all_goals (refine HL_r rfl rfl rfl rfl (R_pure rfl rfl rfl) ?_; refine HL_wrap_i64 (by omega) (by omega) ?_)
                                all_goals refine HL_callR rfl rfl rfl (enters_of Tryd.func22 (by kernel_rfl) rfl) (ih y hmem (d + 1) (by omega) (by omega)) (fun q hq => Or.inr hq) ?_
                                all_goals refine HL_r rfl rfl rfl rfl (R_assign rfl) ?_
                                all_goals refine HL_nil ?_
                                all_goals (
                                  refine HQ_then ?_
                                  refine hK24 _ _ _ _ ?_; clear hK24 K24
                                  refine HC_seq fun K25 hK25 => ?_
                                  refine HC_region ?_
                                  all_goals refine HL_r rfl rfl rfl rfl (R_move rfl) ?_
                                  all_goals refine HL_r rfl rfl rfl rfl (R_pure rfl rfl rfl) ?_
                                  all_goals refine HL_nil ?_
                                  all_goals (
                                    refine HQ_then ?_
                                    refine hK25 _ _ _ _ ?_; clear hK25 K25
                                    refine HC_cond rfl (fun h26 => ?_) (fun h26 => ?_)
                                    · try exact Bool.noConfusion h26
                                      all_goals try simp only [decide_eq_true_eq, decide_eq_false_iff_not, beq_iff_eq, beq_eq_false_iff_ne, bne_iff_ne, bne_eq_false_iff_eq, Bool.not_eq_true', Bool.not_eq_false', ne_eq, Int.not_lt, Int.not_le, ge_iff_le, gt_iff_lt] at h26
                                      all_goals (
                                        refine HC_seq fun K27 hK27 => ?_
                                        refine HC_region ?_
                                        all_goals refine HL_r rfl rfl rfl rfl (R_move rfl) ?_
                                        all_goals refine HL_r rfl rfl rfl rfl (R_assign rfl) ?_
                                        all_goals refine HL_nil ?_
                                        all_goals (
                                          refine HQ_then ?_
                                          refine hK27 _ _ _ _ ?_; clear hK27 K27
                                          refine HC_ret ?_
                                          refine HQ_blockR ?_
                                          refine HQ_thenR ?_; clear hK23 K23
                                          refine HQ_thenR ?_
                                          refine HQ_blockR ?_
                                          refine HQ_thenR ?_; clear hK18 K18
                                          refine HQ_post rfl rfl (.cons (res_tmp rfl) .nil) (fun w1 hs1 => ?_)
                                          refine ⟨?_, hs1.keep⟩
                                          first
                                            | (rw [chk, if_pos (by omega)]; rfl)
                                            | (rw [chk, if_neg (by omega), if_pos (by assumption)]; rfl)
                                            | (rw [chk, if_neg (by omega), if_neg (by simp_all), if_pos (by omega)]; rfl)
                                            | (rw [chk, if_neg (by omega), if_neg (by simp_all), if_neg (by omega), ← hinv, if_neg (by assumption)]; rfl)
                                            | (rw [chk, if_neg (by omega), if_neg (by simp_all), if_neg (by omega), ← hinv, List.drop_of_length_le (by omega), chkL]; rfl)
                                          skip)
                                        skip)
                                    · try exact Bool.noConfusion h26
                                      all_goals try simp only [decide_eq_true_eq, decide_eq_false_iff_not, beq_iff_eq, beq_eq_false_iff_ne, bne_iff_ne, bne_eq_false_iff_eq, Bool.not_eq_true', Bool.not_eq_false', ne_eq, Int.not_lt, Int.not_le, ge_iff_le, gt_iff_lt] at h26
                                      all_goals (
                                        refine HC_skip ?_
                                        refine HQ_blockN ?_
                                        refine HQ_then ?_
                                        refine hK23 _ _ _ _ ?_; clear hK23 K23
                                        refine HC_region ?_
                                        all_goals refine HL_r rfl rfl rfl rfl (R_move rfl) ?_
                                        all_goals (refine HL_r rfl rfl rfl rfl (R_pure rfl rfl rfl) ?_; refine HL_wrap_i64 (by omega) (by omega) ?_)
                                        all_goals refine HL_r rfl rfl rfl rfl (R_assign rfl) ?_
                                        all_goals refine HL_nil ?_
                                        all_goals (
                                          refine HQ_then ?_
                                          exact HQ_again (i + 1) ⟨by omega, by rw [if_pos (by assumption)] at hinv; exact hinv⟩ (by omega) (.cons rfl (.cons rfl (.cons rfl .nil))) (List.Sublist.refl _) (fun _ _ h => h)
                                          skip)
                                        skip)
                                    skip)
                                  skip)
                                skip)
                            · try exact Bool.noConfusion h22
                              all_goals try simp only [decide_eq_true_eq, decide_eq_false_iff_not, beq_iff_eq, beq_eq_false_iff_ne, bne_iff_ne, bne_eq_false_iff_eq, Bool.not_eq_true', Bool.not_eq_false', ne_eq, Int.not_lt, Int.not_le, ge_iff_le, gt_iff_lt] at h22
                              all_goals (
                                refine HC_exit ?_
                                refine HQ_thenE ?_; clear hK20 K20
                                refine HQ_thenE ?_
                                refine HQ_blockE ?_
                                refine HQ_then ?_
                                refine hK18 _ _ _ _ ?_; clear hK18 K18
                                refine HC_seq fun K28 hK28 => ?_
                                refine HC_region ?_
                                all_goals refine HL_r rfl rfl rfl rfl (R_assign rfl) ?_
                                all_goals refine HL_nil ?_
                                all_goals (
                                  refine HQ_then ?_
                                  refine hK28 _ _ _ _ ?_; clear hK28 K28
                                  refine HC_ret ?_
                                  refine HQ_post rfl rfl (.cons (res_tmp rfl) .nil) (fun w1 hs1 => ?_)
                                  refine ⟨?_, hs1.keep⟩
                                  first
                                    | (rw [chk, if_pos (by omega)]; rfl)
                                    | (rw [chk, if_neg (by omega), if_pos (by assumption)]; rfl)
                                    | (rw [chk, if_neg (by omega), if_neg (by simp_all), if_pos (by omega)]; rfl)
                                    | (rw [chk, if_neg (by omega), if_neg (by simp_all), if_neg (by omega), ← hinv, if_neg (by assumption)]; rfl)
                                    | (rw [chk, if_neg (by omega), if_neg (by simp_all), if_neg (by omega), ← hinv, List.drop_of_length_le (by omega), chkL]; rfl)
                                  skip)
                                skip)
                            skip)
                          skip)
                        skip)
                    skip)
                  skip)
              skip)
            skip)
          skip)
      skip)
    skip)
set_option maxRecDepth 10000 in
theorem S_ref_Check {R : List (Nat × Obj)} {t : Ty} (ht : t.In R) : PureR Tryd.prog 10 [t.val].toArray (.int .i64 (chk t 0)) R := by
  have h1 := S_ref_check ht 0 (by omega) (by omega)
  obtain ⟨k, n, p, ins⟩ := t
  refine pureR_of_HC Tryd.func10 rfl rfl fun w => ?_
  refine HC_seq fun K1 hK1 => ?_
  refine HC_region ?_
  all_goals refine HL_box (cs := #[_, _, _]) rfl rfl rfl rfl fun r1 => ?_
  all_goals refine HL_r rfl rfl rfl rfl (R_assign rfl) ?_
  all_goals refine HL_nil ?_
  all_goals (
    refine HQ_then ?_
    refine hK1 _ _ _ _ ?_; clear hK1 K1
    refine HC_seq fun K2 hK2 => ?_
    refine HC_region ?_
    all_goals refine HL_r rfl rfl rfl rfl (R_loadA (vs := [_, _, _]) rfl (known_L (k := 0) rfl) rfl rfl rfl rfl) ?_
    all_goals refine HL_callR rfl rfl rfl (enters_of Tryd.func22 (by kernel_rfl) rfl) h1 (fun q hq => Or.inr hq) ?_
    all_goals refine HL_r rfl rfl rfl rfl (R_assign rfl) ?_
    all_goals refine HL_nil ?_
    all_goals (
      refine HQ_then ?_
      refine hK2 _ _ _ _ ?_; clear hK2 K2
      refine HC_ret ?_
      refine HQ_post rfl rfl (.cons (res_tmp rfl) .nil) (fun w1 hs1 => ?_)
      exact ⟨rfl, hs1.keep⟩
      skip)
    skip)
set_option maxRecDepth 10000 in
theorem S_ref_fixed {R : List (Nat × Obj)} {t : Ty} (ht : t.In R) : PureR Tryd.prog 23 [t.val].toArray (.bool (fixT t)) R := by
  induction ht with
  | @mk k n p ins hk hn hl hs hi ih =>
  refine pureR_of_HC Tryd.func23 rfl rfl fun w => ?_
  refine HC_seq fun K1 hK1 => ?_
  refine HC_region ?_
  all_goals refine HL_box (cs := #[_, _, _]) rfl rfl rfl rfl fun r1 => ?_
  all_goals refine HL_r rfl rfl rfl rfl (R_assign rfl) ?_
  all_goals refine HL_nil ?_
  all_goals (
    refine HQ_then ?_
    refine hK1 _ _ _ _ ?_; clear hK1 K1
    refine HC_seq fun K2 hK2 => ?_
    refine HC_seq fun K3 hK3 => ?_
    refine HC_region ?_
    all_goals refine HL_r rfl rfl rfl rfl (R_fieldAddr rfl rfl (by first | (simp only [Nat.zero_add, Nat.reduceAdd, Nat.reduceMul, Nat.zero_mul, Nat.mul_one, Nat.add_zero]; exact rfl) | exact rfl)) ?_
    all_goals refine HL_r rfl rfl rfl rfl (R_load rfl (known_L (k := 0) rfl) rfl rfl) ?_
    all_goals refine HL_r rfl rfl rfl rfl (R_pure rfl rfl rfl) ?_
    all_goals refine HL_r rfl rfl rfl rfl (R_move rfl) ?_
    all_goals (refine HL_case 7 rfl (fun hb4 => ?_) (fun hb4 => ?_) <;> (try simp only [decide_eq_true_eq, decide_eq_false_iff_not, beq_iff_eq, beq_eq_false_iff_ne, bne_iff_ne, bne_eq_false_iff_eq, Bool.not_eq_true', Bool.not_eq_false', ne_eq, Int.not_lt, Int.not_le, ge_iff_le, gt_iff_lt] at hb4) <;> first | (refine HL_r rfl rfl rfl rfl (R_fieldAddr rfl rfl (by first | (simp only [Nat.zero_add, Nat.reduceAdd, Nat.reduceMul, Nat.zero_mul, Nat.mul_one, Nat.add_zero]; exact rfl) | exact rfl)) ?_) | (refine HL_skip rfl rfl rfl ?_))
    all_goals first
      | (refine HL_r rfl rfl rfl rfl (R_load rfl (known_L (k := 0) rfl) rfl rfl) ?_)
      | (refine HL_skip rfl rfl rfl ?_)
    all_goals first
      | (refine HL_r rfl rfl rfl rfl (R_pure rfl rfl rfl) ?_)
      | (refine HL_skip rfl rfl rfl ?_)
    all_goals first
      | (refine HL_r rfl rfl rfl rfl (R_pickT rfl rfl) ?_)
      | (refine HL_r rfl rfl rfl rfl (R_pickF rfl rfl) ?_)
    all_goals refine HL_r rfl rfl rfl rfl (R_move rfl) ?_
    all_goals first
      | (refine HL_skip rfl rfl rfl ?_)
      | (refine HL_case 12 rfl (fun hb7 => ?_) (fun hb7 => ?_) <;> (try simp only [decide_eq_true_eq, decide_eq_false_iff_not, beq_iff_eq, beq_eq_false_iff_ne, bne_iff_ne, bne_eq_false_iff_eq, Bool.not_eq_true', Bool.not_eq_false', ne_eq, Int.not_lt, Int.not_le, ge_iff_le, gt_iff_lt] at hb7) <;> first | (refine HL_r rfl rfl rfl rfl (R_fieldAddr rfl rfl (by first | (simp only [Nat.zero_add, Nat.reduceAdd, Nat.reduceMul, Nat.zero_mul, Nat.mul_one, Nat.add_zero]; exact rfl) | exact rfl)) ?_) | (refine HL_skip rfl rfl rfl ?_))
    all_goals first
      | (refine HL_r rfl rfl rfl rfl (R_load rfl (known_L (k := 0) rfl) rfl rfl) ?_)
      | (refine HL_skip rfl rfl rfl ?_)
    all_goals first
      | (refine HL_r rfl rfl rfl rfl (R_pure rfl rfl rfl) ?_)
      | (refine HL_skip rfl rfl rfl ?_)
    all_goals first
      | (refine HL_r rfl rfl rfl rfl (R_pickT rfl rfl) ?_)
      | (refine HL_r rfl rfl rfl rfl (R_pickF rfl rfl) ?_)
    all_goals refine HL_nil ?_
    all_goals (
      refine HQ_then ?_
      refine hK3 _ _ _ _ ?_; clear hK3 K3
      refine HC_cond rfl (fun h10 => ?_) (fun h10 => ?_)
      · try exact Bool.noConfusion h10
        all_goals try simp only [decide_eq_true_eq, decide_eq_false_iff_not, beq_iff_eq, beq_eq_false_iff_ne, bne_iff_ne, bne_eq_false_iff_eq, Bool.not_eq_true', Bool.not_eq_false', ne_eq, Int.not_lt, Int.not_le, ge_iff_le, gt_iff_lt] at h10
        all_goals (
          refine HC_seq fun K11 hK11 => ?_
          refine HC_region ?_
          all_goals refine HL_r rfl rfl rfl rfl (R_assign rfl) ?_
          all_goals refine HL_nil ?_
          all_goals (
            refine HQ_then ?_
            refine hK11 _ _ _ _ ?_; clear hK11 K11
            refine HC_ret ?_
            refine HQ_thenR ?_; clear hK2 K2
            refine HQ_post rfl rfl (.cons (res_tmp rfl) .nil) (fun w1 hs1 => ?_)
            refine ⟨?_, hs1.keep⟩
            rw [fixT]
            first
              | (simp_all [resVal]; done)
              | (rw [← hinv, List.drop_of_length_le (by omega), fixL]; simp_all [resVal]; done)
              | (rw [← hinv]; simp_all [resVal]; done)
            skip)
          skip)
      · try exact Bool.noConfusion h10
        all_goals try simp only [decide_eq_true_eq, decide_eq_false_iff_not, beq_iff_eq, beq_eq_false_iff_ne, bne_iff_ne, bne_eq_false_iff_eq, Bool.not_eq_true', Bool.not_eq_false', ne_eq, Int.not_lt, Int.not_le, ge_iff_le, gt_iff_lt] at h10
        all_goals (
          refine HC_skip ?_
          refine HQ_then ?_
          refine hK2 _ _ _ _ ?_; clear hK2 K2
          refine HC_seq fun K12 hK12 => ?_
          refine HC_seq fun K13 hK13 => ?_
          refine HC_region ?_
          all_goals refine HL_r rfl rfl rfl rfl (R_assign rfl) ?_
          all_goals refine HL_nil ?_
          all_goals (
            refine HQ_then ?_
            refine hK13 _ _ _ _ ?_; clear hK13 K13
            refine HC_block ?_
            refine HC_loop (σ := Nat) (fun i => i ≤ ins.length ∧ fixL (ins.drop i) = fixL ins) (fun i => [(1, .pointer (some ⟨r1, 0, none⟩)), (3, .int .i64 (i : Int))]) (fun _ => [(r1, .cells #[.int .i64 k, .int .i64 n, plV ins.length p] 24 (0, 0))]) (fun _ _ _ => True) (fun i => ins.length - i) 0 ⟨by omega, rfl⟩ (.cons rfl (.cons rfl .nil)) (List.Sublist.refl _) (fun _ _ h => h) ?_
            rintro i ⟨hi1, hinv⟩
            refine HC_seq fun K14 hK14 => ?_
            refine HC_seq fun K15 hK15 => ?_
            refine HC_region ?_
            all_goals refine HL_r rfl rfl rfl rfl (R_move rfl) ?_
            all_goals refine HL_r rfl rfl rfl rfl (R_fieldAddr rfl rfl (by first | (simp only [Nat.zero_add, Nat.reduceAdd, Nat.reduceMul, Nat.zero_mul, Nat.mul_one, Nat.add_zero]; exact rfl) | exact rfl)) ?_
            all_goals refine HL_r rfl rfl rfl rfl (R_load rfl (known_L (k := 0) rfl) rfl rfl) ?_
            all_goals (refine HL_r rfl rfl rfl rfl (R_lenPl rfl hs rfl) ?_)
            all_goals refine HL_r rfl rfl rfl rfl (R_pure rfl rfl rfl) ?_
            all_goals refine HL_nil ?_
            all_goals (
              refine HQ_then ?_
              refine hK15 _ _ _ _ ?_; clear hK15 K15
              refine HC_cond rfl (fun h16 => ?_) (fun h16 => ?_)
              · try exact Bool.noConfusion h16
                all_goals try simp only [decide_eq_true_eq, decide_eq_false_iff_not, beq_iff_eq, beq_eq_false_iff_ne, bne_iff_ne, bne_eq_false_iff_eq, Bool.not_eq_true', Bool.not_eq_false', ne_eq, Int.not_lt, Int.not_le, ge_iff_le, gt_iff_lt] at h16
                all_goals (
                  refine HC_skip ?_
                  refine HQ_then ?_
                  refine hK14 _ _ _ _ ?_; clear hK14 K14
                  refine HC_seq fun K17 hK17 => ?_
                  refine HC_block ?_
                  refine HC_seq fun K18 hK18 => ?_
                  obtain ⟨y, hy, hmem⟩ := getI (show i < ins.length by omega)
                  rw [dropI hy, fixL] at hinv
                  refine HC_region ?_
                  all_goals refine HL_r rfl rfl rfl rfl (R_fieldAddr rfl rfl (by first | (simp only [Nat.zero_add, Nat.reduceAdd, Nat.reduceMul, Nat.zero_mul, Nat.mul_one, Nat.add_zero]; exact rfl) | exact rfl)) ?_
                  all_goals refine HL_r rfl rfl rfl rfl (R_load rfl (known_L (k := 0) rfl) rfl rfl) ?_
                  all_goals refine HL_r rfl rfl rfl rfl (R_move rfl) ?_
                  all_goals refine HL_r rfl rfl rfl rfl (R_indexPl (j := i) rfl hs rfl rfl rfl rfl (by omega)) ?_
                  all_goals refine HL_r rfl rfl rfl rfl (R_loadTy (fun q hq => Or.inr hq) rfl hs hy rfl rfl) ?_
                  all_goals refine HL_callR rfl rfl rfl (enters_of Tryd.func23 (by kernel_rfl) rfl) (ih y hmem) (fun q hq => Or.inr hq) ?_
                  all_goals refine HL_r rfl rfl rfl rfl (R_pure rfl rfl rfl) ?_
                  all_goals refine HL_nil ?_
                  all_goals (
                    refine HQ_then ?_
                    refine hK18 _ _ _ _ ?_; clear hK18 K18
                    refine HC_cond rfl (fun h19 => ?_) (fun h19 => ?_)
                    · try exact Bool.noConfusion h19
                      all_goals try simp only [decide_eq_true_eq, decide_eq_false_iff_not, beq_iff_eq, beq_eq_false_iff_ne, bne_iff_ne, bne_eq_false_iff_eq, Bool.not_eq_true', Bool.not_eq_false', ne_eq, Int.not_lt, Int.not_le, ge_iff_le, gt_iff_lt] at h19
                      all_goals (
                        refine HC_seq fun K20 hK20 => ?_
                        refine HC_region ?_
                        all_goals refine HL_r rfl rfl rfl rfl (R_assign rfl) ?_
                        all_goals refine HL_nil ?_
                        all_goals (
                          refine HQ_then ?_
                          refine hK20 _ _ _ _ ?_; clear hK20 K20
                          refine HC_ret ?_
                          refine HQ_blockR ?_
                          refine HQ_thenR ?_; clear hK17 K17
                          refine HQ_thenR ?_
                          refine HQ_blockR ?_
                          refine HQ_thenR ?_; clear hK12 K12
                          refine HQ_post rfl rfl (.cons (res_tmp rfl) .nil) (fun w1 hs1 => ?_)
                          refine ⟨?_, hs1.keep⟩
                          rw [fixT]
                          first
                            | (simp_all [resVal]; done)
                            | (rw [← hinv, List.drop_of_length_le (by omega), fixL]; simp_all [resVal]; done)
                            | (rw [← hinv]; simp_all [resVal]; done)
                          skip)
                        skip)
                    · try exact Bool.noConfusion h19
                      all_goals try simp only [decide_eq_true_eq, decide_eq_false_iff_not, beq_iff_eq, beq_eq_false_iff_ne, bne_iff_ne, bne_eq_false_iff_eq, Bool.not_eq_true', Bool.not_eq_false', ne_eq, Int.not_lt, Int.not_le, ge_iff_le, gt_iff_lt] at h19
                      all_goals (
                        refine HC_skip ?_
                        refine HQ_blockN ?_
                        refine HQ_then ?_
                        refine hK17 _ _ _ _ ?_; clear hK17 K17
                        refine HC_region ?_
                        all_goals refine HL_r rfl rfl rfl rfl (R_move rfl) ?_
                        all_goals (refine HL_r rfl rfl rfl rfl (R_pure rfl rfl rfl) ?_; refine HL_wrap_i64 (by omega) (by omega) ?_)
                        all_goals refine HL_r rfl rfl rfl rfl (R_assign rfl) ?_
                        all_goals refine HL_nil ?_
                        all_goals (
                          refine HQ_then ?_
                          exact HQ_again (i + 1) ⟨by omega, by simp_all⟩ (by omega) (.cons rfl (.cons rfl .nil)) (List.Sublist.refl _) (fun _ _ h => h)
                          skip)
                        skip)
                    skip)
                  skip)
              · try exact Bool.noConfusion h16
                all_goals try simp only [decide_eq_true_eq, decide_eq_false_iff_not, beq_iff_eq, beq_eq_false_iff_ne, bne_iff_ne, bne_eq_false_iff_eq, Bool.not_eq_true', Bool.not_eq_false', ne_eq, Int.not_lt, Int.not_le, ge_iff_le, gt_iff_lt] at h16
                all_goals (
                  refine HC_exit ?_
                  refine HQ_thenE ?_; clear hK14 K14
                  refine HQ_thenE ?_
                  refine HQ_blockE ?_
                  refine HQ_then ?_
                  refine hK12 _ _ _ _ ?_; clear hK12 K12
                  refine HC_seq fun K21 hK21 => ?_
                  refine HC_region ?_
                  all_goals refine HL_r rfl rfl rfl rfl (R_assign rfl) ?_
                  all_goals refine HL_nil ?_
                  all_goals (
                    refine HQ_then ?_
                    refine hK21 _ _ _ _ ?_; clear hK21 K21
                    refine HC_ret ?_
                    refine HQ_post rfl rfl (.cons (res_tmp rfl) .nil) (fun w1 hs1 => ?_)
                    refine ⟨?_, hs1.keep⟩
                    rw [fixT]
                    first
                      | (simp_all [resVal]; done)
                      | (rw [← hinv, List.drop_of_length_le (by omega), fixL]; simp_all [resVal]; done)
                      | (rw [← hinv]; simp_all [resVal]; done)
                    skip)
                  skip)
              skip)
            skip)
          skip)
      skip)
    skip)
set_option maxRecDepth 10000 in
theorem S_ref_Fixed {R : List (Nat × Obj)} {t : Ty} (ht : t.In R) : PureR Tryd.prog 11 [t.val].toArray (.bool (isFix t)) R := by
  have h1 := S_ref_Check ht
  have h2 := S_ref_fixed ht
  obtain ⟨k, n, p, ins⟩ := t
  refine pureR_of_HC Tryd.func11 rfl rfl fun w => ?_
  refine HC_seq fun K1 hK1 => ?_
  refine HC_region ?_
  all_goals refine HL_box (cs := #[_, _, _]) rfl rfl rfl rfl fun r1 => ?_
  all_goals refine HL_r rfl rfl rfl rfl (R_assign rfl) ?_
  all_goals refine HL_nil ?_
  all_goals (
    refine HQ_then ?_
    refine hK1 _ _ _ _ ?_; clear hK1 K1
    refine HC_seq fun K2 hK2 => ?_
    refine HC_region ?_
    all_goals refine HL_r rfl rfl rfl rfl (R_loadA (vs := [_, _, _]) rfl (known_L (k := 0) rfl) rfl rfl rfl rfl) ?_
    all_goals refine HL_callR rfl rfl rfl (enters_of Tryd.func10 (by kernel_rfl) rfl) h1 (fun q hq => Or.inr hq) ?_
    all_goals refine HL_r rfl rfl rfl rfl (R_pure rfl rfl rfl) ?_
    all_goals refine HL_r rfl rfl rfl rfl (R_move rfl) ?_
    all_goals (refine HL_case 6 rfl (fun hb3 => ?_) (fun hb3 => ?_) <;> (try simp only [decide_eq_true_eq, decide_eq_false_iff_not, beq_iff_eq, beq_eq_false_iff_ne, bne_iff_ne, bne_eq_false_iff_eq, Bool.not_eq_true', Bool.not_eq_false', ne_eq, Int.not_lt, Int.not_le, ge_iff_le, gt_iff_lt] at hb3) <;> first | (refine HL_r rfl rfl rfl rfl (R_loadA (vs := [_, _, _]) rfl (known_L (k := 0) rfl) rfl rfl rfl rfl) ?_) | (refine HL_skip rfl rfl rfl ?_))
    all_goals first
      | (refine HL_callR rfl rfl rfl (enters_of Tryd.func23 (by kernel_rfl) rfl) h2 (fun q hq => Or.inr hq) ?_)
      | (refine HL_skip rfl rfl rfl ?_)
    all_goals first
      | (refine HL_r rfl rfl rfl rfl (R_pickT rfl rfl) ?_)
      | (refine HL_r rfl rfl rfl rfl (R_pickF rfl rfl) ?_)
    all_goals refine HL_r rfl rfl rfl rfl (R_assign rfl) ?_
    all_goals refine HL_nil ?_
    all_goals (
      refine HQ_then ?_
      refine hK2 _ _ _ _ ?_; clear hK2 K2
      refine HC_ret ?_
      refine HQ_post rfl rfl (.cons (res_tmp rfl) .nil) (fun w1 hs1 => ?_)
      refine ⟨?_, hs1.keep⟩
      simp_all [isFix, resVal]
      skip)
    skip)
theorem sizT_leaf {k n : Int} {p : Pl} {ins : List Ty} (h1 : k ≠ 1) (h2 : k ≠ 2) (h5 : k ≠ 5) (h3 : k ≠ 3) : sizT (.mk k n p ins) = sizL ins := by
  rw [sizT, if_neg h1, if_neg h2, if_neg h5, if_neg h3]
set_option maxRecDepth 10000 in
theorem S_ref_size {R : List (Nat × Obj)} {t : Ty} (ht : t.In R) : ∀ d : Int, 0 ≤ d → chk t d = 0 → fixT t = true → PureR Tryd.prog 24 [t.val].toArray (.int .i64 (sizT t)) R := by
  induction ht with
  | @mk k n p ins hk hn hl hs hi ih =>
  intro d hd hc hf
  have hsz := siz_le _ d hd hc hf
  have hb5 := bnd_le (show (5 - d).toNat ≤ 5 by omega)
  obtain ⟨hk8, ho, h6, hci⟩ := chk_mk hc
  rw [fixT, Bool.and_eq_true] at hf
  have hne : (k ≠ 4 ∧ k ≠ 6) ∧ k ≠ 8 := by simpa using hf.1
  have hfi := fixL_mem.1 hf.2
  have hsub : ∀ x ∈ ins, 1 ≤ sizT x := fun x hx => (siz_le x (d + 1) (by omega) (hci x hx) (hfi x hx)).1
  have hone : k = 3 → ins.length = 1 ∧ 1 ≤ n ∧ n ≤ 512 := fun h => by subst h; simp [okForm] at ho; omega
  have hbit : k = 5 → 1 ≤ n ∧ n ≤ 512 := fun h => by subst h; simp [okForm] at ho; omega
  have hdp : ∀ i, 0 ≤ sizL (ins.drop i) := fun i => Int.le_trans (by omega) (sizL_le (B := 2251799813685248) (l := ins.drop i) fun x hx => ⟨hsub x (List.mem_of_mem_drop hx), Int.le_trans (siz_le x (d + 1) (by omega) (hci x (List.mem_of_mem_drop hx)) (hfi x (List.mem_of_mem_drop hx))).2 (bnd_le (by omega))⟩).1
  refine pureR_of_HC Tryd.func24 rfl rfl fun w => ?_
  refine HC_seq fun K1 hK1 => ?_
  refine HC_region ?_
  all_goals refine HL_box (cs := #[_, _, _]) rfl rfl rfl rfl fun r1 => ?_
  all_goals refine HL_r rfl rfl rfl rfl (R_assign rfl) ?_
  all_goals refine HL_nil ?_
  all_goals (
    refine HQ_then ?_
    refine hK1 _ _ _ _ ?_; clear hK1 K1
    refine HC_seq fun K2 hK2 => ?_
    refine HC_seq fun K3 hK3 => ?_
    refine HC_region ?_
    all_goals refine HL_r rfl rfl rfl rfl (R_fieldAddr rfl rfl (by first | (simp only [Nat.zero_add, Nat.reduceAdd, Nat.reduceMul, Nat.zero_mul, Nat.mul_one, Nat.add_zero]; exact rfl) | exact rfl)) ?_
    all_goals refine HL_r rfl rfl rfl rfl (R_load rfl (known_L (k := 0) rfl) rfl rfl) ?_
    all_goals refine HL_nil ?_
    all_goals (
      refine HQ_then ?_
      refine hK3 _ _ _ _ ?_; clear hK3 K3
      refine HC_block ?_
      refine HC_seq fun K4 hK4 => ?_
      refine HC_region ?_
      all_goals refine HL_r rfl rfl rfl rfl (R_pure rfl rfl rfl) ?_
      all_goals refine HL_r rfl rfl rfl rfl (R_assign rfl) ?_
      all_goals refine HL_nil ?_
      all_goals (
        refine HQ_then ?_
        refine hK4 _ _ _ _ ?_; clear hK4 K4
        refine HC_cond rfl (fun h5 => ?_) (fun h5 => ?_)
        · try exact Bool.noConfusion h5
          all_goals try simp only [decide_eq_true_eq, decide_eq_false_iff_not, beq_iff_eq, beq_eq_false_iff_ne, bne_iff_ne, bne_eq_false_iff_eq, Bool.not_eq_true', Bool.not_eq_false', ne_eq, Int.not_lt, Int.not_le, ge_iff_le, gt_iff_lt] at h5
          all_goals (
            refine HC_seq fun K6 hK6 => ?_
            refine HC_region ?_
            all_goals refine HL_r rfl rfl rfl rfl (R_fieldAddr rfl rfl (by first | (simp only [Nat.zero_add, Nat.reduceAdd, Nat.reduceMul, Nat.zero_mul, Nat.mul_one, Nat.add_zero]; exact rfl) | exact rfl)) ?_
            all_goals refine HL_r rfl rfl rfl rfl (R_load rfl (known_L (k := 0) rfl) rfl rfl) ?_
            all_goals refine HL_r rfl rfl rfl rfl (R_assign rfl) ?_
            all_goals refine HL_nil ?_
            all_goals (
              refine HQ_then ?_
              refine hK6 _ _ _ _ ?_; clear hK6 K6
              refine HC_ret ?_
              refine HQ_blockR ?_
              refine HQ_thenR ?_; clear hK2 K2
              refine HQ_post rfl rfl (.cons (res_tmp rfl) .nil) (fun w1 hs1 => ?_)
              refine ⟨?_, hs1.keep⟩
              first
                | (rw [hyn]; rfl)
                | (rw [sizT, if_pos (by assumption)]; rfl)
                | (rw [sizT, if_neg (by assumption), if_pos (by assumption)]; rfl)
                | (rw [sizT, if_neg (by assumption), if_neg (by assumption), if_pos (by assumption)]; rfl)
                | (rw [sizT_leaf (by omega) (by omega) (by omega) (by omega), ← hinv, List.drop_of_length_le (by omega), sizL, Int.add_zero]; rfl)
              skip)
            skip)
        · try exact Bool.noConfusion h5
          all_goals try simp only [decide_eq_true_eq, decide_eq_false_iff_not, beq_iff_eq, beq_eq_false_iff_ne, bne_iff_ne, bne_eq_false_iff_eq, Bool.not_eq_true', Bool.not_eq_false', ne_eq, Int.not_lt, Int.not_le, ge_iff_le, gt_iff_lt] at h5
          all_goals (
            refine HC_seq fun K7 hK7 => ?_
            refine HC_region ?_
            all_goals refine HL_r rfl rfl rfl rfl (R_pure rfl rfl rfl) ?_
            all_goals refine HL_r rfl rfl rfl rfl (R_assign rfl) ?_
            all_goals refine HL_nil ?_
            all_goals (
              refine HQ_then ?_
              refine hK7 _ _ _ _ ?_; clear hK7 K7
              refine HC_cond rfl (fun h8 => ?_) (fun h8 => ?_)
              · try exact Bool.noConfusion h8
                all_goals try simp only [decide_eq_true_eq, decide_eq_false_iff_not, beq_iff_eq, beq_eq_false_iff_ne, bne_iff_ne, bne_eq_false_iff_eq, Bool.not_eq_true', Bool.not_eq_false', ne_eq, Int.not_lt, Int.not_le, ge_iff_le, gt_iff_lt] at h8
                all_goals (
                  refine HC_seq fun K9 hK9 => ?_
                  refine HC_region ?_
                  all_goals refine HL_r rfl rfl rfl rfl (R_assign rfl) ?_
                  all_goals refine HL_nil ?_
                  all_goals (
                    refine HQ_then ?_
                    refine hK9 _ _ _ _ ?_; clear hK9 K9
                    refine HC_ret ?_
                    refine HQ_blockR ?_
                    refine HQ_thenR ?_; clear hK2 K2
                    refine HQ_post rfl rfl (.cons (res_tmp rfl) .nil) (fun w1 hs1 => ?_)
                    refine ⟨?_, hs1.keep⟩
                    first
                      | (rw [hyn]; rfl)
                      | (rw [sizT, if_pos (by assumption)]; rfl)
                      | (rw [sizT, if_neg (by assumption), if_pos (by assumption)]; rfl)
                      | (rw [sizT, if_neg (by assumption), if_neg (by assumption), if_pos (by assumption)]; rfl)
                      | (rw [sizT_leaf (by omega) (by omega) (by omega) (by omega), ← hinv, List.drop_of_length_le (by omega), sizL, Int.add_zero]; rfl)
                    skip)
                  skip)
              · try exact Bool.noConfusion h8
                all_goals try simp only [decide_eq_true_eq, decide_eq_false_iff_not, beq_iff_eq, beq_eq_false_iff_ne, bne_iff_ne, bne_eq_false_iff_eq, Bool.not_eq_true', Bool.not_eq_false', ne_eq, Int.not_lt, Int.not_le, ge_iff_le, gt_iff_lt] at h8
                all_goals (
                  refine HC_seq fun K10 hK10 => ?_
                  refine HC_region ?_
                  all_goals refine HL_r rfl rfl rfl rfl (R_pure rfl rfl rfl) ?_
                  all_goals refine HL_r rfl rfl rfl rfl (R_assign rfl) ?_
                  all_goals refine HL_nil ?_
                  all_goals (
                    refine HQ_then ?_
                    refine hK10 _ _ _ _ ?_; clear hK10 K10
                    refine HC_cond rfl (fun h11 => ?_) (fun h11 => ?_)
                    · try exact Bool.noConfusion h11
                      all_goals try simp only [decide_eq_true_eq, decide_eq_false_iff_not, beq_iff_eq, beq_eq_false_iff_ne, bne_iff_ne, bne_eq_false_iff_eq, Bool.not_eq_true', Bool.not_eq_false', ne_eq, Int.not_lt, Int.not_le, ge_iff_le, gt_iff_lt] at h11
                      all_goals (
                        refine HC_seq fun K12 hK12 => ?_
                        refine HC_region ?_
                        all_goals refine HL_r rfl rfl rfl rfl (R_fieldAddr rfl rfl (by first | (simp only [Nat.zero_add, Nat.reduceAdd, Nat.reduceMul, Nat.zero_mul, Nat.mul_one, Nat.add_zero]; exact rfl) | exact rfl)) ?_
                        all_goals refine HL_r rfl rfl rfl rfl (R_load rfl (known_L (k := 0) rfl) rfl rfl) ?_
                        all_goals (refine HL_r rfl rfl rfl rfl (R_pure rfl rfl rfl) ?_; refine HL_wrap_i64 (by omega) (by omega) ?_)
                        all_goals (refine HL_r rfl rfl rfl rfl (R_pure rfl rfl rfl) ?_; refine HL_quo (by omega) (by omega) (by omega) ?_)
                        all_goals refine HL_r rfl rfl rfl rfl (R_assign rfl) ?_
                        all_goals refine HL_nil ?_
                        all_goals (
                          refine HQ_then ?_
                          refine hK12 _ _ _ _ ?_; clear hK12 K12
                          refine HC_ret ?_
                          refine HQ_blockR ?_
                          refine HQ_thenR ?_; clear hK2 K2
                          refine HQ_post rfl rfl (.cons (res_tmp rfl) .nil) (fun w1 hs1 => ?_)
                          refine ⟨?_, hs1.keep⟩
                          first
                            | (rw [hyn]; rfl)
                            | (rw [sizT, if_pos (by assumption)]; rfl)
                            | (rw [sizT, if_neg (by assumption), if_pos (by assumption)]; rfl)
                            | (rw [sizT, if_neg (by assumption), if_neg (by assumption), if_pos (by assumption)]; rfl)
                            | (rw [sizT_leaf (by omega) (by omega) (by omega) (by omega), ← hinv, List.drop_of_length_le (by omega), sizL, Int.add_zero]; rfl)
                          skip)
                        skip)
                    · try exact Bool.noConfusion h11
                      all_goals try simp only [decide_eq_true_eq, decide_eq_false_iff_not, beq_iff_eq, beq_eq_false_iff_ne, bne_iff_ne, bne_eq_false_iff_eq, Bool.not_eq_true', Bool.not_eq_false', ne_eq, Int.not_lt, Int.not_le, ge_iff_le, gt_iff_lt] at h11
                      all_goals (
                        refine HC_seq fun K13 hK13 => ?_
                        refine HC_region ?_
                        all_goals refine HL_r rfl rfl rfl rfl (R_pure rfl rfl rfl) ?_
                        all_goals refine HL_r rfl rfl rfl rfl (R_assign rfl) ?_
                        all_goals refine HL_nil ?_
                        all_goals (
                          refine HQ_then ?_
                          refine hK13 _ _ _ _ ?_; clear hK13 K13
                          refine HC_cond rfl (fun h14 => ?_) (fun h14 => ?_)
                          · try exact Bool.noConfusion h14
                            all_goals try simp only [decide_eq_true_eq, decide_eq_false_iff_not, beq_iff_eq, beq_eq_false_iff_ne, bne_iff_ne, bne_eq_false_iff_eq, Bool.not_eq_true', Bool.not_eq_false', ne_eq, Int.not_lt, Int.not_le, ge_iff_le, gt_iff_lt] at h14
                            all_goals (
                              refine HC_seq fun K15 hK15 => ?_
                              obtain ⟨y, hy, hmem⟩ := getI (show 0 < ins.length by have := hone (by assumption); omega)
                              have hyn : sizT (.mk k n p ins) = n * sizT y := by
                                have h1 := hone (by assumption)
                                rw [sizT, if_neg (by omega), if_neg (by omega), if_neg (by omega), if_pos (by assumption), show ins = [y] from by
                                  match ins, h1.1, hy with
                                  | [z], _, hy => simp at hy; rw [hy], sizL, sizL, Int.add_zero]
                              rw [hyn] at hsz
                              refine HC_draw 9 (by kernel_rfl) (by kernel_rfl) ?_
                              all_goals refine HD_r rfl rfl rfl (R_fieldAddr rfl rfl (by first | (simp only [Nat.zero_add, Nat.reduceAdd, Nat.reduceMul, Nat.zero_mul, Nat.mul_one, Nat.add_zero]; exact rfl) | exact rfl)) ?_
                              all_goals refine HD_r rfl rfl rfl (R_load rfl (known_L (k := 0) rfl) rfl rfl) ?_
                              all_goals refine HD_r rfl rfl rfl (R_fieldAddr rfl rfl (by first | (simp only [Nat.zero_add, Nat.reduceAdd, Nat.reduceMul, Nat.zero_mul, Nat.mul_one, Nat.add_zero]; exact rfl) | exact rfl)) ?_
                              all_goals refine HD_r rfl rfl rfl (R_load rfl (known_L (k := 0) rfl) rfl rfl) ?_
                              all_goals refine HD_r rfl rfl rfl (R_indexPl (j := 0) rfl hs rfl rfl rfl rfl (by omega)) ?_
                              all_goals refine HD_r rfl rfl rfl (R_loadTy (fun q hq => Or.inr hq) rfl hs hy rfl rfl) ?_
                              all_goals refine HD_callR rfl rfl rfl (enters_of Tryd.func24 (by kernel_rfl) rfl) (ih y hmem (d + 1) (by omega) (hci y hmem) (hfi y hmem)) (fun q hq => Or.inr hq) ?_
                              all_goals refine HD_r rfl rfl rfl (R_pure rfl rfl rfl) ?_; refine HD_as (show _ = Value.int .i64 (n * sizT y) from congrArg (Value.int .i64) (wrap_i64 (by omega) (by omega))) ?_
                              all_goals refine HD_r rfl rfl rfl (R_assign rfl) ?_
                              all_goals refine HD_end ?_
                              all_goals refine HL_nil ?_
                              all_goals (
                                refine HQ_then ?_
                                refine hK15 _ _ _ _ ?_; clear hK15 K15
                                refine HC_ret ?_
                                refine HQ_blockR ?_
                                refine HQ_thenR ?_; clear hK2 K2
                                refine HQ_post rfl rfl (.cons (res_tmp rfl) .nil) (fun w1 hs1 => ?_)
                                refine ⟨?_, hs1.keep⟩
                                first
                                  | (rw [hyn]; rfl)
                                  | (rw [sizT, if_pos (by assumption)]; rfl)
                                  | (rw [sizT, if_neg (by assumption), if_pos (by assumption)]; rfl)
                                  | (rw [sizT, if_neg (by assumption), if_neg (by assumption), if_pos (by assumption)]; rfl)
                                  | (rw [sizT_leaf (by omega) (by omega) (by omega) (by omega), ← hinv, List.drop_of_length_le (by omega), sizL, Int.add_zero]; rfl)
                                skip)
                              skip)
                          · try exact Bool.noConfusion h14
                            all_goals try simp only [decide_eq_true_eq, decide_eq_false_iff_not, beq_iff_eq, beq_eq_false_iff_ne, bne_iff_ne, bne_eq_false_iff_eq, Bool.not_eq_true', Bool.not_eq_false', ne_eq, Int.not_lt, Int.not_le, ge_iff_le, gt_iff_lt] at h14
                            all_goals (
                              refine HC_skip ?_
                              refine HQ_blockN ?_
                              refine HQ_then ?_
                              refine hK2 _ _ _ _ ?_; clear hK2 K2
                              refine HC_seq fun K16 hK16 => ?_
                              refine HC_region ?_
                              all_goals refine HL_r rfl rfl rfl rfl (R_assign rfl) ?_
                              all_goals refine HL_nil ?_
                              all_goals (
                                refine HQ_then ?_
                                refine hK16 _ _ _ _ ?_; clear hK16 K16
                                refine HC_seq fun K17 hK17 => ?_
                                refine HC_seq fun K18 hK18 => ?_
                                refine HC_region ?_
                                all_goals refine HL_r rfl rfl rfl rfl (R_assign rfl) ?_
                                all_goals refine HL_nil ?_
                                all_goals (
                                  refine HQ_then ?_
                                  refine hK18 _ _ _ _ ?_; clear hK18 K18
                                  refine HC_block ?_
                                  refine HC_loop (σ := Nat × Int) (fun s => s.1 ≤ ins.length ∧ 0 ≤ s.2 ∧ s.2 + sizL (ins.drop s.1) = sizL ins) (fun s => [(1, .pointer (some ⟨r1, 0, none⟩)), (3, .int .i64 s.2), (4, .int .i64 (s.1 : Int))]) (fun _ => [(r1, .cells #[.int .i64 k, .int .i64 n, plV ins.length p] 24 (0, 0))]) (fun _ _ _ => True) (fun s => ins.length - s.1) (0, 0) ⟨by omega, by omega, by simp⟩ (.cons rfl (.cons rfl (.cons rfl .nil))) (List.Sublist.refl _) (fun _ _ h => h) ?_
                                  rintro ⟨i, m⟩ ⟨hi1, hm, hinv⟩
                                  simp only at hinv hi1 hm
                                  refine HC_seq fun K19 hK19 => ?_
                                  refine HC_seq fun K20 hK20 => ?_
                                  refine HC_region ?_
                                  all_goals refine HL_r rfl rfl rfl rfl (R_move rfl) ?_
                                  all_goals refine HL_r rfl rfl rfl rfl (R_fieldAddr rfl rfl (by first | (simp only [Nat.zero_add, Nat.reduceAdd, Nat.reduceMul, Nat.zero_mul, Nat.mul_one, Nat.add_zero]; exact rfl) | exact rfl)) ?_
                                  all_goals refine HL_r rfl rfl rfl rfl (R_load rfl (known_L (k := 0) rfl) rfl rfl) ?_
                                  all_goals (refine HL_r rfl rfl rfl rfl (R_lenPl rfl hs rfl) ?_)
                                  all_goals refine HL_r rfl rfl rfl rfl (R_pure rfl rfl rfl) ?_
                                  all_goals refine HL_nil ?_
                                  all_goals (
                                    refine HQ_then ?_
                                    refine hK20 _ _ _ _ ?_; clear hK20 K20
                                    refine HC_cond rfl (fun h21 => ?_) (fun h21 => ?_)
                                    · try exact Bool.noConfusion h21
                                      all_goals try simp only [decide_eq_true_eq, decide_eq_false_iff_not, beq_iff_eq, beq_eq_false_iff_ne, bne_iff_ne, bne_eq_false_iff_eq, Bool.not_eq_true', Bool.not_eq_false', ne_eq, Int.not_lt, Int.not_le, ge_iff_le, gt_iff_lt] at h21
                                      all_goals (
                                        refine HC_skip ?_
                                        refine HQ_then ?_
                                        refine hK19 _ _ _ _ ?_; clear hK19 K19
                                        refine HC_seq fun K22 hK22 => ?_
                                        refine HC_block ?_
                                        obtain ⟨y, hy, hmem⟩ := getI (show i < ins.length by omega)
                                        have hdi := hdp (i + 1)
                                        have hyp := hsub y hmem
                                        rw [dropI hy, sizL] at hinv
                                        rw [sizT_leaf (by omega) (by omega) (by omega) (by omega)] at hsz
                                        refine HC_region ?_
                                        all_goals refine HL_r rfl rfl rfl rfl (R_move rfl) ?_
                                        all_goals refine HL_r rfl rfl rfl rfl (R_fieldAddr rfl rfl (by first | (simp only [Nat.zero_add, Nat.reduceAdd, Nat.reduceMul, Nat.zero_mul, Nat.mul_one, Nat.add_zero]; exact rfl) | exact rfl)) ?_
                                        all_goals refine HL_r rfl rfl rfl rfl (R_load rfl (known_L (k := 0) rfl) rfl rfl) ?_
                                        all_goals refine HL_r rfl rfl rfl rfl (R_move rfl) ?_
                                        all_goals refine HL_r rfl rfl rfl rfl (R_indexPl (j := i) rfl hs rfl rfl rfl rfl (by omega)) ?_
                                        all_goals refine HL_r rfl rfl rfl rfl (R_loadTy (fun q hq => Or.inr hq) rfl hs hy rfl rfl) ?_
                                        all_goals refine HL_callR rfl rfl rfl (enters_of Tryd.func24 (by kernel_rfl) rfl) (ih y hmem (d + 1) (by omega) (hci y hmem) (hfi y hmem)) (fun q hq => Or.inr hq) ?_
                                        all_goals (refine HL_r rfl rfl rfl rfl (R_pure rfl rfl rfl) ?_; refine HL_wrap_i64 (by omega) (by omega) ?_)
                                        all_goals refine HL_r rfl rfl rfl rfl (R_assign rfl) ?_
                                        all_goals refine HL_nil ?_
                                        all_goals (
                                          refine HQ_blockN ?_
                                          refine HQ_then ?_
                                          refine hK22 _ _ _ _ ?_; clear hK22 K22
                                          refine HC_region ?_
                                          all_goals refine HL_r rfl rfl rfl rfl (R_move rfl) ?_
                                          all_goals (refine HL_r rfl rfl rfl rfl (R_pure rfl rfl rfl) ?_; refine HL_wrap_i64 (by omega) (by omega) ?_)
                                          all_goals refine HL_r rfl rfl rfl rfl (R_assign rfl) ?_
                                          all_goals refine HL_nil ?_
                                          all_goals (
                                            refine HQ_then ?_
                                            exact HQ_again (i + 1, m + sizT y) ⟨by omega, by simp only; omega, by simp only; omega⟩ (by simp only; omega) (.cons rfl (.cons rfl (.cons rfl .nil))) (List.Sublist.refl _) (fun _ _ h => h)
                                            skip)
                                          skip)
                                        skip)
                                    · try exact Bool.noConfusion h21
                                      all_goals try simp only [decide_eq_true_eq, decide_eq_false_iff_not, beq_iff_eq, beq_eq_false_iff_ne, bne_iff_ne, bne_eq_false_iff_eq, Bool.not_eq_true', Bool.not_eq_false', ne_eq, Int.not_lt, Int.not_le, ge_iff_le, gt_iff_lt] at h21
                                      all_goals (
                                        refine HC_exit ?_
                                        refine HQ_thenE ?_; clear hK19 K19
                                        refine HQ_thenE ?_
                                        refine HQ_blockE ?_
                                        refine HQ_then ?_
                                        refine hK17 _ _ _ _ ?_; clear hK17 K17
                                        refine HC_seq fun K23 hK23 => ?_
                                        refine HC_region ?_
                                        all_goals refine HL_r rfl rfl rfl rfl (R_move rfl) ?_
                                        all_goals refine HL_r rfl rfl rfl rfl (R_assign rfl) ?_
                                        all_goals refine HL_nil ?_
                                        all_goals (
                                          refine HQ_then ?_
                                          refine hK23 _ _ _ _ ?_; clear hK23 K23
                                          refine HC_ret ?_
                                          refine HQ_post rfl rfl (.cons (res_tmp rfl) .nil) (fun w1 hs1 => ?_)
                                          refine ⟨?_, hs1.keep⟩
                                          first
                                            | (rw [hyn]; rfl)
                                            | (rw [sizT, if_pos (by assumption)]; rfl)
                                            | (rw [sizT, if_neg (by assumption), if_pos (by assumption)]; rfl)
                                            | (rw [sizT, if_neg (by assumption), if_neg (by assumption), if_pos (by assumption)]; rfl)
                                            | (rw [sizT_leaf (by omega) (by omega) (by omega) (by omega), ← hinv, List.drop_of_length_le (by omega), sizL, Int.add_zero]; rfl)
                                          skip)
                                        skip)
                                    skip)
                                  skip)
                                skip)
                              skip)
                          skip)
                        skip)
                    skip)
                  skip)
              skip)
            skip)
        skip)
      skip)
    skip)
theorem isFix_iff {t : Ty} : isFix t = true ↔ chk t 0 = 0 ∧ fixT t = true := by unfold isFix; simp
set_option maxRecDepth 10000 in
theorem S_ref_Size {R : List (Nat × Obj)} {t : Ty} (ht : t.In R) : PureR Tryd.prog 12 [t.val].toArray (.int .i64 (sizeT t)) R := by
  have h1 := S_ref_Fixed ht
  have h2 := S_ref_size ht 0 (by omega)
  obtain ⟨k, n, p, ins⟩ := t
  refine pureR_of_HC Tryd.func12 rfl rfl fun w => ?_
  refine HC_seq fun K1 hK1 => ?_
  refine HC_region ?_
  all_goals refine HL_box (cs := #[_, _, _]) rfl rfl rfl rfl fun r1 => ?_
  all_goals refine HL_r rfl rfl rfl rfl (R_assign rfl) ?_
  all_goals refine HL_nil ?_
  all_goals (
    refine HQ_then ?_
    refine hK1 _ _ _ _ ?_; clear hK1 K1
    refine HC_seq fun K2 hK2 => ?_
    refine HC_seq fun K3 hK3 => ?_
    refine HC_region ?_
    all_goals refine HL_r rfl rfl rfl rfl (R_loadA (vs := [_, _, _]) rfl (known_L (k := 0) rfl) rfl rfl rfl rfl) ?_
    all_goals refine HL_callR rfl rfl rfl (enters_of Tryd.func11 (by kernel_rfl) rfl) h1 (fun q hq => Or.inr hq) ?_
    all_goals refine HL_r rfl rfl rfl rfl (R_pure rfl rfl rfl) ?_
    all_goals refine HL_nil ?_
    all_goals (
      refine HQ_then ?_
      refine hK3 _ _ _ _ ?_; clear hK3 K3
      refine HC_cond rfl (fun h4 => ?_) (fun h4 => ?_)
      · try exact Bool.noConfusion h4
        all_goals try simp only [decide_eq_true_eq, decide_eq_false_iff_not, beq_iff_eq, beq_eq_false_iff_ne, bne_iff_ne, bne_eq_false_iff_eq, Bool.not_eq_true', Bool.not_eq_false', ne_eq, Int.not_lt, Int.not_le, ge_iff_le, gt_iff_lt] at h4
        all_goals (
          refine HC_seq fun K5 hK5 => ?_
          refine HC_region ?_
          all_goals refine HL_r rfl rfl rfl rfl (R_assign rfl) ?_
          all_goals refine HL_nil ?_
          all_goals (
            refine HQ_then ?_
            refine hK5 _ _ _ _ ?_; clear hK5 K5
            refine HC_ret ?_
            refine HQ_thenR ?_; clear hK2 K2
            refine HQ_post rfl rfl (.cons (res_tmp rfl) .nil) (fun w1 hs1 => ?_)
            refine ⟨?_, hs1.keep⟩
            simp_all [sizeT, resVal]
            skip)
          skip)
      · try exact Bool.noConfusion h4
        all_goals try simp only [decide_eq_true_eq, decide_eq_false_iff_not, beq_iff_eq, beq_eq_false_iff_ne, bne_iff_ne, bne_eq_false_iff_eq, Bool.not_eq_true', Bool.not_eq_false', ne_eq, Int.not_lt, Int.not_le, ge_iff_le, gt_iff_lt] at h4
        all_goals (
          refine HC_skip ?_
          refine HQ_then ?_
          refine hK2 _ _ _ _ ?_; clear hK2 K2
          refine HC_seq fun K6 hK6 => ?_
          refine HC_region ?_
          all_goals refine HL_r rfl rfl rfl rfl (R_loadA (vs := [_, _, _]) rfl (known_L (k := 0) rfl) rfl rfl rfl rfl) ?_
          all_goals refine HL_callR rfl rfl rfl (enters_of Tryd.func24 (by kernel_rfl) rfl) (h2 (isFix_iff.1 (by assumption)).1 (isFix_iff.1 (by assumption)).2) (fun q hq => Or.inr hq) ?_
          all_goals refine HL_r rfl rfl rfl rfl (R_assign rfl) ?_
          all_goals refine HL_nil ?_
          all_goals (
            refine HQ_then ?_
            refine hK6 _ _ _ _ ?_; clear hK6 K6
            refine HC_ret ?_
            refine HQ_post rfl rfl (.cons (res_tmp rfl) .nil) (fun w1 hs1 => ?_)
            refine ⟨?_, hs1.keep⟩
            simp_all [sizeT, resVal]
            skip)
          skip)
      skip)
    skip)
theorem sameV_mk {a b c d a' b' c' d' : Nat} {l l' : List Bool} {pb pb' pi pi' : Pl} {m m' : List Vl} {k k' : Int} : sameV (.mk a b c d l pb m pi k) (.mk a' b' c' d' l' pb' m' pi' k') = (decide ([a, b, c, d] = [a', b', c', d']) && decide (k = k') && decide (l = l') && sameL m m') := by
  rw [sameV]; rfl
theorem bits_ne {l l' : List Bool} {i : Nat} {x y : Bool} (h1 : l[i]? = some x) (h2 : l'[i]? = some y) (h : x ≠ y) : l ≠ l' := fun e => by subst e; rw [h1] at h2; exact h (Option.some.inj h2)
theorem bits_eq {l l' : List Bool} {i : Nat} (hl : l.length = l'.length) (hi : l.length ≤ i) (h : ∀ j, j < i → l[j]? = l'[j]?) : l = l' := by
  apply List.ext_getElem?
  intro j
  by_cases hj : j < i
  · exact h j hj
  · rw [List.getElem?_eq_none (by omega), List.getElem?_eq_none (by omega)]
theorem same_ne {m m' : List Vl} {i : Nat} {x y : Vl} (h1 : m[i]? = some x) (h2 : m'[i]? = some y) (h : sameV x y = false) : sameL m m' = false := by
  cases hs : sameL m m' with
  | false => rfl
  | true => rw [(sameL_spec.1 hs).2 i x y h1 h2] at h; cases h
theorem same_ln {m m' : List Vl} (h : m.length ≠ m'.length) : sameL m m' = false := by
  cases hs : sameL m m' with
  | false => rfl
  | true => exact absurd (sameL_spec.1 hs).1 h
set_option maxRecDepth 10000 in
theorem S_ref_Same {R : List (Nat × Obj)} {u : Vl} (hu : u.In R) : ∀ v : Vl, v.In R → PureR Tryd.prog 13 [u.val, v.val].toArray (.bool (sameV u v)) R := by
  induction hu with
  | @mk a b c d bits pb items pi pick ha hb hc hd hlb hsb hl hs hp hi ih =>
  intro v hv
  cases hv with
  | @mk a' b' c' d' bits' pb' items' pi' pick' ha' hb' hc' hd' hlb' hsb' hl' hs' hp' hi' =>
  rw [sameV_mk]
  refine pureR_of_HC Tryd.func13 rfl rfl fun w => ?_
  refine HC_seq fun K1 hK1 => ?_
  refine HC_region ?_
  all_goals refine HL_box (cs := #[_, _, _, _, _, _, _]) rfl rfl rfl rfl fun r1 => ?_
  all_goals refine HL_box (cs := #[_, _, _, _, _, _, _]) rfl rfl rfl rfl fun r2 => ?_
  all_goals refine HL_r rfl rfl rfl rfl (R_assign rfl) ?_
  all_goals refine HL_nil ?_
  all_goals (
    refine HQ_then ?_
    refine hK1 _ _ _ _ ?_; clear hK1 K1
    refine HC_seq fun K2 hK2 => ?_
    refine HC_seq fun K3 hK3 => ?_
    refine HC_region ?_
    all_goals refine HL_r rfl rfl rfl rfl (R_fieldAddr rfl rfl (by first | (simp only [Nat.zero_add, Nat.reduceAdd, Nat.reduceMul, Nat.zero_mul, Nat.mul_one, Nat.add_zero]; exact rfl) | exact rfl)) ?_
    all_goals (refine HL_r rfl rfl rfl rfl (R_loadA (vs := [_, _, _, _]) rfl (known_L (k := 1) rfl) rfl rfl rfl rfl) ?_)
    all_goals refine HL_r rfl rfl rfl rfl (R_fieldAddr rfl rfl (by first | (simp only [Nat.zero_add, Nat.reduceAdd, Nat.reduceMul, Nat.zero_mul, Nat.mul_one, Nat.add_zero]; exact rfl) | exact rfl)) ?_
    all_goals (refine HL_r rfl rfl rfl rfl (R_loadA (vs := [_, _, _, _]) rfl (known_L (k := 0) rfl) rfl rfl rfl rfl) ?_)
    all_goals refine HL_r rfl rfl rfl rfl (R_neArr rfl rfl rfl rfl rfl (by kernel_rfl) rfl rfl rfl rfl) ?_
    all_goals refine HL_as (congrArg (fun z => Value.bool (!z)) (eq_mapU (a := [a, b, c, d]) (b := [a', b', c', d']) rfl)) ?_
    all_goals refine HL_r rfl rfl rfl rfl (R_move rfl) ?_
    all_goals (refine HL_case 12 rfl (fun hb4 => ?_) (fun hb4 => ?_) <;> (try simp only [decide_eq_true_eq, decide_eq_false_iff_not, beq_iff_eq, beq_eq_false_iff_ne, bne_iff_ne, bne_eq_false_iff_eq, Bool.not_eq_true', Bool.not_eq_false', ne_eq, Int.not_lt, Int.not_le, ge_iff_le, gt_iff_lt] at hb4) <;> first | (refine HL_r rfl rfl rfl rfl (R_fieldAddr rfl rfl (by first | (simp only [Nat.zero_add, Nat.reduceAdd, Nat.reduceMul, Nat.zero_mul, Nat.mul_one, Nat.add_zero]; exact rfl) | exact rfl)) ?_) | (refine HL_skip rfl rfl rfl ?_))
    all_goals first
      | (refine HL_r rfl rfl rfl rfl (R_load rfl (known_L (k := 1) rfl) rfl rfl) ?_)
      | (refine HL_skip rfl rfl rfl ?_)
    all_goals first
      | (refine HL_r rfl rfl rfl rfl (R_fieldAddr rfl rfl (by first | (simp only [Nat.zero_add, Nat.reduceAdd, Nat.reduceMul, Nat.zero_mul, Nat.mul_one, Nat.add_zero]; exact rfl) | exact rfl)) ?_)
      | (refine HL_skip rfl rfl rfl ?_)
    all_goals first
      | (refine HL_r rfl rfl rfl rfl (R_load rfl (known_L (k := 0) rfl) rfl rfl) ?_)
      | (refine HL_skip rfl rfl rfl ?_)
    all_goals first
      | (refine HL_r rfl rfl rfl rfl (R_pure rfl rfl rfl) ?_)
      | (refine HL_skip rfl rfl rfl ?_)
    all_goals first
      | (refine HL_r rfl rfl rfl rfl (R_pickT rfl rfl) ?_)
      | (refine HL_r rfl rfl rfl rfl (R_pickF rfl rfl) ?_)
    all_goals refine HL_r rfl rfl rfl rfl (R_move rfl) ?_
    all_goals first
      | (refine HL_skip rfl rfl rfl ?_)
      | (refine HL_case 19 rfl (fun hb9 => ?_) (fun hb9 => ?_) <;> (try simp only [decide_eq_true_eq, decide_eq_false_iff_not, beq_iff_eq, beq_eq_false_iff_ne, bne_iff_ne, bne_eq_false_iff_eq, Bool.not_eq_true', Bool.not_eq_false', ne_eq, Int.not_lt, Int.not_le, ge_iff_le, gt_iff_lt] at hb9) <;> first | (refine HL_r rfl rfl rfl rfl (R_fieldAddr rfl rfl (by first | (simp only [Nat.zero_add, Nat.reduceAdd, Nat.reduceMul, Nat.zero_mul, Nat.mul_one, Nat.add_zero]; exact rfl) | exact rfl)) ?_) | (refine HL_skip rfl rfl rfl ?_))
    all_goals first
      | (refine HL_r rfl rfl rfl rfl (R_load rfl (known_L (k := 1) rfl) rfl rfl) ?_)
      | (refine HL_skip rfl rfl rfl ?_)
    all_goals first
      | (refine HL_r rfl rfl rfl rfl (R_lenPl rfl hsb rfl) ?_)
      | (refine HL_skip rfl rfl rfl ?_)
    all_goals first
      | (refine HL_r rfl rfl rfl rfl (R_fieldAddr rfl rfl (by first | (simp only [Nat.zero_add, Nat.reduceAdd, Nat.reduceMul, Nat.zero_mul, Nat.mul_one, Nat.add_zero]; exact rfl) | exact rfl)) ?_)
      | (refine HL_skip rfl rfl rfl ?_)
    all_goals first
      | (refine HL_r rfl rfl rfl rfl (R_load rfl (known_L (k := 0) rfl) rfl rfl) ?_)
      | (refine HL_skip rfl rfl rfl ?_)
    all_goals first
      | (refine HL_r rfl rfl rfl rfl (R_lenPl rfl hsb' rfl) ?_)
      | (refine HL_skip rfl rfl rfl ?_)
    all_goals first
      | (refine HL_r rfl rfl rfl rfl (R_pure rfl rfl rfl) ?_)
      | (refine HL_skip rfl rfl rfl ?_)
    all_goals first
      | (refine HL_r rfl rfl rfl rfl (R_pickT rfl rfl) ?_)
      | (refine HL_r rfl rfl rfl rfl (R_pickF rfl rfl) ?_)
    all_goals refine HL_r rfl rfl rfl rfl (R_move rfl) ?_
    all_goals first
      | (refine HL_skip rfl rfl rfl ?_)
      | (refine HL_case 28 rfl (fun hb16 => ?_) (fun hb16 => ?_) <;> (try simp only [decide_eq_true_eq, decide_eq_false_iff_not, beq_iff_eq, beq_eq_false_iff_ne, bne_iff_ne, bne_eq_false_iff_eq, Bool.not_eq_true', Bool.not_eq_false', ne_eq, Int.not_lt, Int.not_le, ge_iff_le, gt_iff_lt] at hb16) <;> first | (refine HL_r rfl rfl rfl rfl (R_fieldAddr rfl rfl (by first | (simp only [Nat.zero_add, Nat.reduceAdd, Nat.reduceMul, Nat.zero_mul, Nat.mul_one, Nat.add_zero]; exact rfl) | exact rfl)) ?_) | (refine HL_skip rfl rfl rfl ?_))
    all_goals first
      | (refine HL_r rfl rfl rfl rfl (R_load rfl (known_L (k := 1) rfl) rfl rfl) ?_)
      | (refine HL_skip rfl rfl rfl ?_)
    all_goals first
      | (refine HL_r rfl rfl rfl rfl (R_lenPl rfl hs rfl) ?_)
      | (refine HL_skip rfl rfl rfl ?_)
    all_goals first
      | (refine HL_r rfl rfl rfl rfl (R_fieldAddr rfl rfl (by first | (simp only [Nat.zero_add, Nat.reduceAdd, Nat.reduceMul, Nat.zero_mul, Nat.mul_one, Nat.add_zero]; exact rfl) | exact rfl)) ?_)
      | (refine HL_skip rfl rfl rfl ?_)
    all_goals first
      | (refine HL_r rfl rfl rfl rfl (R_load rfl (known_L (k := 0) rfl) rfl rfl) ?_)
      | (refine HL_skip rfl rfl rfl ?_)
    all_goals first
      | (refine HL_r rfl rfl rfl rfl (R_lenPl rfl hs' rfl) ?_)
      | (refine HL_skip rfl rfl rfl ?_)
    all_goals first
      | (refine HL_r rfl rfl rfl rfl (R_pure rfl rfl rfl) ?_)
      | (refine HL_skip rfl rfl rfl ?_)
    all_goals first
      | (refine HL_r rfl rfl rfl rfl (R_pickT rfl rfl) ?_)
      | (refine HL_r rfl rfl rfl rfl (R_pickF rfl rfl) ?_)
    all_goals refine HL_nil ?_
    all_goals (
      refine HQ_then ?_
      refine hK3 _ _ _ _ ?_; clear hK3 K3
      refine HC_cond rfl (fun h23 => ?_) (fun h23 => ?_)
      · try exact Bool.noConfusion h23
        all_goals try simp only [decide_eq_true_eq, decide_eq_false_iff_not, beq_iff_eq, beq_eq_false_iff_ne, bne_iff_ne, bne_eq_false_iff_eq, Bool.not_eq_true', Bool.not_eq_false', ne_eq, Int.not_lt, Int.not_le, ge_iff_le, gt_iff_lt] at h23
        all_goals (
          refine HC_seq fun K24 hK24 => ?_
          refine HC_region ?_
          all_goals refine HL_r rfl rfl rfl rfl (R_assign rfl) ?_
          all_goals refine HL_nil ?_
          all_goals (
            refine HQ_then ?_
            refine hK24 _ _ _ _ ?_; clear hK24 K24
            refine HC_ret ?_
            refine HQ_thenR ?_; clear hK2 K2
            refine HQ_post rfl rfl (.cons (res_tmp rfl) .nil) (fun w1 hs1 => ?_)
            refine ⟨?_, hs1.keep⟩
            first
              | (have hse : sameL items items' = true := sameL_spec.2 ⟨hl2, fun q x y hx hy => hinv2 q (by have := (List.getElem?_eq_some_iff.1 hx).1; omega) x y hx hy⟩
                 simp_all [resVal]; done)
              | (have hse : sameL items items' = false := same_ne hx hy (by assumption)
                 simp [resVal, hse]; done)
              | (have hse : bits ≠ bits' := bits_ne hx hy (by assumption)
                 simp [resVal, hse]; done)
              | (have hse : sameL items items' = false := same_ln (by omega)
                 simp [resVal, hse]; done)
              | (have hse : bits ≠ bits' := fun e => by subst e; omega
                 simp [resVal, hse]; done)
              | (simp_all [resVal]; done)
            skip)
          skip)
      · try exact Bool.noConfusion h23
        all_goals try simp only [decide_eq_true_eq, decide_eq_false_iff_not, beq_iff_eq, beq_eq_false_iff_ne, bne_iff_ne, bne_eq_false_iff_eq, Bool.not_eq_true', Bool.not_eq_false', ne_eq, Int.not_lt, Int.not_le, ge_iff_le, gt_iff_lt] at h23
        all_goals (
          refine HC_skip ?_
          refine HQ_then ?_
          refine hK2 _ _ _ _ ?_; clear hK2 K2
          refine HC_seq fun K25 hK25 => ?_
          refine HC_seq fun K26 hK26 => ?_
          refine HC_region ?_
          all_goals refine HL_r rfl rfl rfl rfl (R_assign rfl) ?_
          all_goals refine HL_nil ?_
          all_goals (
            refine HQ_then ?_
            refine hK26 _ _ _ _ ?_; clear hK26 K26
            refine HC_block ?_
            have hlb2 : bits.length = bits'.length := by omega
            have hl2 : items.length = items'.length := by omega
            refine HC_loop (σ := Nat) (fun i => i ≤ bits.length ∧ ∀ j, j < i → bits[j]? = bits'[j]?) (fun i => [(2, .pointer (some ⟨r1, 0, none⟩)), (3, .pointer (some ⟨r2, 0, none⟩)), (5, .int .i64 (i : Int))]) (fun _ => [(r2, .cells #[uV a', uV b', uV c', uV d', plV bits'.length pb', plV items'.length pi', .int .i64 pick'] 31 (0, 0)), (r1, .cells #[uV a, uV b, uV c, uV d, plV bits.length pb, plV items.length pi, .int .i64 pick] 31 (0, 0))]) (fun _ _ _ => True) (fun i => bits.length - i) 0 ⟨by omega, fun j hj => absurd hj (by omega)⟩ (.cons rfl (.cons rfl (.cons rfl .nil))) (List.Sublist.refl _) (fun _ _ h => h) ?_
            rintro i ⟨hi1, hinv⟩
            refine HC_seq fun K27 hK27 => ?_
            refine HC_seq fun K28 hK28 => ?_
            refine HC_region ?_
            all_goals refine HL_r rfl rfl rfl rfl (R_move rfl) ?_
            all_goals refine HL_r rfl rfl rfl rfl (R_fieldAddr rfl rfl (by first | (simp only [Nat.zero_add, Nat.reduceAdd, Nat.reduceMul, Nat.zero_mul, Nat.mul_one, Nat.add_zero]; exact rfl) | exact rfl)) ?_
            all_goals (refine HL_r rfl rfl rfl rfl (R_load rfl (known_L (k := 1) rfl) rfl rfl) ?_)
            all_goals (refine HL_r rfl rfl rfl rfl (R_lenPl rfl hsb rfl) ?_)
            all_goals refine HL_r rfl rfl rfl rfl (R_pure rfl rfl rfl) ?_
            all_goals refine HL_nil ?_
            all_goals (
              refine HQ_then ?_
              refine hK28 _ _ _ _ ?_; clear hK28 K28
              refine HC_cond rfl (fun h29 => ?_) (fun h29 => ?_)
              · try exact Bool.noConfusion h29
                all_goals try simp only [decide_eq_true_eq, decide_eq_false_iff_not, beq_iff_eq, beq_eq_false_iff_ne, bne_iff_ne, bne_eq_false_iff_eq, Bool.not_eq_true', Bool.not_eq_false', ne_eq, Int.not_lt, Int.not_le, ge_iff_le, gt_iff_lt] at h29
                all_goals (
                  refine HC_skip ?_
                  refine HQ_then ?_
                  refine hK27 _ _ _ _ ?_; clear hK27 K27
                  refine HC_seq fun K30 hK30 => ?_
                  refine HC_block ?_
                  refine HC_seq fun K31 hK31 => ?_
                  obtain ⟨x, hx, hmx⟩ := getI (show i < bits.length by omega)
                  obtain ⟨y, hy, hmy⟩ := getI (show i < bits'.length by omega)
                  refine HC_draw 11 (by kernel_rfl) (by kernel_rfl) ?_
                  all_goals refine HD_r rfl rfl rfl (R_fieldAddr rfl rfl (by first | (simp only [Nat.zero_add, Nat.reduceAdd, Nat.reduceMul, Nat.zero_mul, Nat.mul_one, Nat.add_zero]; exact rfl) | exact rfl)) ?_
                  all_goals (refine HD_r rfl rfl rfl (R_load rfl (known_L (k := 1) rfl) rfl rfl) ?_)
                  all_goals refine HD_r rfl rfl rfl (R_move rfl) ?_
                  all_goals refine HD_r rfl rfl rfl (R_indexPl (j := i) rfl hsb rfl rfl rfl rfl (by omega)) ?_
                  all_goals refine HD_r rfl rfl rfl (R_loadBit (fun q hq => Or.inr hq) rfl hsb hx rfl) ?_
                  all_goals refine HD_r rfl rfl rfl (R_fieldAddr rfl rfl (by first | (simp only [Nat.zero_add, Nat.reduceAdd, Nat.reduceMul, Nat.zero_mul, Nat.mul_one, Nat.add_zero]; exact rfl) | exact rfl)) ?_
                  all_goals (refine HD_r rfl rfl rfl (R_load rfl (known_L (k := 0) rfl) rfl rfl) ?_)
                  all_goals refine HD_r rfl rfl rfl (R_move rfl) ?_
                  all_goals refine HD_r rfl rfl rfl (R_indexPl (j := i) rfl hsb' rfl rfl rfl rfl (by omega)) ?_
                  all_goals refine HD_r rfl rfl rfl (R_loadBit (fun q hq => Or.inr hq) rfl hsb' hy rfl) ?_
                  all_goals refine HD_r rfl rfl rfl (R_pure rfl rfl rfl) ?_
                  all_goals refine HD_end ?_
                  all_goals refine HL_nil ?_
                  all_goals (
                    refine HQ_then ?_
                    refine hK31 _ _ _ _ ?_; clear hK31 K31
                    refine HC_cond rfl (fun h32 => ?_) (fun h32 => ?_)
                    · try exact Bool.noConfusion h32
                      all_goals try simp only [decide_eq_true_eq, decide_eq_false_iff_not, beq_iff_eq, beq_eq_false_iff_ne, bne_iff_ne, bne_eq_false_iff_eq, Bool.not_eq_true', Bool.not_eq_false', ne_eq, Int.not_lt, Int.not_le, ge_iff_le, gt_iff_lt] at h32
                      all_goals (
                        refine HC_seq fun K33 hK33 => ?_
                        refine HC_region ?_
                        all_goals refine HL_r rfl rfl rfl rfl (R_assign rfl) ?_
                        all_goals refine HL_nil ?_
                        all_goals (
                          refine HQ_then ?_
                          refine hK33 _ _ _ _ ?_; clear hK33 K33
                          refine HC_ret ?_
                          refine HQ_blockR ?_
                          refine HQ_thenR ?_; clear hK30 K30
                          refine HQ_thenR ?_
                          refine HQ_blockR ?_
                          refine HQ_thenR ?_; clear hK25 K25
                          refine HQ_post rfl rfl (.cons (res_tmp rfl) .nil) (fun w1 hs1 => ?_)
                          refine ⟨?_, hs1.keep⟩
                          first
                            | (have hse : sameL items items' = true := sameL_spec.2 ⟨hl2, fun q x y hx hy => hinv2 q (by have := (List.getElem?_eq_some_iff.1 hx).1; omega) x y hx hy⟩
                               simp_all [resVal]; done)
                            | (have hse : sameL items items' = false := same_ne hx hy (by assumption)
                               simp [resVal, hse]; done)
                            | (have hse : bits ≠ bits' := bits_ne hx hy (by assumption)
                               simp [resVal, hse]; done)
                            | (have hse : sameL items items' = false := same_ln (by omega)
                               simp [resVal, hse]; done)
                            | (have hse : bits ≠ bits' := fun e => by subst e; omega
                               simp [resVal, hse]; done)
                            | (simp_all [resVal]; done)
                          skip)
                        skip)
                    · try exact Bool.noConfusion h32
                      all_goals try simp only [decide_eq_true_eq, decide_eq_false_iff_not, beq_iff_eq, beq_eq_false_iff_ne, bne_iff_ne, bne_eq_false_iff_eq, Bool.not_eq_true', Bool.not_eq_false', ne_eq, Int.not_lt, Int.not_le, ge_iff_le, gt_iff_lt] at h32
                      all_goals (
                        refine HC_skip ?_
                        refine HQ_blockN ?_
                        refine HQ_then ?_
                        refine hK30 _ _ _ _ ?_; clear hK30 K30
                        refine HC_region ?_
                        all_goals refine HL_r rfl rfl rfl rfl (R_move rfl) ?_
                        all_goals (refine HL_r rfl rfl rfl rfl (R_pure rfl rfl rfl) ?_; refine HL_wrap_i64 (by omega) (by omega) ?_)
                        all_goals refine HL_r rfl rfl rfl rfl (R_assign rfl) ?_
                        all_goals refine HL_nil ?_
                        all_goals (
                          refine HQ_then ?_
                          exact HQ_again (i + 1) ⟨by omega, fun j hj => by
                            rcases Nat.lt_succ_iff_lt_or_eq.1 hj with hj | rfl
                            · exact hinv j hj
                            · rw [hx, hy]; simp_all⟩ (by omega) (.cons rfl (.cons rfl (.cons rfl .nil))) (List.Sublist.refl _) (fun _ _ h => h)
                          skip)
                        skip)
                    skip)
                  skip)
              · try exact Bool.noConfusion h29
                all_goals try simp only [decide_eq_true_eq, decide_eq_false_iff_not, beq_iff_eq, beq_eq_false_iff_ne, bne_iff_ne, bne_eq_false_iff_eq, Bool.not_eq_true', Bool.not_eq_false', ne_eq, Int.not_lt, Int.not_le, ge_iff_le, gt_iff_lt] at h29
                all_goals (
                  refine HC_exit ?_
                  refine HQ_thenE ?_; clear hK27 K27
                  refine HQ_thenE ?_
                  refine HQ_blockE ?_
                  refine HQ_then ?_
                  refine hK25 _ _ _ _ ?_; clear hK25 K25
                  refine HC_seq fun K34 hK34 => ?_
                  refine HC_seq fun K35 hK35 => ?_
                  refine HC_region ?_
                  all_goals refine HL_r rfl rfl rfl rfl (R_assign rfl) ?_
                  all_goals refine HL_nil ?_
                  all_goals (
                    refine HQ_then ?_
                    refine hK35 _ _ _ _ ?_; clear hK35 K35
                    refine HC_block ?_
                    have hbe := bits_eq hlb2 (by omega) hinv
                    refine HC_loop (σ := Nat) (fun j => j ≤ items.length ∧ ∀ q, q < j → ∀ x y, items[q]? = some x → items'[q]? = some y → sameV x y = true) (fun j => [(2, .pointer (some ⟨r1, 0, none⟩)), (3, .pointer (some ⟨r2, 0, none⟩)), (6, .int .i64 (j : Int))]) (fun _ => [(r2, .cells #[uV a', uV b', uV c', uV d', plV bits'.length pb', plV items'.length pi', .int .i64 pick'] 31 (0, 0)), (r1, .cells #[uV a, uV b, uV c, uV d, plV bits.length pb, plV items.length pi, .int .i64 pick] 31 (0, 0))]) (fun _ _ _ => True) (fun j => items.length - j) 0 ⟨by omega, fun j hj => absurd hj (by omega)⟩ (.cons rfl (.cons rfl (.cons rfl .nil))) (List.Sublist.refl _) (fun _ _ h => h) ?_
                    rintro j ⟨hj1, hinv2⟩
                    refine HC_seq fun K36 hK36 => ?_
                    refine HC_seq fun K37 hK37 => ?_
                    refine HC_region ?_
                    all_goals refine HL_r rfl rfl rfl rfl (R_move rfl) ?_
                    all_goals refine HL_r rfl rfl rfl rfl (R_fieldAddr rfl rfl (by first | (simp only [Nat.zero_add, Nat.reduceAdd, Nat.reduceMul, Nat.zero_mul, Nat.mul_one, Nat.add_zero]; exact rfl) | exact rfl)) ?_
                    all_goals (refine HL_r rfl rfl rfl rfl (R_load rfl (known_L (k := 1) rfl) rfl rfl) ?_)
                    all_goals (refine HL_r rfl rfl rfl rfl (R_lenPl rfl hs rfl) ?_)
                    all_goals refine HL_r rfl rfl rfl rfl (R_pure rfl rfl rfl) ?_
                    all_goals refine HL_nil ?_
                    all_goals (
                      refine HQ_then ?_
                      refine hK37 _ _ _ _ ?_; clear hK37 K37
                      refine HC_cond rfl (fun h38 => ?_) (fun h38 => ?_)
                      · try exact Bool.noConfusion h38
                        all_goals try simp only [decide_eq_true_eq, decide_eq_false_iff_not, beq_iff_eq, beq_eq_false_iff_ne, bne_iff_ne, bne_eq_false_iff_eq, Bool.not_eq_true', Bool.not_eq_false', ne_eq, Int.not_lt, Int.not_le, ge_iff_le, gt_iff_lt] at h38
                        all_goals (
                          refine HC_skip ?_
                          refine HQ_then ?_
                          refine hK36 _ _ _ _ ?_; clear hK36 K36
                          refine HC_seq fun K39 hK39 => ?_
                          refine HC_block ?_
                          refine HC_seq fun K40 hK40 => ?_
                          obtain ⟨x, hx, hmx⟩ := getI (show j < items.length by omega)
                          obtain ⟨y, hy, hmy⟩ := getI (show j < items'.length by omega)
                          refine HC_draw 12 (by kernel_rfl) (by kernel_rfl) ?_
                          all_goals refine HD_r rfl rfl rfl (R_fieldAddr rfl rfl (by first | (simp only [Nat.zero_add, Nat.reduceAdd, Nat.reduceMul, Nat.zero_mul, Nat.mul_one, Nat.add_zero]; exact rfl) | exact rfl)) ?_
                          all_goals (refine HD_r rfl rfl rfl (R_load rfl (known_L (k := 1) rfl) rfl rfl) ?_)
                          all_goals refine HD_r rfl rfl rfl (R_move rfl) ?_
                          all_goals refine HD_r rfl rfl rfl (R_indexPl (j := j) rfl hs rfl rfl rfl rfl (by omega)) ?_
                          all_goals refine HD_r rfl rfl rfl (R_loadVl (fun q hq => Or.inr hq) rfl hs hx rfl rfl) ?_
                          all_goals refine HD_r rfl rfl rfl (R_fieldAddr rfl rfl (by first | (simp only [Nat.zero_add, Nat.reduceAdd, Nat.reduceMul, Nat.zero_mul, Nat.mul_one, Nat.add_zero]; exact rfl) | exact rfl)) ?_
                          all_goals (refine HD_r rfl rfl rfl (R_load rfl (known_L (k := 0) rfl) rfl rfl) ?_)
                          all_goals refine HD_r rfl rfl rfl (R_move rfl) ?_
                          all_goals refine HD_r rfl rfl rfl (R_indexPl (j := j) rfl hs' rfl rfl rfl rfl (by omega)) ?_
                          all_goals refine HD_r rfl rfl rfl (R_loadVl (fun q hq => Or.inr hq) rfl hs' hy rfl rfl) ?_
                          all_goals refine HD_callR rfl rfl rfl (enters_of Tryd.func13 (by kernel_rfl) rfl) (ih x hmx y (hi' y hmy)) (fun q hq => Or.inr hq) ?_
                          all_goals refine HD_r rfl rfl rfl (R_pure rfl rfl rfl) ?_
                          all_goals refine HD_end ?_
                          all_goals refine HL_nil ?_
                          all_goals (
                            refine HQ_then ?_
                            refine hK40 _ _ _ _ ?_; clear hK40 K40
                            refine HC_cond rfl (fun h41 => ?_) (fun h41 => ?_)
                            · try exact Bool.noConfusion h41
                              all_goals try simp only [decide_eq_true_eq, decide_eq_false_iff_not, beq_iff_eq, beq_eq_false_iff_ne, bne_iff_ne, bne_eq_false_iff_eq, Bool.not_eq_true', Bool.not_eq_false', ne_eq, Int.not_lt, Int.not_le, ge_iff_le, gt_iff_lt] at h41
                              all_goals (
                                refine HC_seq fun K42 hK42 => ?_
                                refine HC_region ?_
                                all_goals refine HL_r rfl rfl rfl rfl (R_assign rfl) ?_
                                all_goals refine HL_nil ?_
                                all_goals (
                                  refine HQ_then ?_
                                  refine hK42 _ _ _ _ ?_; clear hK42 K42
                                  refine HC_ret ?_
                                  refine HQ_blockR ?_
                                  refine HQ_thenR ?_; clear hK39 K39
                                  refine HQ_thenR ?_
                                  refine HQ_blockR ?_
                                  refine HQ_thenR ?_; clear hK34 K34
                                  refine HQ_post rfl rfl (.cons (res_tmp rfl) .nil) (fun w1 hs1 => ?_)
                                  refine ⟨?_, hs1.keep⟩
                                  first
                                    | (have hse : sameL items items' = true := sameL_spec.2 ⟨hl2, fun q x y hx hy => hinv2 q (by have := (List.getElem?_eq_some_iff.1 hx).1; omega) x y hx hy⟩
                                       simp_all [resVal]; done)
                                    | (have hse : sameL items items' = false := same_ne hx hy (by assumption)
                                       simp [resVal, hse]; done)
                                    | (have hse : bits ≠ bits' := bits_ne hx hy (by assumption)
                                       simp [resVal, hse]; done)
                                    | (have hse : sameL items items' = false := same_ln (by omega)
                                       simp [resVal, hse]; done)
                                    | (have hse : bits ≠ bits' := fun e => by subst e; omega
                                       simp [resVal, hse]; done)
                                    | (simp_all [resVal]; done)
                                  skip)
                                skip)
                            · try exact Bool.noConfusion h41
                              all_goals try simp only [decide_eq_true_eq, decide_eq_false_iff_not, beq_iff_eq, beq_eq_false_iff_ne, bne_iff_ne, bne_eq_false_iff_eq, Bool.not_eq_true', Bool.not_eq_false', ne_eq, Int.not_lt, Int.not_le, ge_iff_le, gt_iff_lt] at h41
                              all_goals (
                                refine HC_skip ?_
                                refine HQ_blockN ?_
                                refine HQ_then ?_
                                refine hK39 _ _ _ _ ?_; clear hK39 K39
                                refine HC_region ?_
                                all_goals refine HL_r rfl rfl rfl rfl (R_move rfl) ?_
                                all_goals (refine HL_r rfl rfl rfl rfl (R_pure rfl rfl rfl) ?_; refine HL_wrap_i64 (by omega) (by omega) ?_)
                                all_goals refine HL_r rfl rfl rfl rfl (R_assign rfl) ?_
                                all_goals refine HL_nil ?_
                                all_goals (
                                  refine HQ_then ?_
                                  exact HQ_again (j + 1) ⟨by omega, fun q hq u v hu hv => by
                                    rcases Nat.lt_succ_iff_lt_or_eq.1 hq with hq | rfl
                                    · exact hinv2 q hq u v hu hv
                                    · rw [hx] at hu; rw [hy] at hv; cases hu; cases hv; assumption⟩ (by omega) (.cons rfl (.cons rfl (.cons rfl .nil))) (List.Sublist.refl _) (fun _ _ h => h)
                                  skip)
                                skip)
                            skip)
                          skip)
                      · try exact Bool.noConfusion h38
                        all_goals try simp only [decide_eq_true_eq, decide_eq_false_iff_not, beq_iff_eq, beq_eq_false_iff_ne, bne_iff_ne, bne_eq_false_iff_eq, Bool.not_eq_true', Bool.not_eq_false', ne_eq, Int.not_lt, Int.not_le, ge_iff_le, gt_iff_lt] at h38
                        all_goals (
                          refine HC_exit ?_
                          refine HQ_thenE ?_; clear hK36 K36
                          refine HQ_thenE ?_
                          refine HQ_blockE ?_
                          refine HQ_then ?_
                          refine hK34 _ _ _ _ ?_; clear hK34 K34
                          refine HC_seq fun K43 hK43 => ?_
                          refine HC_region ?_
                          all_goals refine HL_r rfl rfl rfl rfl (R_assign rfl) ?_
                          all_goals refine HL_nil ?_
                          all_goals (
                            refine HQ_then ?_
                            refine hK43 _ _ _ _ ?_; clear hK43 K43
                            refine HC_ret ?_
                            refine HQ_post rfl rfl (.cons (res_tmp rfl) .nil) (fun w1 hs1 => ?_)
                            refine ⟨?_, hs1.keep⟩
                            first
                              | (have hse : sameL items items' = true := sameL_spec.2 ⟨hl2, fun q x y hx hy => hinv2 q (by have := (List.getElem?_eq_some_iff.1 hx).1; omega) x y hx hy⟩
                                 simp_all [resVal]; done)
                              | (have hse : sameL items items' = false := same_ne hx hy (by assumption)
                                 simp [resVal, hse]; done)
                              | (have hse : bits ≠ bits' := bits_ne hx hy (by assumption)
                                 simp [resVal, hse]; done)
                              | (have hse : sameL items items' = false := same_ln (by omega)
                                 simp [resVal, hse]; done)
                              | (have hse : bits ≠ bits' := fun e => by subst e; omega
                                 simp [resVal, hse]; done)
                              | (simp_all [resVal]; done)
                            skip)
                          skip)
                      skip)
                    skip)
                  skip)
              skip)
            skip)
          skip)
      skip)
    skip)
end Go.Proofs.YtdadaddakcidjaaDoor
