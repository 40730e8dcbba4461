import Derived.Test.YtdadaddakcidjaaDoorGg
import Derived.Test.YtdadaddakcidjaaDoorSlk
namespace Go.Proofs.YtdadaddakcidjaaDoor
set_option linter.all false
open Go.SL Go.RowKit Go.Shelf
theorem kCells_one (k : Int) : (kCells k).all oneB = true := by
  unfold kCells fnV
  cases isK k <;> cases varB k <;> rfl
theorem isK_false {k : Int} (h : isK k = false) : k < 1 ∨ 8 < k := by unfold isK at h; simp at h; omega
theorem fnV_t {b : Bool} {f : FuncId} (h : b = true) : fnV b f = .func (.func f) #[] #[] := by rw [h]; rfl
theorem varB_eq {k : Int} (h : isK k = true) : varB k = (decide (k = 4) || decide (k = 6) || decide (k = 8)) := by
  have := isK_iff.1 h
  have : k = 1 ∨ k = 2 ∨ k = 3 ∨ k = 4 ∨ k = 5 ∨ k = 6 ∨ k = 7 ∨ k = 8 := by omega
  rcases this with rfl | rfl | rfl | rfl | rfl | rfl | rfl | rfl <;> rfl
set_option maxRecDepth 10000 in
theorem S_check {R : List (Nat × Obj)} {t : Ty} (ht : t.In R) : ∀ d : Int, 0 ≤ d → d ≤ 1000 → PureR Tryd.prog 25 [t.val, .int .i64 d].toArray (.int .i64 (chk t d)) R := by
  induction ht with
  | @mk k n p ins hk hn hl hs hi ih =>
  intro d hd0 hd1
  have hF := fun h => F_all (.mk hk hn hl hs hi : Ty.In R (.mk k n p ins)) h
  refine pureR_of_HC Tryd.func25 rfl rfl fun w => ?_
  refine HC_seq fun K1 hK1 => ?_
  refine HC_region ?_
  all_goals refine HL_box (cs := #[_, _, _]) rfl rfl rfl rfl fun r1 => ?_
  all_goals refine HL_r rfl rfl rfl rfl (R_assign rfl) ?_
  all_goals refine HL_nil ?_
  all_goals (
    refine HQ_then ?_
    refine hK1 _ _ _ _ ?_; clear hK1 K1
    refine HC_seq fun K2 hK2 => ?_
    refine HC_drawB [] [(0, .grow (geCall 0 (fun r : Nat => Value.map (some r)) (fun r => [(r, kObj)]))), (1, .pure), (4, .pure), (5, .pure), (6, .pure), (7, .grow (geNew ptrV (.cells #[.nilFunc, .nilFunc, .nilFunc, .bool false] 50 (0, 0)))), (8, .turn), (9, .pure)] 10 [1, 2, 0, 3, 4, 5, 6, 7, 8, 9] (by kernel_rfl) (by kernel_rfl) (by first | exact (fun _ h => nomatch h) | simp [SubS]) ?_
    all_goals refine HB_p (k := 1) rfl rfl rfl rfl rfl (fun _ hS => (R_fieldAddr rfl rfl (by first | (simp only [Nat.zero_add, Nat.reduceAdd, Nat.reduceMul, Nat.zero_mul, Nat.mul_one, Nat.add_zero]; exact rfl) | exact rfl))) ?_
    all_goals (refine HB_r (k := 2) rfl rfl rfl rfl rfl (R_load rfl (known_L (k := 0) rfl) rfl rfl) ?_)
    all_goals refine HB_callPE (k := 0) rfl rfl rfl rfl rfl (enters_of Tryd.func34 (by kernel_rfl) rfl) E_kinds fun mr => ?_
    all_goals refine HB_r (k := 3) rfl rfl rfl rfl rfl (R_lookup (keyI (t := 3) (by kernel_rfl)) rfl rfl (known_L (k := 0) rfl) rfl rfl ⟨_, rfl⟩ kMap_dom (kMap_val k)) ?_
    all_goals refine HB_p (k := 4) rfl rfl rfl rfl rfl (fun _ hS => (R_move rfl)) ?_
    all_goals refine HB_p (k := 5) rfl rfl rfl rfl rfl (fun _ hS => (R_extract rfl rfl)) ?_
    all_goals refine HB_p (k := 6) rfl rfl rfl rfl rfl (fun _ hS => (R_extract rfl rfl)) ?_
    all_goals refine HB_alloc (k := 7) (cs := #[_, _, _, _]) rfl rfl rfl rfl rfl rfl fun r2 => ?_
    all_goals refine HB_storeArr (k := 8) (q := 0) (n := 4) (ys := kCells k) rfl rfl rfl rfl rfl rfl rfl rfl rfl (kCells_one k) (by first | (simp only [List.set_cons_zero, List.set_cons_succ]; exact rfl) | exact rfl) (by first | exact (fun _ h => nomatch h) | simp [SubS]) ?_
    all_goals refine HB_p (k := 9) rfl rfl rfl rfl rfl (fun _ hS => (R_assign rfl)) ?_
    all_goals refine HB_end ?_
    all_goals refine HL_nil ?_
    all_goals (
      refine HQ_then ?_
      refine hK2 _ _ _ _ ?_; clear hK2 K2
      refine HC_seq fun K3 hK3 => ?_
      refine HC_block ?_
      refine HC_seq fun K4 hK4 => ?_
      refine HC_region ?_
      all_goals refine HL_r rfl rfl rfl rfl (R_move rfl) ?_
      all_goals refine HL_r rfl rfl rfl rfl (R_pure rfl rfl rfl) ?_
      all_goals refine HL_r rfl rfl rfl rfl (R_assign rfl) ?_
      all_goals refine HL_nil ?_
      all_goals (
        refine HQ_then ?_
        refine hK4 _ _ _ _ ?_; clear hK4 K4
        refine HC_cond rfl (fun h5 => ?_) (fun h5 => ?_)
        · try exact Bool.noConfusion h5
          all_goals try simp only [decide_eq_true_eq, decide_eq_false_iff_not, beq_iff_eq, beq_eq_false_iff_ne, bne_iff_ne, bne_eq_false_iff_eq, Bool.not_eq_true', Bool.not_eq_false', ne_eq, Int.not_lt, Int.not_le, ge_iff_le, gt_iff_lt] at h5
          all_goals (
            refine HC_seq fun K6 hK6 => ?_
            refine HC_region ?_
            all_goals refine HL_r rfl rfl rfl rfl (R_assign rfl) ?_
            all_goals refine HL_nil ?_
            all_goals (
              refine HQ_then ?_
              refine hK6 _ _ _ _ ?_; clear hK6 K6
              refine HC_ret ?_
              refine HQ_blockR ?_
              refine HQ_thenR ?_; clear hK3 K3
              refine HQ_post rfl rfl (.cons (res_tmp rfl) .nil) (fun w1 hs1 => ?_)
              refine ⟨?_, hs1.keep⟩
              first
                | (rw [chk, if_pos (isK_false (by assumption))]; rfl)
                | (have hkk := isK_iff.1 (by assumption)
                   rw [chk, if_neg (by omega)]
                   first
                   | (rw [if_pos (by assumption)]; rfl)
                   | (rw [if_neg (by simp_all), if_pos (by omega)]; rfl)
                   | (rw [if_neg (by simp_all), if_neg (by omega), ← hinv, if_neg (by assumption)]; rfl)
                   | (rw [if_neg (by simp_all), if_neg (by omega), ← hinv, List.drop_of_length_le (by omega), chkL]; rfl))
              skip)
            skip)
        · try exact Bool.noConfusion h5
          all_goals try simp only [decide_eq_true_eq, decide_eq_false_iff_not, beq_iff_eq, beq_eq_false_iff_ne, bne_iff_ne, bne_eq_false_iff_eq, Bool.not_eq_true', Bool.not_eq_false', ne_eq, Int.not_lt, Int.not_le, ge_iff_le, gt_iff_lt] at h5
          all_goals (
            refine HC_seq fun K7 hK7 => ?_
            refine HC_region ?_
            all_goals refine HL_r rfl rfl rfl rfl (R_fieldAddr rfl rfl (by first | (simp only [Nat.zero_add, Nat.reduceAdd, Nat.reduceMul, Nat.zero_mul, Nat.mul_one, Nat.add_zero]; exact rfl) | exact rfl)) ?_
            all_goals (refine HL_r rfl rfl rfl rfl (R_load rfl (known_L (k := 0) rfl) rfl rfl) ?_)
            all_goals refine HL_as (fnV_t (by assumption)) ?_
            all_goals (refine HL_r rfl rfl rfl rfl (R_loadA (vs := [_, _, _]) rfl (known_L (k := 2) rfl) rfl rfl rfl rfl) ?_)
            all_goals refine HL_callR rfl rfl rfl (hF (by assumption)).1 (hF (by assumption)).2 (fun q hq => Or.inr hq) ?_
            all_goals refine HL_r rfl rfl rfl rfl (R_pure rfl rfl rfl) ?_
            all_goals refine HL_r rfl rfl rfl rfl (R_assign rfl) ?_
            all_goals refine HL_nil ?_
            all_goals (
              refine HQ_then ?_
              refine hK7 _ _ _ _ ?_; clear hK7 K7
              refine HC_cond rfl (fun h8 => ?_) (fun h8 => ?_)
              · try exact Bool.noConfusion h8
                all_goals try simp only [decide_eq_true_eq, decide_eq_false_iff_not, beq_iff_eq, beq_eq_false_iff_ne, bne_iff_ne, bne_eq_false_iff_eq, Bool.not_eq_true', Bool.not_eq_false', ne_eq, Int.not_lt, Int.not_le, ge_iff_le, gt_iff_lt] at h8
                all_goals (
                  refine HC_seq fun K9 hK9 => ?_
                  refine HC_region ?_
                  all_goals refine HL_r rfl rfl rfl rfl (R_assign rfl) ?_
                  all_goals refine HL_nil ?_
                  all_goals (
                    refine HQ_then ?_
                    refine hK9 _ _ _ _ ?_; clear hK9 K9
                    refine HC_ret ?_
                    refine HQ_blockR ?_
                    refine HQ_thenR ?_; clear hK3 K3
                    refine HQ_post rfl rfl (.cons (res_tmp rfl) .nil) (fun w1 hs1 => ?_)
                    refine ⟨?_, hs1.keep⟩
                    first
                      | (rw [chk, if_pos (isK_false (by assumption))]; rfl)
                      | (have hkk := isK_iff.1 (by assumption)
                         rw [chk, if_neg (by omega)]
                         first
                         | (rw [if_pos (by assumption)]; rfl)
                         | (rw [if_neg (by simp_all), if_pos (by omega)]; rfl)
                         | (rw [if_neg (by simp_all), if_neg (by omega), ← hinv, if_neg (by assumption)]; rfl)
                         | (rw [if_neg (by simp_all), if_neg (by omega), ← hinv, List.drop_of_length_le (by omega), chkL]; rfl))
                    skip)
                  skip)
              · try exact Bool.noConfusion h8
                all_goals try simp only [decide_eq_true_eq, decide_eq_false_iff_not, beq_iff_eq, beq_eq_false_iff_ne, bne_iff_ne, bne_eq_false_iff_eq, Bool.not_eq_true', Bool.not_eq_false', ne_eq, Int.not_lt, Int.not_le, ge_iff_le, gt_iff_lt] at h8
                all_goals (
                  refine HC_seq fun K10 hK10 => ?_
                  refine HC_region ?_
                  all_goals refine HL_r rfl rfl rfl rfl (R_move rfl) ?_
                  all_goals refine HL_r rfl rfl rfl rfl (R_pure rfl rfl rfl) ?_
                  all_goals refine HL_r rfl rfl rfl rfl (R_assign rfl) ?_
                  all_goals refine HL_nil ?_
                  all_goals (
                    refine HQ_then ?_
                    refine hK10 _ _ _ _ ?_; clear hK10 K10
                    refine HC_cond rfl (fun h11 => ?_) (fun h11 => ?_)
                    · try exact Bool.noConfusion h11
                      all_goals try simp only [decide_eq_true_eq, decide_eq_false_iff_not, beq_iff_eq, beq_eq_false_iff_ne, bne_iff_ne, bne_eq_false_iff_eq, Bool.not_eq_true', Bool.not_eq_false', ne_eq, Int.not_lt, Int.not_le, ge_iff_le, gt_iff_lt] at h11
                      all_goals (
                        refine HC_seq fun K12 hK12 => ?_
                        refine HC_region ?_
                        all_goals refine HL_r rfl rfl rfl rfl (R_assign rfl) ?_
                        all_goals refine HL_nil ?_
                        all_goals (
                          refine HQ_then ?_
                          refine hK12 _ _ _ _ ?_; clear hK12 K12
                          refine HC_ret ?_
                          refine HQ_blockR ?_
                          refine HQ_thenR ?_; clear hK3 K3
                          refine HQ_post rfl rfl (.cons (res_tmp rfl) .nil) (fun w1 hs1 => ?_)
                          refine ⟨?_, hs1.keep⟩
                          first
                            | (rw [chk, if_pos (isK_false (by assumption))]; rfl)
                            | (have hkk := isK_iff.1 (by assumption)
                               rw [chk, if_neg (by omega)]
                               first
                               | (rw [if_pos (by assumption)]; rfl)
                               | (rw [if_neg (by simp_all), if_pos (by omega)]; rfl)
                               | (rw [if_neg (by simp_all), if_neg (by omega), ← hinv, if_neg (by assumption)]; rfl)
                               | (rw [if_neg (by simp_all), if_neg (by omega), ← hinv, List.drop_of_length_le (by omega), chkL]; rfl))
                          skip)
                        skip)
                    · try exact Bool.noConfusion h11
                      all_goals try simp only [decide_eq_true_eq, decide_eq_false_iff_not, beq_iff_eq, beq_eq_false_iff_ne, bne_iff_ne, bne_eq_false_iff_eq, Bool.not_eq_true', Bool.not_eq_false', ne_eq, Int.not_lt, Int.not_le, ge_iff_le, gt_iff_lt] at h11
                      all_goals (
                        refine HC_skip ?_
                        refine HQ_blockN ?_
                        refine HQ_then ?_
                        refine hK3 _ _ _ _ ?_; clear hK3 K3
                        refine HC_seq fun K13 hK13 => ?_
                        refine HC_seq fun K14 hK14 => ?_
                        refine HC_region ?_
                        all_goals refine HL_r rfl rfl rfl rfl (R_fieldAddr rfl rfl (by first | (simp only [Nat.zero_add, Nat.reduceAdd, Nat.reduceMul, Nat.zero_mul, Nat.mul_one, Nat.add_zero]; exact rfl) | exact rfl)) ?_
                        all_goals (refine HL_r rfl rfl rfl rfl (R_load rfl (known_L (k := 2) rfl) rfl rfl) ?_)
                        all_goals (refine HL_r rfl rfl rfl rfl (R_lenPl rfl hs rfl) ?_)
                        all_goals refine HL_r rfl rfl rfl rfl (R_move rfl) ?_
                        all_goals refine HL_nil ?_
                        all_goals (
                          refine HQ_then ?_
                          refine hK14 _ _ _ _ ?_; clear hK14 K14
                          refine HC_block ?_
                          refine HC_loop (σ := Nat) (fun i => i ≤ ins.length ∧ chkL (ins.drop i) (d + 1) = chkL ins (d + 1)) (fun i => [(1, .int .i64 d), (30, plV ins.length p), (31, .int .i64 (ins.length : Int)), (32, .int .i64 (i : Int))]) (fun _ => []) (fun _ _ _ => True) (fun i => ins.length - i) 0 ⟨by omega, rfl⟩ (.cons rfl (.cons rfl (.cons rfl (.cons rfl .nil)))) (List.nil_sublist _) (fun _ _ h => h) ?_
                          rintro i ⟨hi1, hinv⟩
                          refine HC_seq fun K15 hK15 => ?_
                          refine HC_region ?_
                          all_goals refine HL_r rfl rfl rfl rfl (R_pure rfl rfl rfl) ?_
                          all_goals refine HL_nil ?_
                          all_goals (
                            refine HQ_then ?_
                            refine hK15 _ _ _ _ ?_; clear hK15 K15
                            refine HC_seq fun K16 hK16 => ?_
                            refine HC_cond rfl (fun h17 => ?_) (fun h17 => ?_)
                            · try exact Bool.noConfusion h17
                              all_goals try simp only [decide_eq_true_eq, decide_eq_false_iff_not, beq_iff_eq, beq_eq_false_iff_ne, bne_iff_ne, bne_eq_false_iff_eq, Bool.not_eq_true', Bool.not_eq_false', ne_eq, Int.not_lt, Int.not_le, ge_iff_le, gt_iff_lt] at h17
                              all_goals (
                                refine HC_skip ?_
                                refine HQ_then ?_
                                refine hK16 _ _ _ _ ?_; clear hK16 K16
                                refine HC_seq fun K18 hK18 => ?_
                                refine HC_block ?_
                                refine HC_seq fun K19 hK19 => ?_
                                obtain ⟨y, hy, hmem⟩ := getI (show i < ins.length by omega)
                                rw [dropI hy, chkL] at hinv
                                refine HC_region ?_
                                all_goals refine HL_r rfl rfl rfl rfl (R_indexPl (j := i) rfl hs rfl rfl rfl rfl (by omega)) ?_
                                all_goals refine HL_r rfl rfl rfl rfl (R_loadTy (fun q hq => Or.inr hq) rfl hs hy rfl rfl) ?_
                                all_goals refine HL_alloc (cs := #[_, _, _]) rfl rfl rfl rfl fun r3 => ?_
                                all_goals refine HL_storeArr (k := 0) (n := 3) (ys := y.cells) rfl rfl rfl rfl rfl y.len rfl y.one rfl ?_
                                all_goals refine HL_nil ?_
                                all_goals (
                                  refine HQ_then ?_
                                  refine hK19 _ _ _ _ ?_; clear hK19 K19
                                  refine HC_seq fun K20 hK20 => ?_
                                  refine HC_region ?_
                                  all_goals refine HL_r rfl rfl rfl rfl (R_loadArr (xs := y.cells) (n := 3) rfl (known_L (k := 0) rfl) rfl rfl y.len) ?_
                                  all_goals refine HL_r rfl rfl rfl rfl (R_move rfl) ?_
                                  all_goals (refine HL_r rfl rfl rfl rfl (R_pure rfl rfl rfl) ?_; refine HL_wrap_i64 (by omega) (by omega) ?_)
                                  all_goals refine HL_callR rfl rfl rfl (enters_of Tryd.func25 (by kernel_rfl) rfl) (ih y hmem (d + 1) (by omega) (by omega)) (fun q hq => Or.inr hq) ?_
                                  all_goals refine HL_r rfl rfl rfl rfl (R_assign rfl) ?_
                                  all_goals refine HL_nil ?_
                                  all_goals (
                                    refine HQ_then ?_
                                    refine hK20 _ _ _ _ ?_; clear hK20 K20
                                    refine HC_seq fun K21 hK21 => ?_
                                    refine HC_region ?_
                                    all_goals refine HL_r rfl rfl rfl rfl (R_move rfl) ?_
                                    all_goals refine HL_r rfl rfl rfl rfl (R_pure rfl rfl rfl) ?_
                                    all_goals refine HL_nil ?_
                                    all_goals (
                                      refine HQ_then ?_
                                      refine hK21 _ _ _ _ ?_; clear hK21 K21
                                      refine HC_cond rfl (fun h22 => ?_) (fun h22 => ?_)
                                      · try exact Bool.noConfusion h22
                                        all_goals try simp only [decide_eq_true_eq, decide_eq_false_iff_not, beq_iff_eq, beq_eq_false_iff_ne, bne_iff_ne, bne_eq_false_iff_eq, Bool.not_eq_true', Bool.not_eq_false', ne_eq, Int.not_lt, Int.not_le, ge_iff_le, gt_iff_lt] at h22
                                        all_goals (
                                          refine HC_seq fun K23 hK23 => ?_
                                          refine HC_region ?_
                                          all_goals refine HL_r rfl rfl rfl rfl (R_move rfl) ?_
                                          all_goals refine HL_r rfl rfl rfl rfl (R_assign rfl) ?_
                                          all_goals refine HL_nil ?_
                                          all_goals (
                                            refine HQ_then ?_
                                            refine hK23 _ _ _ _ ?_; clear hK23 K23
                                            refine HC_ret ?_
                                            refine HQ_blockR ?_
                                            refine HQ_thenR ?_; clear hK18 K18
                                            refine HQ_thenR ?_
                                            refine HQ_blockR ?_
                                            refine HQ_thenR ?_; clear hK13 K13
                                            refine HQ_post rfl rfl (.cons (res_tmp rfl) .nil) (fun w1 hs1 => ?_)
                                            refine ⟨?_, hs1.keep⟩
                                            first
                                              | (rw [chk, if_pos (isK_false (by assumption))]; rfl)
                                              | (have hkk := isK_iff.1 (by assumption)
                                                 rw [chk, if_neg (by omega)]
                                                 first
                                                 | (rw [if_pos (by assumption)]; rfl)
                                                 | (rw [if_neg (by simp_all), if_pos (by omega)]; rfl)
                                                 | (rw [if_neg (by simp_all), if_neg (by omega), ← hinv, if_neg (by assumption)]; rfl)
                                                 | (rw [if_neg (by simp_all), if_neg (by omega), ← hinv, List.drop_of_length_le (by omega), chkL]; rfl))
                                            skip)
                                          skip)
                                      · try exact Bool.noConfusion h22
                                        all_goals try simp only [decide_eq_true_eq, decide_eq_false_iff_not, beq_iff_eq, beq_eq_false_iff_ne, bne_iff_ne, bne_eq_false_iff_eq, Bool.not_eq_true', Bool.not_eq_false', ne_eq, Int.not_lt, Int.not_le, ge_iff_le, gt_iff_lt] at h22
                                        all_goals (
                                          refine HC_skip ?_
                                          refine HQ_blockN ?_
                                          refine HQ_then ?_
                                          refine hK18 _ _ _ _ ?_; clear hK18 K18
                                          refine HC_region ?_
                                          all_goals (refine HL_r rfl rfl rfl rfl (R_pure rfl rfl rfl) ?_; refine HL_wrap_i64 (by omega) (by omega) ?_)
                                          all_goals refine HL_r rfl rfl rfl rfl (R_move rfl) ?_
                                          all_goals refine HL_nil ?_
                                          all_goals (
                                            refine HQ_then ?_
                                            exact HQ_again (i + 1) ⟨by omega, by rw [if_pos (by assumption)] at hinv; exact hinv⟩ (by omega) (.cons rfl (.cons rfl (.cons rfl (.cons rfl .nil)))) (List.nil_sublist _) (fun _ _ h => h)
                                            skip)
                                          skip)
                                      skip)
                                    skip)
                                  skip)
                                skip)
                            · try exact Bool.noConfusion h17
                              all_goals try simp only [decide_eq_true_eq, decide_eq_false_iff_not, beq_iff_eq, beq_eq_false_iff_ne, bne_iff_ne, bne_eq_false_iff_eq, Bool.not_eq_true', Bool.not_eq_false', ne_eq, Int.not_lt, Int.not_le, ge_iff_le, gt_iff_lt] at h17
                              all_goals (
                                refine HC_exit ?_
                                refine HQ_thenE ?_; clear hK16 K16
                                refine HQ_thenE ?_
                                refine HQ_blockE ?_
                                refine HQ_then ?_
                                refine hK13 _ _ _ _ ?_; clear hK13 K13
                                refine HC_seq fun K24 hK24 => ?_
                                refine HC_region ?_
                                all_goals refine HL_r rfl rfl rfl rfl (R_assign rfl) ?_
                                all_goals refine HL_nil ?_
                                all_goals (
                                  refine HQ_then ?_
                                  refine hK24 _ _ _ _ ?_; clear hK24 K24
                                  refine HC_ret ?_
                                  refine HQ_post rfl rfl (.cons (res_tmp rfl) .nil) (fun w1 hs1 => ?_)
                                  refine ⟨?_, hs1.keep⟩
                                  first
                                    | (rw [chk, if_pos (isK_false (by assumption))]; rfl)
                                    | (have hkk := isK_iff.1 (by assumption)
                                       rw [chk, if_neg (by omega)]
                                       first
                                       | (rw [if_pos (by assumption)]; rfl)
                                       | (rw [if_neg (by simp_all), if_pos (by omega)]; rfl)
                                       | (rw [if_neg (by simp_all), if_neg (by omega), ← hinv, if_neg (by assumption)]; rfl)
                                       | (rw [if_neg (by simp_all), if_neg (by omega), ← hinv, List.drop_of_length_le (by omega), chkL]; rfl))
                                  skip)
                                skip)
                            skip)
                          skip)
                        skip)
                    skip)
                  skip)
              skip)
            skip)
        skip)
      skip)
    skip)
set_option maxRecDepth 10000 in
theorem S_Check {R : List (Nat × Obj)} {t : Ty} (ht : t.In R) : PureR Tryd.prog 14 [t.val].toArray (.int .i64 (chk t 0)) R := by
  have h1 := S_check ht 0 (by omega) (by omega)
  obtain ⟨k, n, p, ins⟩ := t
  refine pureR_of_HC Tryd.func14 rfl rfl fun w => ?_
  refine HC_seq fun K1 hK1 => ?_
  refine HC_region ?_
  all_goals refine HL_box (cs := #[_, _, _]) rfl rfl rfl rfl fun r1 => ?_
  all_goals refine HL_r rfl rfl rfl rfl (R_assign rfl) ?_
  all_goals refine HL_nil ?_
  all_goals (
    refine HQ_then ?_
    refine hK1 _ _ _ _ ?_; clear hK1 K1
    refine HC_seq fun K2 hK2 => ?_
    refine HC_region ?_
    all_goals refine HL_r rfl rfl rfl rfl (R_loadA (vs := [_, _, _]) rfl (known_L (k := 0) rfl) rfl rfl rfl rfl) ?_
    all_goals refine HL_callR rfl rfl rfl (enters_of Tryd.func25 (by kernel_rfl) rfl) h1 (fun q hq => Or.inr hq) ?_
    all_goals refine HL_r rfl rfl rfl rfl (R_assign rfl) ?_
    all_goals refine HL_nil ?_
    all_goals (
      refine HQ_then ?_
      refine hK2 _ _ _ _ ?_; clear hK2 K2
      refine HC_ret ?_
      refine HQ_post rfl rfl (.cons (res_tmp rfl) .nil) (fun w1 hs1 => ?_)
      exact ⟨rfl, hs1.keep⟩
      skip)
    skip)
def idxF {α : Type} (b : α → Bool) : List α → Int → Int
  | [], _ => -1
  | y :: ys, j => if b y = true then j else idxF b ys (j + 1)
theorem idxF_any {α : Type} {b : α → Bool} : ∀ {l : List α} {j : Int}, 0 ≤ j → decide (0 ≤ idxF b l j) = l.any b
  | [], _, _ => rfl
  | y :: ys, j, h => by
    rw [idxF, List.any_cons]
    split
    · rename_i hb; rw [hb]; simp [h]
    · rename_i hb; rw [idxF_any (by omega)]; simp [hb]
set_option maxRecDepth 10000 in
theorem S_IndexFuncT {R : List (Nat × Obj)} {ins : List Ty} {p : Pl} {g : FuncId} {b : Ty → Bool} (eg : Enters Tryd.prog g) (hg : ∀ x ∈ ins, PureR Tryd.prog g [x.val].toArray (.bool (b x)) R) (hl : ins.length ≤ 9223372036854775807) (hs : Seg R ins.length (tysC ins) p) :
    PureR Tryd.prog 76 [plV ins.length p, fV g].toArray (.int .i64 (idxF b ins 0)) R := by
  refine pureR_of_HC Tryd.func76 rfl rfl fun w => ?_
  refine HC_seq fun K1 hK1 => ?_
  refine HC_region ?_
  all_goals refine HL_r rfl rfl rfl rfl (R_assign rfl) ?_
  all_goals refine HL_nil ?_
  all_goals (
    refine HQ_then ?_
    refine hK1 _ _ _ _ ?_; clear hK1 K1
    refine HC_seq fun K2 hK2 => ?_
    refine HC_seq fun K3 hK3 => ?_
    refine HC_region ?_
    all_goals refine HL_r rfl rfl rfl rfl (R_move rfl) ?_
    all_goals (refine HL_r rfl rfl rfl rfl (R_lenPl rfl hs rfl) ?_)
    all_goals refine HL_r rfl rfl rfl rfl (R_move rfl) ?_
    all_goals refine HL_nil ?_
    all_goals (
      refine HQ_then ?_
      refine hK3 _ _ _ _ ?_; clear hK3 K3
      refine HC_block ?_
      refine HC_loop (σ := Nat) (fun i => i ≤ ins.length ∧ idxF b (ins.drop i) (i : Int) = idxF b ins 0) (fun i => [(0, plV ins.length p), (1, fV g), (7, .int .i64 (ins.length : Int)), (8, .int .i64 (i : Int))]) (fun _ => []) (fun _ _ _ => True) (fun i => ins.length - i) 0 ⟨by omega, rfl⟩ (.cons rfl (.cons rfl (.cons rfl (.cons rfl .nil)))) (List.nil_sublist _) (fun _ _ h => h) ?_
      rintro i ⟨hi1, hinv⟩
      refine HC_seq fun K4 hK4 => ?_
      refine HC_region ?_
      all_goals refine HL_r rfl rfl rfl rfl (R_pure rfl rfl rfl) ?_
      all_goals refine HL_nil ?_
      all_goals (
        refine HQ_then ?_
        refine hK4 _ _ _ _ ?_; clear hK4 K4
        refine HC_seq fun K5 hK5 => ?_
        refine HC_cond rfl (fun h6 => ?_) (fun h6 => ?_)
        · try exact Bool.noConfusion h6
          all_goals try simp only [decide_eq_true_eq, decide_eq_false_iff_not, beq_iff_eq, beq_eq_false_iff_ne, bne_iff_ne, bne_eq_false_iff_eq, Bool.not_eq_true', Bool.not_eq_false', ne_eq, Int.not_lt, Int.not_le, ge_iff_le, gt_iff_lt] at h6
          all_goals (
            refine HC_skip ?_
            refine HQ_then ?_
            refine hK5 _ _ _ _ ?_; clear hK5 K5
            refine HC_seq fun K7 hK7 => ?_
            refine HC_block ?_
            refine HC_seq fun K8 hK8 => ?_
            refine HC_region ?_
            all_goals refine HL_r rfl rfl rfl rfl (R_move rfl) ?_
            all_goals refine HL_r rfl rfl rfl rfl (R_assign rfl) ?_
            all_goals refine HL_nil ?_
            all_goals (
              refine HQ_then ?_
              refine hK8 _ _ _ _ ?_; clear hK8 K8
              refine HC_seq fun K9 hK9 => ?_
              obtain ⟨y, hy, hmem⟩ := getI (show i < ins.length by omega)
              rw [dropI hy, idxF] at hinv
              refine HC_region ?_
              all_goals refine HL_r rfl rfl rfl rfl (R_move rfl) ?_
              all_goals refine HL_r rfl rfl rfl rfl (R_move rfl) ?_
              all_goals refine HL_r rfl rfl rfl rfl (R_move rfl) ?_
              all_goals refine HL_r rfl rfl rfl rfl (R_indexPl (j := i) rfl hs rfl rfl rfl rfl (by omega)) ?_
              all_goals refine HL_r rfl rfl rfl rfl (R_loadTy (fun q hq => Or.inr hq) rfl hs hy rfl rfl) ?_
              all_goals refine HL_callR rfl rfl rfl eg (hg y hmem) (fun q hq => Or.inr hq) ?_
              all_goals refine HL_nil ?_
              all_goals (
                refine HQ_then ?_
                refine hK9 _ _ _ _ ?_; clear hK9 K9
                refine HC_cond rfl (fun h10 => ?_) (fun h10 => ?_)
                · try exact Bool.noConfusion h10
                  all_goals try simp only [decide_eq_true_eq, decide_eq_false_iff_not, beq_iff_eq, beq_eq_false_iff_ne, bne_iff_ne, bne_eq_false_iff_eq, Bool.not_eq_true', Bool.not_eq_false', ne_eq, Int.not_lt, Int.not_le, ge_iff_le, gt_iff_lt] at h10
                  all_goals (
                    refine HC_seq fun K11 hK11 => ?_
                    refine HC_region ?_
                    all_goals refine HL_r rfl rfl rfl rfl (R_move rfl) ?_
                    all_goals refine HL_r rfl rfl rfl rfl (R_assign rfl) ?_
                    all_goals refine HL_nil ?_
                    all_goals (
                      refine HQ_then ?_
                      refine hK11 _ _ _ _ ?_; clear hK11 K11
                      refine HC_ret ?_
                      refine HQ_blockR ?_
                      refine HQ_thenR ?_; clear hK7 K7
                      refine HQ_thenR ?_
                      refine HQ_blockR ?_
                      refine HQ_thenR ?_; clear hK2 K2
                      refine HQ_post rfl rfl (.cons (res_tmp rfl) .nil) (fun w1 hs1 => ?_)
                      refine ⟨?_, hs1.keep⟩
                      first
                        | (rw [← hinv, if_pos (by assumption)]; rfl)
                        | (rw [← hinv, List.drop_of_length_le (by omega), idxF]; rfl)
                      skip)
                    skip)
                · try exact Bool.noConfusion h10
                  all_goals try simp only [decide_eq_true_eq, decide_eq_false_iff_not, beq_iff_eq, beq_eq_false_iff_ne, bne_iff_ne, bne_eq_false_iff_eq, Bool.not_eq_true', Bool.not_eq_false', ne_eq, Int.not_lt, Int.not_le, ge_iff_le, gt_iff_lt] at h10
                  all_goals (
                    refine HC_skip ?_
                    refine HQ_blockN ?_
                    refine HQ_then ?_
                    refine hK7 _ _ _ _ ?_; clear hK7 K7
                    refine HC_region ?_
                    all_goals (refine HL_r rfl rfl rfl rfl (R_pure rfl rfl rfl) ?_; refine HL_wrap_i64 (by omega) (by omega) ?_)
                    all_goals refine HL_r rfl rfl rfl rfl (R_move rfl) ?_
                    all_goals refine HL_nil ?_
                    all_goals (
                      refine HQ_then ?_
                      exact HQ_again (i + 1) ⟨by omega, by rw [if_neg (by simp_all)] at hinv; exact hinv⟩ (by omega) (.cons rfl (.cons rfl (.cons rfl (.cons rfl .nil)))) (List.nil_sublist _) (fun _ _ h => h)
                      skip)
                    skip)
                skip)
              skip)
            skip)
        · try exact Bool.noConfusion h6
          all_goals try simp only [decide_eq_true_eq, decide_eq_false_iff_not, beq_iff_eq, beq_eq_false_iff_ne, bne_iff_ne, bne_eq_false_iff_eq, Bool.not_eq_true', Bool.not_eq_false', ne_eq, Int.not_lt, Int.not_le, ge_iff_le, gt_iff_lt] at h6
          all_goals (
            refine HC_exit ?_
            refine HQ_thenE ?_; clear hK5 K5
            refine HQ_thenE ?_
            refine HQ_blockE ?_
            refine HQ_then ?_
            refine hK2 _ _ _ _ ?_; clear hK2 K2
            refine HC_seq fun K12 hK12 => ?_
            refine HC_region ?_
            all_goals refine HL_r rfl rfl rfl rfl (R_assign rfl) ?_
            all_goals refine HL_nil ?_
            all_goals (
              refine HQ_then ?_
              refine hK12 _ _ _ _ ?_; clear hK12 K12
              refine HC_ret ?_
              refine HQ_post rfl rfl (.cons (res_tmp rfl) .nil) (fun w1 hs1 => ?_)
              refine ⟨?_, hs1.keep⟩
              first
                | (rw [← hinv, if_pos (by assumption)]; rfl)
                | (rw [← hinv, List.drop_of_length_le (by omega), idxF]; rfl)
              skip)
            skip)
        skip)
      skip)
    skip)
set_option maxRecDepth 10000 in
theorem S_ContainsFuncT {R : List (Nat × Obj)} {ins : List Ty} {p : Pl} {g : FuncId} {b : Ty → Bool} (eg : Enters Tryd.prog g) (hg : ∀ x ∈ ins, PureR Tryd.prog g [x.val].toArray (.bool (b x)) R) (hl : ins.length ≤ 9223372036854775807) (hs : Seg R ins.length (tysC ins) p) :
    PureR Tryd.prog 35 [plV ins.length p, fV g].toArray (.bool (ins.any b)) R := by
  have h := S_IndexFuncT (b := b) eg hg hl hs
  rw [← idxF_any (b := b) (l := ins) (Int.le_refl 0)]
  refine pureR_of_HC Tryd.func35 rfl rfl fun w => ?_
  refine HC_seq fun K1 hK1 => ?_
  refine HC_region ?_
  all_goals refine HL_r rfl rfl rfl rfl (R_assign rfl) ?_
  all_goals refine HL_nil ?_
  all_goals (
    refine HQ_then ?_
    refine hK1 _ _ _ _ ?_; clear hK1 K1
    refine HC_seq fun K2 hK2 => ?_
    refine HC_region ?_
    all_goals refine HL_r rfl rfl rfl rfl (R_move rfl) ?_
    all_goals refine HL_r rfl rfl rfl rfl (R_move rfl) ?_
    all_goals refine HL_callR rfl rfl rfl (enters_of Tryd.func76 (by kernel_rfl) rfl) h (fun q hq => Or.inr hq) ?_
    all_goals refine HL_r rfl rfl rfl rfl (R_pure rfl rfl rfl) ?_
    all_goals refine HL_r rfl rfl rfl rfl (R_assign rfl) ?_
    all_goals refine HL_nil ?_
    all_goals (
      refine HQ_then ?_
      refine hK2 _ _ _ _ ?_; clear hK2 K2
      refine HC_ret ?_
      refine HQ_post rfl rfl (.cons (res_tmp rfl) .nil) (fun w1 hs1 => ?_)
      exact ⟨rfl, hs1.keep⟩
      skip)
    skip)
theorem fix_any : ∀ ins : List Ty, (ins.any fun x => !fixT x) = !fixL ins
  | [] => rfl
  | x :: xs => by rw [List.any_cons, fix_any xs, fixL, Bool.not_and]
set_option maxRecDepth 10000 in
theorem S_still {R : List (Nat × Obj)} {t : Ty} (ht : t.In R) : ∀ d : Int, chk t d = 0 → PureR Tryd.prog 26 [t.val].toArray (.bool (fixT t)) R := by
  induction ht with
  | @mk k n p ins hk hn hl hs hi ih =>
  intro d hc
  obtain ⟨hk8, ho, h6, hci⟩ := chk_mk hc
  have hkk := isK_iff.2 hk8
  have hcl : ∀ x ∈ ins, PureR Tryd.prog 36 [x.val].toArray (.bool (!fixT x)) R := fun x hx => by
    have h1 := ih x hx (d + 1) (hci x hx)
    obtain ⟨xk, xn, xp, xi⟩ := x
    refine pureR_of_HC Tryd.func36 rfl rfl fun w => ?_
    refine HC_seq fun K1 hK1 => ?_
    refine HC_region ?_
    all_goals refine HL_box (cs := #[_, _, _]) rfl rfl rfl rfl fun r1 => ?_
    all_goals refine HL_r rfl rfl rfl rfl (R_assign rfl) ?_
    all_goals refine HL_nil ?_
    all_goals (
      refine HQ_then ?_
      refine hK1 _ _ _ _ ?_; clear hK1 K1
      refine HC_seq fun K2 hK2 => ?_
      refine HC_region ?_
      all_goals refine HL_r rfl rfl rfl rfl (R_loadA (vs := [_, _, _]) rfl (known_L (k := 0) rfl) rfl rfl rfl rfl) ?_
      all_goals refine HL_callR rfl rfl rfl (enters_of Tryd.func26 (by kernel_rfl) rfl) h1 (fun q hq => Or.inr hq) ?_
      all_goals refine HL_r rfl rfl rfl rfl (R_pure rfl rfl rfl) ?_
      all_goals refine HL_r rfl rfl rfl rfl (R_assign rfl) ?_
      all_goals refine HL_nil ?_
      all_goals (
        refine HQ_then ?_
        refine hK2 _ _ _ _ ?_; clear hK2 K2
        refine HC_ret ?_
        refine HQ_post rfl rfl (.cons (res_tmp rfl) .nil) (fun w1 hs1 => ?_)
        exact ⟨rfl, hs1.keep⟩
        skip)
      skip)
  have hany := S_ContainsFuncT (b := fun x => !fixT x) (enters_of Tryd.func36 (by kernel_rfl) rfl) hcl hl hs
  rw [fix_any] at hany
  have hvb := varB_eq hkk
  rw [fixT]
  refine pureR_of_HC Tryd.func26 rfl rfl fun w => ?_
  refine HC_seq fun K1 hK1 => ?_
  refine HC_region ?_
  all_goals refine HL_box (cs := #[_, _, _]) rfl rfl rfl rfl fun r1 => ?_
  all_goals refine HL_r rfl rfl rfl rfl (R_assign rfl) ?_
  all_goals refine HL_nil ?_
  all_goals (
    refine HQ_then ?_
    refine hK1 _ _ _ _ ?_; clear hK1 K1
    refine HC_seq fun K2 hK2 => ?_
    refine HC_drawB [] [(0, .grow (geCall 0 (fun r : Nat => Value.map (some r)) (fun r => [(r, kObj)]))), (1, .pure), (4, .pure), (5, .pure), (6, .pure), (7, .pure), (10, .pure), (11, .pure), (12, .pure)] 13 [1, 2, 0, 3, 4, 5, 6, 7, 8, 9, 10, 11, 12] (by kernel_rfl) (by kernel_rfl) (by first | exact (fun _ h => nomatch h) | simp [SubS]) ?_
    all_goals refine HB_p (k := 1) rfl rfl rfl rfl rfl (fun _ hS => (R_fieldAddr rfl rfl (by first | (simp only [Nat.zero_add, Nat.reduceAdd, Nat.reduceMul, Nat.zero_mul, Nat.mul_one, Nat.add_zero]; exact rfl) | exact rfl))) ?_
    all_goals (refine HB_r (k := 2) rfl rfl rfl rfl rfl (R_load rfl (known_L (k := 0) rfl) rfl rfl) ?_)
    all_goals refine HB_callPE (k := 0) rfl rfl rfl rfl rfl (enters_of Tryd.func34 (by kernel_rfl) rfl) E_kinds fun mr => ?_
    all_goals refine HB_r (k := 3) rfl rfl rfl rfl rfl (R_lookup (keyI (t := 3) (by kernel_rfl)) rfl rfl (known_L (k := 0) rfl) rfl rfl ⟨_, rfl⟩ kMap_dom (kMap_val0 hkk)) ?_
    all_goals refine HB_p (k := 4) rfl rfl rfl rfl rfl (fun _ hS => (R_pure rfl rfl rfl)) ?_
    all_goals refine HB_p (k := 5) rfl rfl rfl rfl rfl (fun _ hS => (R_pure rfl rfl rfl)) ?_
    all_goals refine HB_p (k := 6) rfl rfl rfl rfl rfl (fun _ hS => (R_move rfl)) ?_
    all_goals (refine HB_case 9 rfl (fun hb3 => ?_) (fun hb3 => ?_) <;> (try simp only [decide_eq_true_eq, decide_eq_false_iff_not, beq_iff_eq, beq_eq_false_iff_ne, bne_iff_ne, bne_eq_false_iff_eq, Bool.not_eq_true', Bool.not_eq_false', ne_eq, Int.not_lt, Int.not_le, ge_iff_le, gt_iff_lt] at hb3) <;> first | (refine HB_p (k := 7) rfl rfl rfl rfl rfl (fun _ hS => (R_fieldAddr rfl rfl (by first | (simp only [Nat.zero_add, Nat.reduceAdd, Nat.reduceMul, Nat.zero_mul, Nat.mul_one, Nat.add_zero]; exact rfl) | exact rfl))) ?_) | (refine HB_skip (k := 7) rfl rfl rfl rfl ?_))
    all_goals first
      | (refine HB_r (k := 8) rfl rfl rfl rfl rfl (R_load rfl (known_L (k := 1) rfl) rfl rfl) ?_)
      | (refine HB_skip (k := 8) rfl rfl rfl rfl ?_)
    all_goals first
      | (refine HB_callR (k := 9) rfl rfl rfl rfl rfl (enters_of Tryd.func35 (by kernel_rfl) rfl) hany (fun q hq => Or.inr hq) ?_)
      | (refine HB_skip (k := 9) rfl rfl rfl rfl ?_)
    all_goals first
      | (refine HB_p (k := 10) rfl rfl rfl rfl rfl (fun _ hS => (R_pure rfl rfl rfl)) ?_)
      | (refine HB_skip (k := 10) rfl rfl rfl rfl ?_)
    all_goals first
      | (refine HB_p (k := 11) rfl rfl rfl rfl rfl (fun _ hS => (R_pickT rfl rfl)) ?_)
      | (refine HB_p (k := 11) rfl rfl rfl rfl rfl (fun _ hS => (R_pickF rfl rfl)) ?_)
    all_goals refine HB_p (k := 12) rfl rfl rfl rfl rfl (fun _ hS => (R_assign rfl)) ?_
    all_goals refine HB_end ?_
    all_goals refine HL_nil ?_
    all_goals (
      refine HQ_then ?_
      refine hK2 _ _ _ _ ?_; clear hK2 K2
      refine HC_ret ?_
      refine HQ_post rfl rfl (.cons (res_tmp rfl) .nil) (fun w1 hs1 => ?_)
      refine ⟨?_, hs1.keep⟩
      simp_all [resVal]
      all_goals first | done | (intros; omega)
      skip)
    skip)
set_option maxRecDepth 10000 in
theorem S_Fixed {R : List (Nat × Obj)} {t : Ty} (ht : t.In R) : PureR Tryd.prog 15 [t.val].toArray (.bool (isFix t)) R := by
  have h1 := S_Check ht
  have h2 := S_still ht 0
  obtain ⟨k, n, p, ins⟩ := t
  refine pureR_of_HC Tryd.func15 rfl rfl fun w => ?_
  refine HC_seq fun K1 hK1 => ?_
  refine HC_region ?_
  all_goals refine HL_box (cs := #[_, _, _]) rfl rfl rfl rfl fun r1 => ?_
  all_goals refine HL_r rfl rfl rfl rfl (R_assign rfl) ?_
  all_goals refine HL_nil ?_
  all_goals (
    refine HQ_then ?_
    refine hK1 _ _ _ _ ?_; clear hK1 K1
    refine HC_seq fun K2 hK2 => ?_
    refine HC_region ?_
    all_goals refine HL_r rfl rfl rfl rfl (R_loadA (vs := [_, _, _]) rfl (known_L (k := 0) rfl) rfl rfl rfl rfl) ?_
    all_goals refine HL_callR rfl rfl rfl (enters_of Tryd.func14 (by kernel_rfl) rfl) h1 (fun q hq => Or.inr hq) ?_
    all_goals refine HL_r rfl rfl rfl rfl (R_pure rfl rfl rfl) ?_
    all_goals refine HL_r rfl rfl rfl rfl (R_move rfl) ?_
    all_goals (refine HL_case 6 rfl (fun hb3 => ?_) (fun hb3 => ?_) <;> (try simp only [decide_eq_true_eq, decide_eq_false_iff_not, beq_iff_eq, beq_eq_false_iff_ne, bne_iff_ne, bne_eq_false_iff_eq, Bool.not_eq_true', Bool.not_eq_false', ne_eq, Int.not_lt, Int.not_le, ge_iff_le, gt_iff_lt] at hb3) <;> first | (refine HL_r rfl rfl rfl rfl (R_loadA (vs := [_, _, _]) rfl (known_L (k := 0) rfl) rfl rfl rfl rfl) ?_) | (refine HL_skip rfl rfl rfl ?_))
    all_goals first
      | (refine HL_callR rfl rfl rfl (enters_of Tryd.func26 (by kernel_rfl) rfl) (h2 (by assumption)) (fun q hq => Or.inr hq) ?_)
      | (refine HL_skip rfl rfl rfl ?_)
    all_goals first
      | (refine HL_r rfl rfl rfl rfl (R_pickT rfl rfl) ?_)
      | (refine HL_r rfl rfl rfl rfl (R_pickF rfl rfl) ?_)
    all_goals refine HL_r rfl rfl rfl rfl (R_assign rfl) ?_
    all_goals refine HL_nil ?_
    all_goals (
      refine HQ_then ?_
      refine hK2 _ _ _ _ ?_; clear hK2 K2
      refine HC_ret ?_
      refine HQ_post rfl rfl (.cons (res_tmp rfl) .nil) (fun w1 hs1 => ?_)
      refine ⟨?_, hs1.keep⟩
      simp_all [isFix, resVal]
      skip)
    skip)
set_option maxRecDepth 10000 in
theorem S_parts {R : List (Nat × Obj)} {k n : Int} {p : Pl} {ins : List Ty} (ht : Ty.In R (.mk k n p ins)) (hsub : ∀ x ∈ ins, PureR Tryd.prog 27 [x.val].toArray (.int .i64 (sizT x)) R) (hpos : ∀ x ∈ ins, 1 ≤ sizT x) (hb : sizL ins ≤ 2251799813685248) :
    PureR Tryd.prog 61 [Ty.val (.mk k n p ins)].toArray (.int .i64 (sizL ins)) R := by
  cases ht with
  | mk hk hn hl hs hi =>
  have hdp : ∀ i, 0 ≤ sizL (ins.drop i) := fun i => by
    have : ∀ l : List Ty, (∀ x ∈ l, 1 ≤ sizT x) → 0 ≤ sizL l := by
      intro l
      induction l with
      | nil => intro _; rw [sizL]; omega
      | cons x xs ih => intro h; rw [sizL]; have h1 := h x (by simp); have h2 := ih fun y hy => h y (by simp [hy]); omega
    exact this _ fun x hx => hpos x (List.mem_of_mem_drop hx)
  refine pureR_of_HC Tryd.func61 rfl rfl fun w => ?_
  refine HC_seq fun K1 hK1 => ?_
  refine HC_region ?_
  all_goals refine HL_box (cs := #[_, _, _]) rfl rfl rfl rfl fun r1 => ?_
  all_goals refine HL_r rfl rfl rfl rfl (R_assign rfl) ?_
  all_goals refine HL_nil ?_
  all_goals (
    refine HQ_then ?_
    refine hK1 _ _ _ _ ?_; clear hK1 K1
    refine HC_seq fun K2 hK2 => ?_
    refine HC_region ?_
    all_goals refine HL_r rfl rfl rfl rfl (R_assign rfl) ?_
    all_goals refine HL_nil ?_
    all_goals (
      refine HQ_then ?_
      refine hK2 _ _ _ _ ?_; clear hK2 K2
      refine HC_seq fun K3 hK3 => ?_
      refine HC_seq fun K4 hK4 => ?_
      refine HC_region ?_
      all_goals refine HL_r rfl rfl rfl rfl (R_fieldAddr rfl rfl (by first | (simp only [Nat.zero_add, Nat.reduceAdd, Nat.reduceMul, Nat.zero_mul, Nat.mul_one, Nat.add_zero]; exact rfl) | exact rfl)) ?_
      all_goals (refine HL_r rfl rfl rfl rfl (R_load rfl (known_L (k := 0) rfl) rfl rfl) ?_)
      all_goals (refine HL_r rfl rfl rfl rfl (R_lenPl rfl hs rfl) ?_)
      all_goals refine HL_r rfl rfl rfl rfl (R_move rfl) ?_
      all_goals refine HL_nil ?_
      all_goals (
        refine HQ_then ?_
        refine hK4 _ _ _ _ ?_; clear hK4 K4
        refine HC_block ?_
        refine HC_loop (σ := Nat × Int) (fun s => s.1 ≤ ins.length ∧ 0 ≤ s.2 ∧ s.2 + sizL (ins.drop s.1) = sizL ins) (fun s => [(3, .int .i64 s.2), (7, plV ins.length p), (8, .int .i64 (ins.length : Int)), (9, .int .i64 (s.1 : Int))]) (fun _ => []) (fun _ _ _ => True) (fun s => ins.length - s.1) (0, 0) ⟨by omega, by omega, by simp⟩ (.cons rfl (.cons rfl (.cons rfl (.cons rfl .nil)))) (List.nil_sublist _) (fun _ _ h => h) ?_
        rintro ⟨i, m⟩ ⟨hi1, hm, hinv⟩
        simp only at hinv hi1 hm
        refine HC_seq fun K5 hK5 => ?_
        refine HC_region ?_
        all_goals refine HL_r rfl rfl rfl rfl (R_pure rfl rfl rfl) ?_
        all_goals refine HL_nil ?_
        all_goals (
          refine HQ_then ?_
          refine hK5 _ _ _ _ ?_; clear hK5 K5
          refine HC_seq fun K6 hK6 => ?_
          refine HC_cond rfl (fun h7 => ?_) (fun h7 => ?_)
          · try exact Bool.noConfusion h7
            all_goals try simp only [decide_eq_true_eq, decide_eq_false_iff_not, beq_iff_eq, beq_eq_false_iff_ne, bne_iff_ne, bne_eq_false_iff_eq, Bool.not_eq_true', Bool.not_eq_false', ne_eq, Int.not_lt, Int.not_le, ge_iff_le, gt_iff_lt] at h7
            all_goals (
              refine HC_skip ?_
              refine HQ_then ?_
              refine hK6 _ _ _ _ ?_; clear hK6 K6
              refine HC_seq fun K8 hK8 => ?_
              refine HC_block ?_
              refine HC_seq fun K9 hK9 => ?_
              obtain ⟨y, hy, hmem⟩ := getI (show i < ins.length by omega)
              have hdi := hdp (i + 1)
              have hyp := hpos y hmem
              rw [dropI hy, sizL] at hinv
              refine HC_region ?_
              all_goals refine HL_r rfl rfl rfl rfl (R_indexPl (j := i) rfl hs rfl rfl rfl rfl (by omega)) ?_
              all_goals refine HL_r rfl rfl rfl rfl (R_loadTy (fun q hq => Or.inr hq) rfl hs hy rfl rfl) ?_
              all_goals refine HL_alloc (cs := #[_, _, _]) rfl rfl rfl rfl fun r2 => ?_
              all_goals refine HL_storeArr (k := 0) (n := 3) (ys := y.cells) rfl rfl rfl rfl rfl y.len rfl y.one rfl ?_
              all_goals refine HL_nil ?_
              all_goals (
                refine HQ_then ?_
                refine hK9 _ _ _ _ ?_; clear hK9 K9
                refine HC_region ?_
                all_goals refine HL_r rfl rfl rfl rfl (R_move rfl) ?_
                all_goals refine HL_r rfl rfl rfl rfl (R_loadArr (xs := y.cells) (n := 3) rfl (known_L (k := 0) rfl) rfl rfl y.len) ?_
                all_goals refine HL_callR rfl rfl rfl (enters_of Tryd.func27 (by kernel_rfl) rfl) (hsub y hmem) (fun q hq => Or.inr hq) ?_
                all_goals (refine HL_r rfl rfl rfl rfl (R_pure rfl rfl rfl) ?_; refine HL_wrap_i64 (by omega) (by omega) ?_)
                all_goals refine HL_r rfl rfl rfl rfl (R_assign rfl) ?_
                all_goals refine HL_nil ?_
                all_goals (
                  refine HQ_blockN ?_
                  refine HQ_then ?_
                  refine hK8 _ _ _ _ ?_; clear hK8 K8
                  refine HC_region ?_
                  all_goals (refine HL_r rfl rfl rfl rfl (R_pure rfl rfl rfl) ?_; refine HL_wrap_i64 (by omega) (by omega) ?_)
                  all_goals refine HL_r rfl rfl rfl rfl (R_move rfl) ?_
                  all_goals refine HL_nil ?_
                  all_goals (
                    refine HQ_then ?_
                    exact HQ_again (i + 1, m + sizT y) ⟨by omega, by simp only; omega, by simp only; omega⟩ (by simp only; omega) (.cons rfl (.cons rfl (.cons rfl (.cons rfl .nil)))) (List.nil_sublist _) (fun _ _ h => h)
                    skip)
                  skip)
                skip)
              skip)
          · try exact Bool.noConfusion h7
            all_goals try simp only [decide_eq_true_eq, decide_eq_false_iff_not, beq_iff_eq, beq_eq_false_iff_ne, bne_iff_ne, bne_eq_false_iff_eq, Bool.not_eq_true', Bool.not_eq_false', ne_eq, Int.not_lt, Int.not_le, ge_iff_le, gt_iff_lt] at h7
            all_goals (
              refine HC_exit ?_
              refine HQ_thenE ?_; clear hK6 K6
              refine HQ_thenE ?_
              refine HQ_blockE ?_
              refine HQ_then ?_
              refine hK3 _ _ _ _ ?_; clear hK3 K3
              refine HC_seq fun K10 hK10 => ?_
              refine HC_region ?_
              all_goals refine HL_r rfl rfl rfl rfl (R_move rfl) ?_
              all_goals refine HL_r rfl rfl rfl rfl (R_assign rfl) ?_
              all_goals refine HL_nil ?_
              all_goals (
                refine HQ_then ?_
                refine hK10 _ _ _ _ ?_; clear hK10 K10
                refine HC_ret ?_
                refine HQ_post rfl rfl (.cons (res_tmp rfl) .nil) (fun w1 hs1 => ?_)
                refine ⟨?_, hs1.keep⟩
                rw [← hinv, List.drop_of_length_le (by omega), sizL, Int.add_zero]; rfl
                skip)
              skip)
          skip)
        skip)
      skip)
    skip)
theorem sizL_le2 {k n : Int} {p : Pl} {ins : List Ty} {d : Int} (hd : 0 ≤ d) (hc : chk (.mk k n p ins) d = 0) (hf : fixT (.mk k n p ins) = true) : (∀ x ∈ ins, 1 ≤ sizT x) ∧ sizL ins ≤ 2251799813685248 ∧ (k = 3 → 0 ≤ n * sizL ins ∧ n * sizL ins ≤ 2251799813685248) := by
  have hsz := siz_le _ d hd hc hf
  have hb5 := bnd_le (show (5 - d).toNat ≤ 5 by omega)
  obtain ⟨hk8, ho, h6, hci⟩ := chk_mk hc
  rw [fixT, Bool.and_eq_true] at hf
  have hfi := fixL_mem.1 hf.2
  have hsub : ∀ x ∈ ins, 1 ≤ sizT x ∧ sizT x ≤ bnd (5 - (d + 1)).toNat := fun x hx => siz_le x (d + 1) (by omega) (hci x hx) (hfi x hx)
  have hL := sizL_le hsub
  refine ⟨fun x hx => (hsub x hx).1, ?_, fun h3 => ?_⟩
  · by_cases he : ins = []
    · subst he; rw [sizL]; omega
    · have hd5 : d < 5 := by
        obtain ⟨x, hx⟩ := List.exists_mem_of_ne_nil _ he
        cases x with
        | mk a b c e => have := (chk_mk (hci _ hx)).2.2.1; omega
      have hlen : ins.length ≤ 16 := by
        have h9 : k = 1 ∨ k = 2 ∨ k = 3 ∨ k = 4 ∨ k = 5 ∨ k = 6 ∨ k = 7 ∨ k = 8 := by omega
        unfold okForm at ho
        rcases h9 with rfl | rfl | rfl | rfl | rfl | rfl | rfl | rfl <;> simp [he] at ho <;> omega
      have e : (5 - d).toNat = (5 - (d + 1)).toNat + 1 := by omega
      rw [e, bnd] at hb5
      have hb2 := bnd_pos (5 - (d + 1)).toNat
      generalize bnd (5 - (d + 1)).toNat = B at *
      have : (ins.length : Int) * B ≤ 16 * B := Int.mul_le_mul_of_nonneg_right (by omega) (by omega)
      omega
  · subst h3
    have : sizT (.mk 3 n p ins) = n * sizL ins := by rw [sizT, if_neg (by decide), if_neg (by decide), if_neg (by decide), if_pos rfl]
    rw [this] at hsz
    omega
set_option maxRecDepth 10000 in
theorem Z_all {R : List (Nat × Obj)} {k n : Int} {p : Pl} {ins : List Ty} {d : Int} (ht : Ty.In R (.mk k n p ins)) (hd : 0 ≤ d) (hc : chk (.mk k n p ins) d = 0) (hf : fixT (.mk k n p ins) = true)
    (hsub : ∀ x ∈ ins, PureR Tryd.prog 27 [x.val].toArray (.int .i64 (sizT x)) R) : Enters Tryd.prog (sizeF k) ∧ PureR Tryd.prog (sizeF k) [Ty.val (.mk k n p ins)].toArray (.int .i64 (sizT (.mk k n p ins))) R := by
  obtain ⟨hpos, hb, h3⟩ := sizL_le2 hd hc hf
  have hp := S_parts ht hsub hpos hb
  obtain ⟨hk8, ho, h6, hci⟩ := chk_mk hc
  rw [fixT, Bool.and_eq_true] at hf
  have hne : (k ≠ 4 ∧ k ≠ 6) ∧ k ≠ 8 := by simpa using hf.1
  have h9 : k = 1 ∨ k = 2 ∨ k = 3 ∨ k = 5 ∨ k = 7 := by omega
  rcases h9 with rfl | rfl | rfl | rfl | rfl
  · refine ⟨enters_of Tryd.func48 (by kernel_rfl) rfl, ?_⟩
    show PureR Tryd.prog 48 _ _ R
    rw [sizT, if_pos rfl]
    refine pureR_of_HC Tryd.func48 rfl rfl fun w => ?_
    refine HC_seq fun K1 hK1 => ?_
    refine HC_region ?_
    all_goals refine HL_box (cs := #[_, _, _]) rfl rfl rfl rfl fun r1 => ?_
    all_goals refine HL_r rfl rfl rfl rfl (R_assign rfl) ?_
    all_goals refine HL_nil ?_
    all_goals (
      refine HQ_then ?_
      refine hK1 _ _ _ _ ?_; clear hK1 K1
      refine HC_seq fun K2 hK2 => ?_
      refine HC_region ?_
      all_goals refine HL_r rfl rfl rfl rfl (R_fieldAddr rfl rfl (by first | (simp only [Nat.zero_add, Nat.reduceAdd, Nat.reduceMul, Nat.zero_mul, Nat.mul_one, Nat.add_zero]; exact rfl) | exact rfl)) ?_
      all_goals refine HL_r rfl rfl rfl rfl (R_load rfl (known_L (k := 0) rfl) rfl rfl) ?_
      all_goals refine HL_r rfl rfl rfl rfl (R_assign rfl) ?_
      all_goals refine HL_nil ?_
      all_goals (
        refine HQ_then ?_
        refine hK2 _ _ _ _ ?_; clear hK2 K2
        refine HC_ret ?_
        refine HQ_post rfl rfl (.cons (res_tmp rfl) .nil) (fun w1 hs1 => ?_)
        exact ⟨rfl, hs1.keep⟩
        skip)
      skip)
  · refine ⟨enters_of Tryd.func54 (by kernel_rfl) rfl, ?_⟩
    show PureR Tryd.prog 54 _ _ R
    rw [sizT, if_neg (by decide), if_pos rfl]
    refine pureR_of_HC Tryd.func54 rfl rfl fun w => ?_
    refine HC_seq fun K1 hK1 => ?_
    refine HC_region ?_
    all_goals refine HL_box (cs := #[_, _, _]) rfl rfl rfl rfl fun r1 => ?_
    all_goals refine HL_r rfl rfl rfl rfl (R_assign rfl) ?_
    all_goals refine HL_nil ?_
    all_goals (
      refine HQ_then ?_
      refine hK1 _ _ _ _ ?_; clear hK1 K1
      refine HC_seq fun K2 hK2 => ?_
      refine HC_region ?_
      all_goals refine HL_r rfl rfl rfl rfl (R_assign rfl) ?_
      all_goals refine HL_nil ?_
      all_goals (
        refine HQ_then ?_
        refine hK2 _ _ _ _ ?_; clear hK2 K2
        refine HC_ret ?_
        refine HQ_post rfl rfl (.cons (res_tmp rfl) .nil) (fun w1 hs1 => ?_)
        exact ⟨rfl, hs1.keep⟩
        skip)
      skip)
  · refine ⟨enters_of Tryd.func60 (by kernel_rfl) rfl, ?_⟩
    show PureR Tryd.prog 60 _ _ R
    have h3' := h3 rfl
    rw [sizT, if_neg (by decide), if_neg (by decide), if_neg (by decide), if_pos rfl]
    refine pureR_of_HC Tryd.func60 rfl rfl fun w => ?_
    refine HC_seq fun K1 hK1 => ?_
    refine HC_region ?_
    all_goals refine HL_box (cs := #[_, _, _]) rfl rfl rfl rfl fun r1 => ?_
    all_goals refine HL_r rfl rfl rfl rfl (R_assign rfl) ?_
    all_goals refine HL_nil ?_
    all_goals (
      refine HQ_then ?_
      refine hK1 _ _ _ _ ?_; clear hK1 K1
      refine HC_seq fun K2 hK2 => ?_
      refine HC_draw 6 (by kernel_rfl) (by kernel_rfl) ?_
      all_goals refine HD_r rfl rfl rfl (R_fieldAddr rfl rfl (by first | (simp only [Nat.zero_add, Nat.reduceAdd, Nat.reduceMul, Nat.zero_mul, Nat.mul_one, Nat.add_zero]; exact rfl) | exact rfl)) ?_
      all_goals refine HD_r rfl rfl rfl (R_load rfl (known_L (k := 0) rfl) rfl rfl) ?_
      all_goals refine HD_r rfl rfl rfl (R_loadA (vs := [_, _, _]) rfl (known_L (k := 0) rfl) rfl rfl rfl rfl) ?_
      all_goals refine HD_callR rfl rfl rfl (enters_of Tryd.func61 (by kernel_rfl) rfl) hp (fun q hq => Or.inr hq) ?_
      all_goals (refine HD_r rfl rfl rfl (R_pure rfl rfl rfl) ?_; refine HD_wrap_i64 (by omega) (by omega) ?_)
      all_goals refine HD_r rfl rfl rfl (R_assign rfl) ?_
      all_goals refine HD_end ?_
      all_goals refine HL_nil ?_
      all_goals (
        refine HQ_then ?_
        refine hK2 _ _ _ _ ?_; clear hK2 K2
        refine HC_ret ?_
        refine HQ_post rfl rfl (.cons (res_tmp rfl) .nil) (fun w1 hs1 => ?_)
        exact ⟨rfl, hs1.keep⟩
        skip)
      skip)
  · refine ⟨enters_of Tryd.func67 (by kernel_rfl) rfl, ?_⟩
    show PureR Tryd.prog 67 _ _ R
    have hbit : 1 ≤ n ∧ n ≤ 512 := by simp [okForm] at ho; omega
    rw [sizT, if_neg (by decide), if_neg (by decide), if_pos rfl]
    refine pureR_of_HC Tryd.func67 rfl rfl fun w => ?_
    refine HC_seq fun K1 hK1 => ?_
    refine HC_region ?_
    all_goals refine HL_box (cs := #[_, _, _]) rfl rfl rfl rfl fun r1 => ?_
    all_goals refine HL_r rfl rfl rfl rfl (R_assign rfl) ?_
    all_goals refine HL_nil ?_
    all_goals (
      refine HQ_then ?_
      refine hK1 _ _ _ _ ?_; clear hK1 K1
      refine HC_seq fun K2 hK2 => ?_
      refine HC_region ?_
      all_goals refine HL_r rfl rfl rfl rfl (R_fieldAddr rfl rfl (by first | (simp only [Nat.zero_add, Nat.reduceAdd, Nat.reduceMul, Nat.zero_mul, Nat.mul_one, Nat.add_zero]; exact rfl) | exact rfl)) ?_
      all_goals refine HL_r rfl rfl rfl rfl (R_load rfl (known_L (k := 0) rfl) rfl rfl) ?_
      all_goals (refine HL_r rfl rfl rfl rfl (R_pure rfl rfl rfl) ?_; refine HL_wrap_i64 (by omega) (by omega) ?_)
      all_goals (refine HL_r rfl rfl rfl rfl (R_pure rfl rfl rfl) ?_; refine HL_wrap_i64 (by omega) (by omega) ?_)
      all_goals (refine HL_r rfl rfl rfl rfl (R_pure rfl rfl rfl) ?_; refine HL_quo (by omega) (by omega) (by omega) ?_)
      all_goals refine HL_r rfl rfl rfl rfl (R_assign rfl) ?_
      all_goals refine HL_nil ?_
      all_goals (
        refine HQ_then ?_
        refine hK2 _ _ _ _ ?_; clear hK2 K2
        refine HC_ret ?_
        refine HQ_post rfl rfl (.cons (res_tmp rfl) .nil) (fun w1 hs1 => ?_)
        exact ⟨congrArg (fun z => Ending.returned (Value.int .i64 z)) (by omega), hs1.keep⟩
        skip)
      skip)
  · refine ⟨enters_of Tryd.func72 (by kernel_rfl) rfl, ?_⟩
    show PureR Tryd.prog 72 _ _ R
    rw [sizT, if_neg (by decide), if_neg (by decide), if_neg (by decide), if_neg (by decide)]
    refine pureR_of_HC Tryd.func72 rfl rfl fun w => ?_
    refine HC_seq fun K1 hK1 => ?_
    refine HC_region ?_
    all_goals refine HL_box (cs := #[_, _, _]) rfl rfl rfl rfl fun r1 => ?_
    all_goals refine HL_r rfl rfl rfl rfl (R_assign rfl) ?_
    all_goals refine HL_nil ?_
    all_goals (
      refine HQ_then ?_
      refine hK1 _ _ _ _ ?_; clear hK1 K1
      refine HC_seq fun K2 hK2 => ?_
      refine HC_region ?_
      all_goals refine HL_r rfl rfl rfl rfl (R_loadA (vs := [_, _, _]) rfl (known_L (k := 0) rfl) rfl rfl rfl rfl) ?_
      all_goals refine HL_callR rfl rfl rfl (enters_of Tryd.func61 (by kernel_rfl) rfl) hp (fun q hq => Or.inr hq) ?_
      all_goals refine HL_r rfl rfl rfl rfl (R_assign rfl) ?_
      all_goals refine HL_nil ?_
      all_goals (
        refine HQ_then ?_
        refine hK2 _ _ _ _ ?_; clear hK2 K2
        refine HC_ret ?_
        refine HQ_post rfl rfl (.cons (res_tmp rfl) .nil) (fun w1 hs1 => ?_)
        exact ⟨rfl, hs1.keep⟩
        skip)
      skip)
set_option maxRecDepth 10000 in
theorem S_size {R : List (Nat × Obj)} {t : Ty} (ht : t.In R) : ∀ d : Int, 0 ≤ d → chk t d = 0 → fixT t = true → PureR Tryd.prog 27 [t.val].toArray (.int .i64 (sizT t)) R := by
  induction ht with
  | @mk k n p ins hk hn hl hs hi ih =>
  intro d hd hc hf
  obtain ⟨hk8, ho, h6, hci⟩ := chk_mk hc
  have hkk := isK_iff.2 hk8
  have hf0 := hf
  rw [fixT, Bool.and_eq_true] at hf0
  have hfi := fixL_mem.1 hf0.2
  have hz := Z_all (.mk hk hn hl hs hi : Ty.In R (.mk k n p ins)) hd hc hf fun x hx => ih x hx (d + 1) (by omega) (hci x hx) (hfi x hx)
  have hvb : (isK k && !varB k) = true := by rw [hkk, varB_eq hkk]; exact hf0.1
  refine pureR_of_HC Tryd.func27 rfl rfl fun w => ?_
  refine HC_seq fun K1 hK1 => ?_
  refine HC_region ?_
  all_goals refine HL_box (cs := #[_, _, _]) rfl rfl rfl rfl fun r1 => ?_
  all_goals refine HL_r rfl rfl rfl rfl (R_assign rfl) ?_
  all_goals refine HL_nil ?_
  all_goals (
    refine HQ_then ?_
    refine hK1 _ _ _ _ ?_; clear hK1 K1
    refine HC_seq fun K2 hK2 => ?_
    refine HC_drawB [] [(0, .grow (geCall 0 (fun r : Nat => Value.map (some r)) (fun r => [(r, kObj)]))), (1, .pure), (4, .pure), (7, .pure)] 8 [1, 2, 5, 0, 3, 4, 6, 7] (by kernel_rfl) (by kernel_rfl) (by first | exact (fun _ h => nomatch h) | simp [SubS]) ?_
    all_goals refine HB_p (k := 1) rfl rfl rfl rfl rfl (fun _ hS => (R_fieldAddr rfl rfl (by first | (simp only [Nat.zero_add, Nat.reduceAdd, Nat.reduceMul, Nat.zero_mul, Nat.mul_one, Nat.add_zero]; exact rfl) | exact rfl))) ?_
    all_goals (refine HB_r (k := 2) rfl rfl rfl rfl rfl (R_load rfl (known_L (k := 0) rfl) rfl rfl) ?_)
    all_goals (refine HB_r (k := 5) rfl rfl rfl rfl rfl (R_loadA (vs := [_, _, _]) rfl (known_L (k := 0) rfl) rfl rfl rfl rfl) ?_)
    all_goals refine HB_callPE (k := 0) rfl rfl rfl rfl rfl (enters_of Tryd.func34 (by kernel_rfl) rfl) E_kinds fun mr => ?_
    all_goals refine HB_r (k := 3) rfl rfl rfl rfl rfl (R_lookup (keyI (t := 3) (by kernel_rfl)) rfl rfl (known_L (k := 0) rfl) rfl rfl ⟨_, rfl⟩ kMap_dom (kMap_val0 hkk)) ?_
    all_goals refine HB_p (k := 4) rfl rfl rfl rfl rfl (fun _ hS => (R_pure rfl rfl rfl)) ?_
    all_goals refine HB_as (fnV_t hvb) ?_
    all_goals refine HB_callR (k := 6) rfl rfl rfl rfl rfl hz.1 hz.2 (fun q hq => Or.inr hq) ?_
    all_goals refine HB_p (k := 7) rfl rfl rfl rfl rfl (fun _ hS => (R_assign rfl)) ?_
    all_goals refine HB_end ?_
    all_goals refine HL_nil ?_
    all_goals (
      refine HQ_then ?_
      refine hK2 _ _ _ _ ?_; clear hK2 K2
      refine HC_ret ?_
      refine HQ_post rfl rfl (.cons (res_tmp rfl) .nil) (fun w1 hs1 => ?_)
      exact ⟨rfl, hs1.keep⟩
      skip)
    skip)
set_option maxRecDepth 10000 in
theorem S_Size {R : List (Nat × Obj)} {t : Ty} (ht : t.In R) : PureR Tryd.prog 16 [t.val].toArray (.int .i64 (sizeT t)) R := by
  have h1 := S_Fixed ht
  have h2 := S_size ht 0 (by omega)
  obtain ⟨k, n, p, ins⟩ := t
  refine pureR_of_HC Tryd.func16 rfl rfl fun w => ?_
  refine HC_seq fun K1 hK1 => ?_
  refine HC_region ?_
  all_goals refine HL_box (cs := #[_, _, _]) rfl rfl rfl rfl fun r1 => ?_
  all_goals refine HL_r rfl rfl rfl rfl (R_assign rfl) ?_
  all_goals refine HL_nil ?_
  all_goals (
    refine HQ_then ?_
    refine hK1 _ _ _ _ ?_; clear hK1 K1
    refine HC_seq fun K2 hK2 => ?_
    refine HC_seq fun K3 hK3 => ?_
    refine HC_region ?_
    all_goals refine HL_r rfl rfl rfl rfl (R_loadA (vs := [_, _, _]) rfl (known_L (k := 0) rfl) rfl rfl rfl rfl) ?_
    all_goals refine HL_callR rfl rfl rfl (enters_of Tryd.func15 (by kernel_rfl) rfl) h1 (fun q hq => Or.inr hq) ?_
    all_goals refine HL_r rfl rfl rfl rfl (R_pure rfl rfl rfl) ?_
    all_goals refine HL_nil ?_
    all_goals (
      refine HQ_then ?_
      refine hK3 _ _ _ _ ?_; clear hK3 K3
      refine HC_cond rfl (fun h4 => ?_) (fun h4 => ?_)
      · try exact Bool.noConfusion h4
        all_goals try simp only [decide_eq_true_eq, decide_eq_false_iff_not, beq_iff_eq, beq_eq_false_iff_ne, bne_iff_ne, bne_eq_false_iff_eq, Bool.not_eq_true', Bool.not_eq_false', ne_eq, Int.not_lt, Int.not_le, ge_iff_le, gt_iff_lt] at h4
        all_goals (
          refine HC_seq fun K5 hK5 => ?_
          refine HC_region ?_
          all_goals refine HL_r rfl rfl rfl rfl (R_assign rfl) ?_
          all_goals refine HL_nil ?_
          all_goals (
            refine HQ_then ?_
            refine hK5 _ _ _ _ ?_; clear hK5 K5
            refine HC_ret ?_
            refine HQ_thenR ?_; clear hK2 K2
            refine HQ_post rfl rfl (.cons (res_tmp rfl) .nil) (fun w1 hs1 => ?_)
            refine ⟨?_, hs1.keep⟩
            simp_all [sizeT, resVal]
            skip)
          skip)
      · try exact Bool.noConfusion h4
        all_goals try simp only [decide_eq_true_eq, decide_eq_false_iff_not, beq_iff_eq, beq_eq_false_iff_ne, bne_iff_ne, bne_eq_false_iff_eq, Bool.not_eq_true', Bool.not_eq_false', ne_eq, Int.not_lt, Int.not_le, ge_iff_le, gt_iff_lt] at h4
        all_goals (
          refine HC_skip ?_
          refine HQ_then ?_
          refine hK2 _ _ _ _ ?_; clear hK2 K2
          refine HC_seq fun K6 hK6 => ?_
          refine HC_region ?_
          all_goals refine HL_r rfl rfl rfl rfl (R_loadA (vs := [_, _, _]) rfl (known_L (k := 0) rfl) rfl rfl rfl rfl) ?_
          all_goals refine HL_callR rfl rfl rfl (enters_of Tryd.func27 (by kernel_rfl) rfl) (h2 (isFix_iff.1 (by assumption)).1 (isFix_iff.1 (by assumption)).2) (fun q hq => Or.inr hq) ?_
          all_goals refine HL_r rfl rfl rfl rfl (R_assign rfl) ?_
          all_goals refine HL_nil ?_
          all_goals (
            refine HQ_then ?_
            refine hK6 _ _ _ _ ?_; clear hK6 K6
            refine HC_ret ?_
            refine HQ_post rfl rfl (.cons (res_tmp rfl) .nil) (fun w1 hs1 => ?_)
            refine ⟨?_, hs1.keep⟩
            simp_all [sizeT, resVal]
            skip)
          skip)
      skip)
    skip)
end Go.Proofs.YtdadaddakcidjaaDoor
