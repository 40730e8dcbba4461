import Derived.Test.YtnkmbkndpoghdaaQSb
import Derived.Laws.StructEq
namespace Go.Proofs.Ytnkmbkndpoghdaa
set_option linter.all false
open Go.SL Go.RowKit Go.Shelf
set_option maxRecDepth 10000 in
theorem S_cloneS {R : List (Nat × Obj)} {xs : List (BS × BS)} {p : Pl} (hl : xs.length ≤ 1000) (hs : Seg R xs.length (xs.flatMap slC) p) :
    PureT (α := { row : Row // rowOk 2 xs.length (xs.flatMap slC) row }) Try.prog 74 [plV xs.length p].toArray (fun x => rowV xs.length x.1) [] (fun x => rowL 68 (xs.flatMap slC) x.1) R := by
  cases p with
  | none =>
    have h0 : xs = [] := List.length_eq_zero_iff.1 hs
    subst h0
    refine pureT_of_HC Try.func74 rfl rfl fun w => ?_
    refine HC_seq fun K1 hK1 => ?_
    refine HC_region ?_
    all_goals refine HL_r rfl rfl rfl rfl (R_assign rfl) ?_
    all_goals refine HL_nil ?_
    all_goals (
      refine HQ_then ?_
      refine hK1 _ _ _ _ ?_; clear hK1 K1
      refine HC_seq fun K2 hK2 => ?_
      refine HC_seq fun K3 hK3 => ?_
      refine HC_region ?_
      all_goals refine HL_r rfl rfl rfl rfl (R_move rfl) ?_
      all_goals refine HL_r rfl rfl rfl rfl (R_pure rfl rfl rfl) ?_
      all_goals refine HL_nil ?_
      all_goals (
        refine HQ_then ?_
        refine hK3 _ _ _ _ ?_; clear hK3 K3
        refine HC_cond rfl (fun h4 => ?_) (fun h4 => ?_)
        · try exact Bool.noConfusion h4
          all_goals try simp only [decide_eq_true_eq, decide_eq_false_iff_not, beq_iff_eq, beq_eq_false_iff_ne, bne_iff_ne, bne_eq_false_iff_eq, Bool.not_eq_true', Bool.not_eq_false', ne_eq, Int.not_lt, Int.not_le, ge_iff_le, gt_iff_lt] at h4
          all_goals (
            refine HC_seq fun K5 hK5 => ?_
            refine HC_region ?_
            all_goals refine HL_r rfl rfl rfl rfl (R_assign rfl) ?_
            all_goals refine HL_nil ?_
            all_goals (
              refine HQ_then ?_
              refine hK5 _ _ _ _ ?_; clear hK5 K5
              refine HC_ret ?_
              refine HQ_thenR ?_; clear hK2 K2
              refine HQ_post rfl rfl (.cons (res_tmp rfl) .nil) (fun w1 hs1 => ?_)
              exact ⟨⟨none, rfl, rfl⟩, rfl, hs1⟩
              skip)
            skip)
        · try exact Bool.noConfusion h4
          all_goals try simp only [decide_eq_true_eq, decide_eq_false_iff_not, beq_iff_eq, beq_eq_false_iff_ne, bne_iff_ne, bne_eq_false_iff_eq, Bool.not_eq_true', Bool.not_eq_false', ne_eq, Int.not_lt, Int.not_le, ge_iff_le, gt_iff_lt] at h4
          all_goals (
            refine HC_skip ?_
            refine HQ_then ?_
            refine hK2 _ _ _ _ ?_; clear hK2 K2
            refine HC_seq fun K6 hK6 => ?_
            refine HC_region ?_
            all_goals refine HL_buildSlice (vs := []) (zs := []) (r := []) rfl rfl rfl rfl rfl rfl rfl rfl rfl (by decide) rfl fun r1 => ?_
            all_goals refine HL_r rfl rfl rfl rfl (R_move rfl) ?_
            all_goals refine HL_r rfl rfl rfl rfl (R_pure rfl rfl rfl) ?_
            all_goals refine HL_r rfl rfl rfl rfl (R_assign rfl) ?_
            all_goals refine HL_nil ?_
            all_goals (
              refine HQ_then ?_
              refine hK6 _ _ _ _ ?_; clear hK6 K6
              refine HC_ret ?_
              refine HQ_post rfl rfl (.cons (res_tmp rfl) .nil) (fun w1 hs1 => ?_)
              exact ⟨⟨none, rfl, rfl⟩, rfl, hs1⟩
              skip)
            skip)
        skip)
      skip)
  | some q =>
    refine pureT_of_HC Try.func74 rfl rfl fun w => ?_
    refine HC_seq fun K1 hK1 => ?_
    refine HC_region ?_
    all_goals refine HL_r rfl rfl rfl rfl (R_assign rfl) ?_
    all_goals refine HL_nil ?_
    all_goals (
      refine HQ_then ?_
      refine hK1 _ _ _ _ ?_; clear hK1 K1
      refine HC_seq fun K2 hK2 => ?_
      refine HC_seq fun K3 hK3 => ?_
      refine HC_region ?_
      all_goals refine HL_r rfl rfl rfl rfl (R_move rfl) ?_
      all_goals refine HL_r rfl rfl rfl rfl (R_pure rfl rfl rfl) ?_
      all_goals refine HL_nil ?_
      all_goals (
        refine HQ_then ?_
        refine hK3 _ _ _ _ ?_; clear hK3 K3
        refine HC_cond rfl (fun h4 => ?_) (fun h4 => ?_)
        · try exact Bool.noConfusion h4
          all_goals try simp only [decide_eq_true_eq, decide_eq_false_iff_not, beq_iff_eq, beq_eq_false_iff_ne, bne_iff_ne, bne_eq_false_iff_eq, Bool.not_eq_true', Bool.not_eq_false', ne_eq, Int.not_lt, Int.not_le, ge_iff_le, gt_iff_lt] at h4
          all_goals (
            refine HC_seq fun K5 hK5 => ?_
            refine HC_region ?_
            all_goals refine HL_r rfl rfl rfl rfl (R_assign rfl) ?_
            all_goals refine HL_nil ?_
            all_goals (
              refine HQ_then ?_
              refine hK5 _ _ _ _ ?_; clear hK5 K5
              refine HC_ret ?_
              refine HQ_thenR ?_; clear hK2 K2
              refine HQ_post rfl rfl (.cons (res_tmp rfl) .nil) (fun w1 hs1 => ?_)
              exact ⟨⟨row, hrow⟩, rfl, hs1.weakL (List.sublist_append_left _ _)⟩
              skip)
            skip)
        · try exact Bool.noConfusion h4
          all_goals try simp only [decide_eq_true_eq, decide_eq_false_iff_not, beq_iff_eq, beq_eq_false_iff_ne, bne_iff_ne, bne_eq_false_iff_eq, Bool.not_eq_true', Bool.not_eq_false', ne_eq, Int.not_lt, Int.not_le, ge_iff_le, gt_iff_lt] at h4
          all_goals (
            refine HC_skip ?_
            refine HQ_then ?_
            refine hK2 _ _ _ _ ?_; clear hK2 K2
            refine HC_seq fun K6 hK6 => ?_
            refine HC_region ?_
            all_goals refine HL_buildSlice0 rfl rfl rfl rfl fun r1 => ?_
            all_goals refine HL_r rfl rfl rfl rfl (R_move rfl) ?_
            all_goals refine HL_clone (k := 0) (b := 32) (sz := 2) rfl rfl rfl rfl rfl rfl hs (fun q hq => Or.inr hq) rfl rfl rfl rfl rfl (by decide) (cat_len slC_len xs) (cat_one slC_one xs) (by omega) (by omega) fun row hrow => ?_
            all_goals refine HL_r rfl rfl rfl rfl (R_assign rfl) ?_
            all_goals refine HL_nil ?_
            all_goals (
              refine HQ_then ?_
              refine hK6 _ _ _ _ ?_; clear hK6 K6
              refine HC_ret ?_
              refine HQ_post rfl rfl (.cons (res_tmp rfl) .nil) (fun w1 hs1 => ?_)
              exact ⟨⟨row, hrow⟩, rfl, hs1.weakL (List.sublist_append_left _ _)⟩
              skip)
            skip)
        skip)
      skip)
set_option maxRecDepth 10000 in
theorem S_insertS {R : List (Nat × Obj)} {xs : List (BS × BS)} {row : Row} (hl : xs.length ≤ 1000) (hrow : rowOk 2 xs.length (xs.flatMap slC) row) {i : Nat} (hi : i ≤ xs.length) {y : (BS × BS)} {rv : Nat} (hv : (rv, Obj.cells (slC y).toArray 68 (0, 0)) ∈ R) :
    PureT (α := { row' : Row // rowOk 2 (xs.length + 1) ((xs.take i ++ y :: xs.drop i).flatMap slC) row' }) Try.prog 75 [rowV xs.length row, .int .i64 (i : Int), .slice (some ⟨rv, 0, none⟩) 1 1].toArray (fun x => rowV (xs.length + 1) x.1) (rowL 68 (xs.flatMap slC) row) (fun x => rowL 68 ((xs.take i ++ y :: xs.drop i).flatMap slC) x.1) R := by
  obtain ⟨A, hA⟩ : ∃ A, A = (xs.take i).flatMap slC := ⟨_, rfl⟩
  obtain ⟨B, hB⟩ : ∃ B, B = (xs.drop i).flatMap slC := ⟨_, rfl⟩
  obtain ⟨n, hn⟩ : ∃ n, n = xs.length := ⟨_, rfl⟩
  have e1 : xs.flatMap slC = A ++ B := by rw [hA, hB, ← List.flatMap_append, List.take_append_drop]
  have e2 : (xs.take i ++ y :: xs.drop i).flatMap slC = A ++ (slC y ++ B) := by rw [List.flatMap_append, List.flatMap_cons, hA, hB]
  have lA : A.length = i * 2 := by rw [hA, cat_len slC_len, List.length_take, Nat.min_eq_left hi]
  have lB : B.length = (n - i) * 2 := by rw [hB, cat_len slC_len, List.length_drop, hn]
  have lF : (slC y).length = 2 := slC_len y
  have oF : (slC y).all oneB = true := slC_one y
  have oA : A.all oneB = true := by rw [hA]; exact cat_one slC_one _
  have oB : B.all oneB = true := by rw [hB]; exact cat_one slC_one _
  rw [e1] at hrow
  rw [e1, e2]
  rw [← hn] at hl hi hrow ⊢
  clear hA hB e1 e2 hn
  cases row with
  | none =>
    obtain ⟨rfl, hAB⟩ := hrow
    obtain rfl : i = 0 := by omega
    obtain ⟨rfl, rfl⟩ := List.append_eq_nil_iff.1 hAB
    refine pureT_of_HC Try.func75 rfl rfl fun w => ?_
    refine HC_seq fun K1 hK1 => ?_
    refine HC_region ?_
    all_goals refine HL_r rfl rfl rfl rfl (R_assign rfl) ?_
    all_goals refine HL_nil ?_
    all_goals (
      refine HQ_then ?_
      refine hK1 _ _ _ _ ?_; clear hK1 K1
      refine HC_seq fun K2 hK2 => ?_
      refine HC_region ?_
      all_goals refine HL_r rfl rfl rfl rfl (R_move rfl) ?_
      all_goals refine HL_r rfl rfl rfl rfl (R_move rfl) ?_
      all_goals refine HL_r rfl rfl rfl rfl (R_pure rfl rfl rfl) ?_
      all_goals refine HL_nil ?_
      all_goals (
        refine HQ_then ?_
        refine hK2 _ _ _ _ ?_; clear hK2 K2
        refine HC_seq fun K3 hK3 => ?_
        refine HC_region ?_
        all_goals refine HL_r rfl rfl rfl rfl (R_move rfl) ?_
        all_goals (refine HL_r rfl rfl rfl rfl (R_lenSl rfl rfl) ?_)
        all_goals refine HL_r rfl rfl rfl rfl (R_assign rfl) ?_
        all_goals refine HL_nil ?_
        all_goals (
          refine HQ_then ?_
          refine hK3 _ _ _ _ ?_; clear hK3 K3
          refine HC_seq fun K4 hK4 => ?_
          refine HC_seq fun K5 hK5 => ?_
          refine HC_region ?_
          all_goals refine HL_r rfl rfl rfl rfl (R_move rfl) ?_
          all_goals refine HL_r rfl rfl rfl rfl (R_pure rfl rfl rfl) ?_
          all_goals refine HL_nil ?_
          all_goals (
            refine HQ_then ?_
            refine hK5 _ _ _ _ ?_; clear hK5 K5
            refine HC_cond rfl (fun h6 => ?_) (fun h6 => ?_)
            · try exact Bool.noConfusion h6
              all_goals try simp only [decide_eq_true_eq, decide_eq_false_iff_not, beq_iff_eq, beq_eq_false_iff_ne, bne_iff_ne, bne_eq_false_iff_eq, Bool.not_eq_true', Bool.not_eq_false', ne_eq, Int.not_lt, Int.not_le, ge_iff_le, gt_iff_lt] at h6
              all_goals (
                refine HC_seq fun K7 hK7 => ?_
                refine HC_region ?_
                all_goals refine HL_r rfl rfl rfl rfl (R_move rfl) ?_
                all_goals refine HL_r rfl rfl rfl rfl (R_assign rfl) ?_
                all_goals refine HL_nil ?_
                all_goals (
                  refine HQ_then ?_
                  refine hK7 _ _ _ _ ?_; clear hK7 K7
                  refine HC_ret ?_
                  refine HQ_thenR ?_; clear hK4 K4
                  refine HQ_post rfl rfl (.cons (res_tmp rfl) .nil) (fun w1 hs1 => ?_)
                  first
                    | exact ⟨⟨some (r1, cap1, sp1), by simp [lF], hsp1⟩, rfl, by simpa [rowL] using hs1⟩
                    | omega
                    | trace_state
                  skip)
                skip)
            · try exact Bool.noConfusion h6
              all_goals try simp only [decide_eq_true_eq, decide_eq_false_iff_not, beq_iff_eq, beq_eq_false_iff_ne, bne_iff_ne, bne_eq_false_iff_eq, Bool.not_eq_true', Bool.not_eq_false', ne_eq, Int.not_lt, Int.not_le, ge_iff_le, gt_iff_lt] at h6
              all_goals (
                refine HC_skip ?_
                refine HQ_then ?_
                refine hK4 _ _ _ _ ?_; clear hK4 K4
                refine HC_seq fun K8 hK8 => ?_
                refine HC_region ?_
                all_goals refine HL_r rfl rfl rfl rfl (R_move rfl) ?_
                all_goals (refine HL_r rfl rfl rfl rfl (R_lenSl rfl rfl) ?_)
                all_goals refine HL_r rfl rfl rfl rfl (R_assign rfl) ?_
                all_goals refine HL_nil ?_
                all_goals (
                  refine HQ_then ?_
                  refine hK8 _ _ _ _ ?_; clear hK8 K8
                  refine HC_seq fun K9 hK9 => ?_
                  refine HC_seq fun K10 hK10 => ?_
                  refine HC_region ?_
                  all_goals refine HL_r rfl rfl rfl rfl (R_move rfl) ?_
                  all_goals refine HL_r rfl rfl rfl rfl (R_move rfl) ?_
                  all_goals refine HL_r rfl rfl rfl rfl (R_pure rfl rfl rfl) ?_
                  all_goals refine HL_nil ?_
                  all_goals (
                    refine HQ_then ?_
                    refine hK10 _ _ _ _ ?_; clear hK10 K10
                    refine HC_cond rfl (fun h11 => ?_) (fun h11 => ?_)
                    · try exact Bool.noConfusion h11
                      all_goals try simp only [decide_eq_true_eq, decide_eq_false_iff_not, beq_iff_eq, beq_eq_false_iff_ne, bne_iff_ne, bne_eq_false_iff_eq, Bool.not_eq_true', Bool.not_eq_false', ne_eq, Int.not_lt, Int.not_le, ge_iff_le, gt_iff_lt] at h11
                      all_goals (
                        refine HC_seq fun K12 hK12 => ?_
                        refine HC_region ?_
                        all_goals refine HL_r rfl rfl rfl rfl (R_move rfl) ?_
                        all_goals refine HL_r rfl rfl rfl rfl (R_move rfl) ?_
                        all_goals refine HL_append (n := 0) (m := 1) (b := 32) (sz := 2) (news := slC y) (xs := []) (L0 := []) rfl rfl rfl rfl (Or.inr hv) rfl rfl rfl rfl rfl (by decide) rfl rfl oF (by decide) SlOwn.nil (by decide) (by decide) fun r1 cap1 sp1 hsp1 => ?_
                        all_goals refine HL_r rfl rfl rfl rfl (R_assign rfl) ?_
                        all_goals refine HL_nil ?_
                        all_goals (
                          refine HQ_then ?_
                          refine hK12 _ _ _ _ ?_; clear hK12 K12
                          refine HC_ret ?_
                          refine HQ_thenR ?_; clear hK9 K9
                          refine HQ_post rfl rfl (.cons (res_tmp rfl) .nil) (fun w1 hs1 => ?_)
                          first
                            | exact ⟨⟨some (r1, cap1, sp1), by simp [lF], hsp1⟩, rfl, by simpa [rowL] using hs1⟩
                            | omega
                            | trace_state
                          skip)
                        skip)
                    · try exact Bool.noConfusion h11
                      all_goals try simp only [decide_eq_true_eq, decide_eq_false_iff_not, beq_iff_eq, beq_eq_false_iff_ne, bne_iff_ne, bne_eq_false_iff_eq, Bool.not_eq_true', Bool.not_eq_false', ne_eq, Int.not_lt, Int.not_le, ge_iff_le, gt_iff_lt] at h11
                      all_goals (
                        refine HC_skip ?_
                        refine HQ_then ?_
                        refine hK9 _ _ _ _ ?_; clear hK9 K9
                        refine HC_seq fun K13 hK13 => ?_
                        refine HC_seq fun K14 hK14 => ?_
                        refine HC_region ?_
                        all_goals refine HL_r rfl rfl rfl rfl (R_move rfl) ?_
                        all_goals refine HL_r rfl rfl rfl rfl (R_move rfl) ?_
                        all_goals refine HL_r rfl rfl rfl rfl (R_move rfl) ?_
                        all_goals refine HL_r rfl rfl rfl rfl (R_pure rfl rfl rfl) ?_
                        all_goals refine HL_r rfl rfl rfl rfl (R_pure rfl rfl rfl) ?_
                        all_goals refine HL_nil ?_
                        all_goals (
                          refine HQ_then ?_
                          refine hK14 _ _ _ _ ?_; clear hK14 K14
                          refine HC_cond rfl (fun h15 => ?_) (fun h15 => ?_)
                          · try exact Bool.noConfusion h15
                            all_goals try simp only [decide_eq_true_eq, decide_eq_false_iff_not, beq_iff_eq, beq_eq_false_iff_ne, bne_iff_ne, bne_eq_false_iff_eq, Bool.not_eq_true', Bool.not_eq_false', ne_eq, Int.not_lt, Int.not_le, ge_iff_le, gt_iff_lt] at h15
                            all_goals (
                              refine HC_seq fun K16 hK16 => ?_
                              refine HC_region ?_
                              all_goals refine HL_r rfl rfl rfl rfl (R_move rfl) ?_
                              all_goals refine HL_r rfl rfl rfl rfl (R_move rfl) ?_
                              all_goals refine HL_r rfl rfl rfl rfl (R_pure rfl rfl rfl) ?_
                              all_goals refine HL_r rfl rfl rfl rfl (R_move rfl) ?_
                              all_goals refine HL_r rfl rfl rfl rfl (R_move rfl) ?_
                              all_goals refine HL_r rfl rfl rfl rfl (R_move rfl) ?_
                              all_goals refine HL_r rfl rfl rfl rfl (R_pure rfl rfl rfl) ?_
                              all_goals refine HL_r rfl rfl rfl rfl (R_assign rfl) ?_
                              all_goals refine HL_nil ?_
                              all_goals (
                                refine HQ_then ?_
                                refine hK16 _ _ _ _ ?_; clear hK16 K16
                                refine HC_seq fun K17 hK17 => ?_
                                refine HC_region ?_
                                all_goals refine HL_r rfl rfl rfl rfl (R_move rfl) ?_
                                all_goals refine HL_r rfl rfl rfl rfl (R_move rfl) ?_
                                all_goals refine HL_r rfl rfl rfl rfl (R_pure rfl rfl rfl) ?_
                                all_goals refine HL_r rfl rfl rfl rfl (R_move rfl) ?_
                                all_goals refine HL_r rfl rfl rfl rfl (R_pure rfl rfl rfl) ?_
                                all_goals refine HL_nil ?_
                                all_goals (
                                  refine HQ_then ?_
                                  refine hK17 _ _ _ _ ?_; clear hK17 K17
                                  refine HC_seq fun K18 hK18 => ?_
                                  refine HC_draw 8 (by kernel_rfl) (by kernel_rfl) ?_
                                  all_goals refine HD_r rfl rfl rfl (R_move rfl) ?_
                                  all_goals refine HD_r rfl rfl rfl (R_move rfl) ?_
                                  all_goals refine HD_r rfl rfl rfl (R_move rfl) ?_
                                  all_goals refine HD_r rfl rfl rfl (R_pure rfl rfl rfl) ?_
                                  all_goals refine HD_r rfl rfl rfl (R_move rfl) ?_
                                  all_goals refine HD_r rfl rfl rfl (R_move rfl) ?_
                                  all_goals refine HD_r rfl rfl rfl (R_pure rfl rfl rfl) ?_
                                  all_goals refine HD_end ?_
                                  all_goals refine HL_r rfl rfl rfl rfl (R_pure rfl rfl rfl) ?_
                                  all_goals refine HL_nil ?_
                                  all_goals (
                                    refine HQ_then ?_
                                    refine hK18 _ _ _ _ ?_; clear hK18 K18
                                    refine HC_seq fun K19 hK19 => ?_
                                    refine HC_region ?_
                                    all_goals refine HL_r rfl rfl rfl rfl (R_move rfl) ?_
                                    all_goals refine HL_r rfl rfl rfl rfl (R_assign rfl) ?_
                                    all_goals refine HL_nil ?_
                                    all_goals (
                                      refine HQ_then ?_
                                      refine hK19 _ _ _ _ ?_; clear hK19 K19
                                      refine HC_ret ?_
                                      refine HQ_thenR ?_; clear hK13 K13
                                      refine HQ_post rfl rfl (.cons (res_tmp rfl) .nil) (fun w1 hs1 => ?_)
                                      first
                                        | exact ⟨⟨some (r1, cap1, sp1), by simp [lF], hsp1⟩, rfl, by simpa [rowL] using hs1⟩
                                        | omega
                                        | trace_state
                                      skip)
                                    skip)
                                  skip)
                                skip)
                              skip)
                          · try exact Bool.noConfusion h15
                            all_goals try simp only [decide_eq_true_eq, decide_eq_false_iff_not, beq_iff_eq, beq_eq_false_iff_ne, bne_iff_ne, bne_eq_false_iff_eq, Bool.not_eq_true', Bool.not_eq_false', ne_eq, Int.not_lt, Int.not_le, ge_iff_le, gt_iff_lt] at h15
                            all_goals (
                              refine HC_skip ?_
                              refine HQ_then ?_
                              refine hK13 _ _ _ _ ?_; clear hK13 K13
                              refine HC_seq fun K20 hK20 => ?_
                              refine HC_region ?_
                              all_goals refine HL_r rfl rfl rfl rfl (R_move rfl) ?_
                              all_goals refine HL_r rfl rfl rfl rfl (R_move rfl) ?_
                              all_goals refine HL_r rfl rfl rfl rfl (R_move rfl) ?_
                              all_goals refine HL_r rfl rfl rfl rfl (R_pure rfl rfl rfl) ?_
                              all_goals refine HL_r rfl rfl rfl rfl (R_assign rfl) ?_
                              all_goals refine HL_nil ?_
                              all_goals (
                                refine HQ_then ?_
                                refine hK20 _ _ _ _ ?_; clear hK20 K20
                                refine HC_seq fun K21 hK21 => ?_
                                refine HC_seq fun K22 hK22 => ?_
                                refine HC_region ?_
                                all_goals refine HL_r rfl rfl rfl rfl (R_move rfl) ?_
                                all_goals refine HL_r rfl rfl rfl rfl (R_move rfl) ?_
                                all_goals refine HL_r rfl rfl rfl rfl (R_move rfl) ?_
                                all_goals refine HL_r rfl rfl rfl rfl (R_move rfl) ?_
                                all_goals refine HL_r rfl rfl rfl rfl (R_pure rfl rfl rfl) ?_
                                all_goals refine HL_callP rfl rfl rfl (enters_of Try.func92 (by kernel_rfl) rfl) (P_api_Slot_ ..) ?_
                                all_goals refine HL_r rfl rfl rfl rfl (R_pure rfl rfl rfl) ?_
                                all_goals refine HL_nil ?_
                                all_goals (
                                  refine HQ_then ?_
                                  refine hK22 _ _ _ _ ?_; clear hK22 K22
                                  refine HC_cond rfl (fun h23 => ?_) (fun h23 => ?_)
                                  · try exact Bool.noConfusion h23
                                    all_goals try simp only [decide_eq_true_eq, decide_eq_false_iff_not, beq_iff_eq, beq_eq_false_iff_ne, bne_iff_ne, bne_eq_false_iff_eq, Bool.not_eq_true', Bool.not_eq_false', ne_eq, Int.not_lt, Int.not_le, ge_iff_le, gt_iff_lt] at h23
                                    all_goals (
                                      refine HC_seq fun K24 hK24 => ?_
                                      refine HC_draw 8 (by kernel_rfl) (by kernel_rfl) ?_
                                      all_goals refine HD_r rfl rfl rfl (R_move rfl) ?_
                                      all_goals refine HD_r rfl rfl rfl (R_move rfl) ?_
                                      all_goals refine HD_r rfl rfl rfl (R_move rfl) ?_
                                      all_goals refine HD_r rfl rfl rfl (R_pure rfl rfl rfl) ?_
                                      all_goals refine HD_r rfl rfl rfl (R_move rfl) ?_
                                      all_goals refine HD_r rfl rfl rfl (R_move rfl) ?_
                                      all_goals refine HD_r rfl rfl rfl (R_pure rfl rfl rfl) ?_
                                      all_goals refine HD_end ?_
                                      all_goals refine HL_r rfl rfl rfl rfl (R_pure rfl rfl rfl) ?_
                                      all_goals refine HL_nil ?_
                                      all_goals (
                                        refine HQ_then ?_
                                        refine hK24 _ _ _ _ ?_; clear hK24 K24
                                        refine HC_seq fun K25 hK25 => ?_
                                        refine HC_region ?_
                                        all_goals refine HL_r rfl rfl rfl rfl (R_move rfl) ?_
                                        all_goals refine HL_r rfl rfl rfl rfl (R_move rfl) ?_
                                        all_goals refine HL_r rfl rfl rfl rfl (R_pure rfl rfl rfl) ?_
                                        all_goals refine HL_r rfl rfl rfl rfl (R_move rfl) ?_
                                        all_goals refine HL_r rfl rfl rfl rfl (R_pure rfl rfl rfl) ?_
                                        all_goals refine HL_nil ?_
                                        all_goals (
                                          refine HQ_then ?_
                                          refine hK25 _ _ _ _ ?_; clear hK25 K25
                                          refine HC_seq fun K26 hK26 => ?_
                                          refine HC_region ?_
                                          all_goals refine HL_r rfl rfl rfl rfl (R_move rfl) ?_
                                          all_goals refine HL_r rfl rfl rfl rfl (R_assign rfl) ?_
                                          all_goals refine HL_nil ?_
                                          all_goals (
                                            refine HQ_then ?_
                                            refine hK26 _ _ _ _ ?_; clear hK26 K26
                                            refine HC_ret ?_
                                            refine HQ_thenR ?_; clear hK21 K21
                                            refine HQ_post rfl rfl (.cons (res_tmp rfl) .nil) (fun w1 hs1 => ?_)
                                            first
                                              | exact ⟨⟨some (r1, cap1, sp1), by simp [lF], hsp1⟩, rfl, by simpa [rowL] using hs1⟩
                                              | omega
                                              | trace_state
                                            skip)
                                          skip)
                                        skip)
                                      skip)
                                  · try exact Bool.noConfusion h23
                                    all_goals try simp only [decide_eq_true_eq, decide_eq_false_iff_not, beq_iff_eq, beq_eq_false_iff_ne, bne_iff_ne, bne_eq_false_iff_eq, Bool.not_eq_true', Bool.not_eq_false', ne_eq, Int.not_lt, Int.not_le, ge_iff_le, gt_iff_lt] at h23
                                    all_goals (
                                      refine HC_skip ?_
                                      refine HQ_then ?_
                                      refine hK21 _ _ _ _ ?_; clear hK21 K21
                                      refine HC_seq fun K27 hK27 => ?_
                                      refine HC_region ?_
                                      all_goals refine HL_r rfl rfl rfl rfl (R_move rfl) ?_
                                      all_goals refine HL_r rfl rfl rfl rfl (R_move rfl) ?_
                                      all_goals refine HL_r rfl rfl rfl rfl (R_pure rfl rfl rfl) ?_
                                      all_goals refine HL_r rfl rfl rfl rfl (R_move rfl) ?_
                                      all_goals refine HL_r rfl rfl rfl rfl (R_pure rfl rfl rfl) ?_
                                      all_goals refine HL_nil ?_
                                      all_goals (
                                        refine HQ_then ?_
                                        refine hK27 _ _ _ _ ?_; clear hK27 K27
                                        refine HC_seq fun K28 hK28 => ?_
                                        refine HC_region ?_
                                        all_goals refine HL_r rfl rfl rfl rfl (R_move rfl) ?_
                                        all_goals refine HL_r rfl rfl rfl rfl (R_move rfl) ?_
                                        all_goals refine HL_r rfl rfl rfl rfl (R_pure rfl rfl rfl) ?_
                                        all_goals refine HL_r rfl rfl rfl rfl (R_move rfl) ?_
                                        all_goals refine HL_callP rfl rfl rfl (enters_of Try.func93 (by kernel_rfl) rfl) (P_api_Slot_ ..) ?_
                                        all_goals refine HL_nil ?_
                                        all_goals (
                                          refine HQ_then ?_
                                          refine hK28 _ _ _ _ ?_; clear hK28 K28
                                          refine HC_seq fun K29 hK29 => ?_
                                          refine HC_region ?_
                                          all_goals refine HL_r rfl rfl rfl rfl (R_move rfl) ?_
                                          all_goals refine HL_r rfl rfl rfl rfl (R_assign rfl) ?_
                                          all_goals refine HL_nil ?_
                                          all_goals (
                                            refine HQ_then ?_
                                            refine hK29 _ _ _ _ ?_; clear hK29 K29
                                            refine HC_ret ?_
                                            refine HQ_post rfl rfl (.cons (res_tmp rfl) .nil) (fun w1 hs1 => ?_)
                                            first
                                              | exact ⟨⟨some (r1, cap1, sp1), by simp [lF], hsp1⟩, rfl, by simpa [rowL] using hs1⟩
                                              | omega
                                              | trace_state
                                            skip)
                                          skip)
                                        skip)
                                      skip)
                                  skip)
                                skip)
                              skip)
                          skip)
                        skip)
                    skip)
                  skip)
                skip)
            skip)
          skip)
        skip)
      skip)
  | some q =>
    obtain ⟨r, cap, sp⟩ := q
    obtain ⟨hr1, hr2⟩ := hrow
    have hcap : n ≤ cap := by omega
    refine pureT_of_HC Try.func75 rfl rfl fun w => ?_
    change HC _ _ _ [(r, .cells ((A ++ B) ++ sp).toArray 68 (0, 0))] _ _ _
    refine HC_seq fun K1 hK1 => ?_
    refine HC_region ?_
    all_goals refine HL_r rfl rfl rfl rfl (R_assign rfl) ?_
    all_goals refine HL_nil ?_
    all_goals (
      refine HQ_then ?_
      refine hK1 _ _ _ _ ?_; clear hK1 K1
      refine HC_seq fun K2 hK2 => ?_
      refine HC_region ?_
      all_goals refine HL_r rfl rfl rfl rfl (R_move rfl) ?_
      all_goals refine HL_r rfl rfl rfl rfl (R_move rfl) ?_
      all_goals refine HL_r rfl rfl rfl rfl (R_sliceSl (m := i) (kl := some i) (kh := none) (km := none) (q := n) (z := cap) rfl rfl rfl ⟨_, rfl⟩ trivial trivial rfl rfl rfl (by omega) (by omega) (by omega) (fun _ => rfl) rfl) ?_
      all_goals refine HL_nil ?_
      all_goals (
        refine HQ_then ?_
        refine hK2 _ _ _ _ ?_; clear hK2 K2
        refine HC_seq fun K3 hK3 => ?_
        refine HC_region ?_
        all_goals refine HL_r rfl rfl rfl rfl (R_move rfl) ?_
        all_goals (refine HL_r rfl rfl rfl rfl (R_lenSl rfl rfl) ?_)
        all_goals refine HL_r rfl rfl rfl rfl (R_assign rfl) ?_
        all_goals refine HL_nil ?_
        all_goals (
          refine HQ_then ?_
          refine hK3 _ _ _ _ ?_; clear hK3 K3
          refine HC_seq fun K4 hK4 => ?_
          refine HC_seq fun K5 hK5 => ?_
          refine HC_region ?_
          all_goals refine HL_r rfl rfl rfl rfl (R_move rfl) ?_
          all_goals refine HL_r rfl rfl rfl rfl (R_pure rfl rfl rfl) ?_
          all_goals refine HL_nil ?_
          all_goals (
            refine HQ_then ?_
            refine hK5 _ _ _ _ ?_; clear hK5 K5
            refine HC_cond rfl (fun h6 => ?_) (fun h6 => ?_)
            · try exact Bool.noConfusion h6
              all_goals try simp only [decide_eq_true_eq, decide_eq_false_iff_not, beq_iff_eq, beq_eq_false_iff_ne, bne_iff_ne, bne_eq_false_iff_eq, Bool.not_eq_true', Bool.not_eq_false', ne_eq, Int.not_lt, Int.not_le, ge_iff_le, gt_iff_lt] at h6
              all_goals (
                refine HC_seq fun K7 hK7 => ?_
                refine HC_region ?_
                all_goals refine HL_r rfl rfl rfl rfl (R_move rfl) ?_
                all_goals refine HL_r rfl rfl rfl rfl (R_assign rfl) ?_
                all_goals refine HL_nil ?_
                all_goals (
                  refine HQ_then ?_
                  refine hK7 _ _ _ _ ?_; clear hK7 K7
                  refine HC_ret ?_
                  refine HQ_thenR ?_; clear hK4 K4
                  refine HQ_post rfl rfl (.cons (res_tmp rfl) .nil) (fun w1 hs1 => ?_)
                  first
                    | exact ⟨⟨some (r1, cap1, sp1), by simp only [List.length_append, List.length_nil, lF]; omega, hsp1⟩, rfl, by simpa [rowL] using hs1⟩
                    | exact ⟨⟨some (r2, cap2, sp2), by simp only [List.length_append]; omega, hsp2⟩, rfl, hs1.weakL (by simp [rowL])⟩
                    | exact ⟨⟨some (r, cap, X4), by simp only [List.length_append]; omega, by have := congrArg List.length hX; simp only [List.length_append] at this; omega⟩, rfl, by simpa [rowL] using hs1⟩
                    | trace_state
                  skip)
                skip)
            · try exact Bool.noConfusion h6
              all_goals try simp only [decide_eq_true_eq, decide_eq_false_iff_not, beq_iff_eq, beq_eq_false_iff_ne, bne_iff_ne, bne_eq_false_iff_eq, Bool.not_eq_true', Bool.not_eq_false', ne_eq, Int.not_lt, Int.not_le, ge_iff_le, gt_iff_lt] at h6
              all_goals (
                refine HC_skip ?_
                refine HQ_then ?_
                refine hK4 _ _ _ _ ?_; clear hK4 K4
                refine HC_seq fun K8 hK8 => ?_
                refine HC_region ?_
                all_goals refine HL_r rfl rfl rfl rfl (R_move rfl) ?_
                all_goals (refine HL_r rfl rfl rfl rfl (R_lenSl rfl rfl) ?_)
                all_goals refine HL_r rfl rfl rfl rfl (R_assign rfl) ?_
                all_goals refine HL_nil ?_
                all_goals (
                  refine HQ_then ?_
                  refine hK8 _ _ _ _ ?_; clear hK8 K8
                  refine HC_seq fun K9 hK9 => ?_
                  refine HC_seq fun K10 hK10 => ?_
                  refine HC_region ?_
                  all_goals refine HL_r rfl rfl rfl rfl (R_move rfl) ?_
                  all_goals refine HL_r rfl rfl rfl rfl (R_move rfl) ?_
                  all_goals refine HL_r rfl rfl rfl rfl (R_pure rfl rfl rfl) ?_
                  all_goals refine HL_nil ?_
                  all_goals (
                    refine HQ_then ?_
                    refine hK10 _ _ _ _ ?_; clear hK10 K10
                    refine HC_cond rfl (fun h11 => ?_) (fun h11 => ?_)
                    · try exact Bool.noConfusion h11
                      all_goals try simp only [decide_eq_true_eq, decide_eq_false_iff_not, beq_iff_eq, beq_eq_false_iff_ne, bne_iff_ne, bne_eq_false_iff_eq, Bool.not_eq_true', Bool.not_eq_false', ne_eq, Int.not_lt, Int.not_le, ge_iff_le, gt_iff_lt] at h11
                      all_goals (
                        refine HC_seq fun K12 hK12 => ?_
                        refine HC_region ?_
                        all_goals refine HL_r rfl rfl rfl rfl (R_move rfl) ?_
                        all_goals refine HL_r rfl rfl rfl rfl (R_move rfl) ?_
                        all_goals obtain rfl : B = [] := List.length_eq_zero_iff.1 (by omega)
                        all_goals refine HL_append (n := n) (m := 1) (b := 32) (sz := 2) (news := slC y) (xs := A ++ []) (L0 := []) rfl rfl rfl rfl (Or.inr hv) rfl rfl rfl rfl rfl (by decide) rfl lF oF (by decide) (SlOwn.own (k := 0) rfl (by simp only [List.toList_toArray]; rw [List.take_left' hr1]) hr1 (by rw [List.size_toArray, List.length_append, hr1]; omega) rfl) (by omega) (by omega) fun r1 cap1 sp1 hsp1 => ?_
                        all_goals refine HL_r rfl rfl rfl rfl (R_assign rfl) ?_
                        all_goals refine HL_nil ?_
                        all_goals (
                          refine HQ_then ?_
                          refine hK12 _ _ _ _ ?_; clear hK12 K12
                          refine HC_ret ?_
                          refine HQ_thenR ?_; clear hK9 K9
                          refine HQ_post rfl rfl (.cons (res_tmp rfl) .nil) (fun w1 hs1 => ?_)
                          first
                            | exact ⟨⟨some (r1, cap1, sp1), by simp only [List.length_append, List.length_nil, lF]; omega, hsp1⟩, rfl, by simpa [rowL] using hs1⟩
                            | exact ⟨⟨some (r2, cap2, sp2), by simp only [List.length_append]; omega, hsp2⟩, rfl, hs1.weakL (by simp [rowL])⟩
                            | exact ⟨⟨some (r, cap, X4), by simp only [List.length_append]; omega, by have := congrArg List.length hX; simp only [List.length_append] at this; omega⟩, rfl, by simpa [rowL] using hs1⟩
                            | trace_state
                          skip)
                        skip)
                    · try exact Bool.noConfusion h11
                      all_goals try simp only [decide_eq_true_eq, decide_eq_false_iff_not, beq_iff_eq, beq_eq_false_iff_ne, bne_iff_ne, bne_eq_false_iff_eq, Bool.not_eq_true', Bool.not_eq_false', ne_eq, Int.not_lt, Int.not_le, ge_iff_le, gt_iff_lt] at h11
                      all_goals (
                        refine HC_skip ?_
                        refine HQ_then ?_
                        refine hK9 _ _ _ _ ?_; clear hK9 K9
                        refine HC_seq fun K13 hK13 => ?_
                        refine HC_seq fun K14 hK14 => ?_
                        refine HC_region ?_
                        all_goals refine HL_r rfl rfl rfl rfl (R_move rfl) ?_
                        all_goals refine HL_r rfl rfl rfl rfl (R_move rfl) ?_
                        all_goals (refine HL_r rfl rfl rfl rfl (R_pure rfl rfl rfl) ?_; refine HL_wrap_i64 (by omega) (by omega) ?_)
                        all_goals refine HL_r rfl rfl rfl rfl (R_move rfl) ?_
                        all_goals refine HL_r rfl rfl rfl rfl (R_capSl rfl rfl) ?_
                        all_goals refine HL_r rfl rfl rfl rfl (R_pure rfl rfl rfl) ?_
                        all_goals refine HL_nil ?_
                        all_goals (
                          refine HQ_then ?_
                          refine hK14 _ _ _ _ ?_; clear hK14 K14
                          refine HC_cond rfl (fun h15 => ?_) (fun h15 => ?_)
                          · try exact Bool.noConfusion h15
                            all_goals try simp only [decide_eq_true_eq, decide_eq_false_iff_not, beq_iff_eq, beq_eq_false_iff_ne, bne_iff_ne, bne_eq_false_iff_eq, Bool.not_eq_true', Bool.not_eq_false', ne_eq, Int.not_lt, Int.not_le, ge_iff_le, gt_iff_lt] at h15
                            all_goals (
                              refine HC_seq fun K16 hK16 => ?_
                              refine HC_region ?_
                              all_goals refine HL_r rfl rfl rfl rfl (R_move rfl) ?_
                              all_goals refine HL_r rfl rfl rfl rfl (R_move rfl) ?_
                              all_goals refine HL_r rfl rfl rfl rfl (R_sliceSl (sz := 2) (q := i) (kl := none) (kh := some (i)) (km := none) (m := 0) (z := cap) (off' := 0) rfl rfl rfl trivial ⟨_, rfl⟩ trivial rfl rfl rfl (by omega) (by omega) (by omega) (fun h => by cases h) (by split <;> omega)) ?_
                              all_goals refine HL_r rfl rfl rfl rfl (R_move rfl) ?_
                              all_goals refine HL_r rfl rfl rfl rfl (R_move rfl) ?_
                              all_goals (refine HL_r rfl rfl rfl rfl (R_pure rfl rfl rfl) ?_; refine HL_wrap_i64 (by omega) (by omega) ?_)
                              all_goals refine HL_r rfl rfl rfl rfl (R_move rfl) ?_
                              all_goals refine HL_r rfl rfl rfl rfl (R_pure rfl rfl rfl) ?_; refine HL_as (show _ = Value.int .i64 ((n + 1 - i : Nat) : Int) from by rw [wrap_i64 (by omega) (by omega)]; congr 1 <;> omega) ?_
                              all_goals refine HL_appendZ (r := r) (off := 0) (n := i) (cap := cap) (m := n + 1 - i) (sz := 2) (b := 32) (xs := A) rfl rfl rfl rfl (known_L (k := 0) rfl) rfl rfl rfl rfl rfl rfl (by decide) (by simp only [List.toList_toArray, List.drop_zero]; rw [List.append_assoc, List.take_left' lA]) lA (by omega) (by omega) (by omega) (by omega) (by omega) fun r2 cap2 Z sp2 hZ hsp2 => ?_
                              all_goals rw [show i + (n + 1 - i) = n + 1 by omega] at hsp2 ⊢
                              all_goals obtain ⟨Z1, Z2, rfl, lZ1⟩ := cut (l := Z) (a := 2) (by omega)
                              all_goals have lZ2 : Z2.length = (n - i) * 2 := by rw [List.length_append, lZ1] at hZ; omega
                              all_goals rw [show A ++ (Z1 ++ Z2) ++ sp2 = A ++ (Z1 ++ (Z2 ++ sp2)) by simp only [List.append_assoc]]
                              all_goals refine HL_r rfl rfl rfl rfl (R_assign rfl) ?_
                              all_goals refine HL_nil ?_
                              all_goals (
                                refine HQ_then ?_
                                refine hK16 _ _ _ _ ?_; clear hK16 K16
                                refine HC_seq fun K17 hK17 => ?_
                                refine HC_region ?_
                                all_goals refine HL_r rfl rfl rfl rfl (R_move rfl) ?_
                                all_goals refine HL_r rfl rfl rfl rfl (R_move rfl) ?_
                                all_goals refine HL_r rfl rfl rfl rfl (R_sliceSl (sz := 2) (m := i) (kl := some (i)) (kh := none) (km := none) (q := n + 1) (z := cap2) (off' := i * 2) rfl rfl rfl ⟨_, rfl⟩ trivial trivial rfl rfl rfl (by omega) (by omega) (by omega) (fun _ => rfl) (by rw [if_neg (by omega)]; omega)) ?_
                                all_goals refine HL_r rfl rfl rfl rfl (R_move rfl) ?_
                                all_goals refine HL_copy (k := 0) (n := 1) (sz := 2) (vs := slC y) (cs' := A ++ (slC y ++ (Z2 ++ sp2))) rfl rfl rfl rfl rfl (Or.inr hv) rfl rfl (by simp only [Nat.min_def]; split <;> omega) rfl lF oF (by simp only [List.size_toArray, List.length_append]; omega) (splice lA (by rw [lZ1])) rfl ?_
                                all_goals refine HL_nil ?_
                                all_goals (
                                  refine HQ_then ?_
                                  refine hK17 _ _ _ _ ?_; clear hK17 K17
                                  refine HC_seq fun K18 hK18 => ?_
                                  refine HC_draw 8 (by kernel_rfl) (by kernel_rfl) ?_
                                  all_goals refine HD_r rfl rfl rfl (R_move rfl) ?_
                                  all_goals refine HD_r rfl rfl rfl (R_move rfl) ?_
                                  all_goals refine HD_r rfl rfl rfl (R_move rfl) ?_
                                  all_goals refine HD_r rfl rfl rfl (R_pure rfl rfl rfl) ?_; refine HD_as (show _ = Value.int .i64 ((i + 1 : Nat) : Int) from by rw [wrap_i64 (by omega) (by omega)]; congr 1 <;> omega) ?_
                                  all_goals refine HD_r rfl rfl rfl (R_sliceSl (sz := 2) (m := i + 1) (kl := some (i + 1)) (kh := none) (km := none) (q := n + 1) (z := cap2) (off' := (i + 1) * 2) rfl rfl rfl ⟨_, rfl⟩ trivial trivial rfl rfl rfl (by omega) (by omega) (by omega) (fun _ => rfl) (by rw [if_neg (by omega)]; omega)) ?_
                                  all_goals refine HD_r rfl rfl rfl (R_move rfl) ?_
                                  all_goals refine HD_r rfl rfl rfl (R_move rfl) ?_
                                  all_goals refine HD_r rfl rfl rfl (R_sliceSl (sz := 2) (m := i) (kl := some (i)) (kh := none) (km := none) (q := n) (z := cap) (off' := i * 2) rfl rfl rfl ⟨_, rfl⟩ trivial trivial rfl rfl rfl (by omega) (by omega) (by omega) (fun _ => rfl) (by rw [if_neg (by omega)]; omega)) ?_
                                  all_goals refine HD_end ?_
                                  all_goals rw [show A ++ (slC y ++ (Z2 ++ sp2)) = (A ++ slC y) ++ (Z2 ++ sp2) by simp only [List.append_assoc]]
                                  all_goals refine HL_copy (k := 0) (n := n - i) (sz := 2) (vs := B) (cs' := (A ++ slC y) ++ (B ++ sp2)) rfl rfl rfl rfl rfl (known_L (k := 1) rfl) rfl rfl (by simp only [Nat.min_def]; split <;> omega) (by simp only [List.toList_toArray]; rw [List.append_assoc, List.drop_left' lA, List.take_left' lB]) lB oB (by simp only [List.size_toArray, List.length_append]; omega) (splice (by rw [List.length_append, lA, lF]; omega) lZ2) rfl ?_
                                  all_goals refine HL_nil ?_
                                  all_goals (
                                    refine HQ_then ?_
                                    refine hK18 _ _ _ _ ?_; clear hK18 K18
                                    refine HC_seq fun K19 hK19 => ?_
                                    refine HC_region ?_
                                    all_goals refine HL_r rfl rfl rfl rfl (R_move rfl) ?_
                                    all_goals refine HL_r rfl rfl rfl rfl (R_assign rfl) ?_
                                    all_goals refine HL_nil ?_
                                    all_goals (
                                      refine HQ_then ?_
                                      refine hK19 _ _ _ _ ?_; clear hK19 K19
                                      refine HC_ret ?_
                                      refine HQ_thenR ?_; clear hK13 K13
                                      refine HQ_post rfl rfl (.cons (res_tmp rfl) .nil) (fun w1 hs1 => ?_)
                                      first
                                        | exact ⟨⟨some (r1, cap1, sp1), by simp only [List.length_append, List.length_nil, lF]; omega, hsp1⟩, rfl, by simpa [rowL] using hs1⟩
                                        | exact ⟨⟨some (r2, cap2, sp2), by simp only [List.length_append]; omega, hsp2⟩, rfl, hs1.weakL (by simp [rowL])⟩
                                        | exact ⟨⟨some (r, cap, X4), by simp only [List.length_append]; omega, by have := congrArg List.length hX; simp only [List.length_append] at this; omega⟩, rfl, by simpa [rowL] using hs1⟩
                                        | trace_state
                                      skip)
                                    skip)
                                  skip)
                                skip)
                              skip)
                          · try exact Bool.noConfusion h15
                            all_goals try simp only [decide_eq_true_eq, decide_eq_false_iff_not, beq_iff_eq, beq_eq_false_iff_ne, bne_iff_ne, bne_eq_false_iff_eq, Bool.not_eq_true', Bool.not_eq_false', ne_eq, Int.not_lt, Int.not_le, ge_iff_le, gt_iff_lt] at h15
                            all_goals (
                              refine HC_skip ?_
                              refine HQ_then ?_
                              refine hK13 _ _ _ _ ?_; clear hK13 K13
                              refine HC_seq fun K20 hK20 => ?_
                              refine HC_region ?_
                              all_goals refine HL_r rfl rfl rfl rfl (R_move rfl) ?_
                              all_goals refine HL_r rfl rfl rfl rfl (R_move rfl) ?_
                              all_goals refine HL_r rfl rfl rfl rfl (R_move rfl) ?_
                              all_goals refine HL_r rfl rfl rfl rfl (R_pure rfl rfl rfl) ?_; refine HL_as (show _ = Value.int .i64 ((n + 1 : Nat) : Int) from by rw [wrap_i64 (by omega) (by omega)]; congr 1 <;> omega) ?_
                              all_goals refine HL_r rfl rfl rfl rfl (R_sliceSl (sz := 2) (q := n + 1) (kl := none) (kh := some (n + 1)) (km := none) (m := 0) (z := cap) (off' := 0) rfl rfl rfl trivial ⟨_, rfl⟩ trivial rfl rfl rfl (by omega) (by omega) (by omega) (fun h => by cases h) (by split <;> omega)) ?_
                              all_goals refine HL_r rfl rfl rfl rfl (R_assign rfl) ?_
                              all_goals refine HL_nil ?_
                              all_goals (
                                refine HQ_then ?_
                                refine hK20 _ _ _ _ ?_; clear hK20 K20
                                refine HC_seq fun K21 hK21 => ?_
                                refine HC_seq fun K22 hK22 => ?_
                                refine HC_region ?_
                                all_goals refine HL_r rfl rfl rfl rfl (R_move rfl) ?_
                                all_goals refine HL_r rfl rfl rfl rfl (R_move rfl) ?_
                                all_goals refine HL_r rfl rfl rfl rfl (R_move rfl) ?_
                                all_goals refine HL_r rfl rfl rfl rfl (R_move rfl) ?_
                                all_goals refine HL_r rfl rfl rfl rfl (R_pure rfl rfl rfl) ?_; refine HL_as (show _ = Value.int .i64 ((i + 1 : Nat) : Int) from by rw [wrap_i64 (by omega) (by omega)]; congr 1 <;> omega) ?_
                                all_goals refine HL_r rfl rfl rfl rfl (R_sliceSl (sz := 2) (m := i + 1) (kl := some (i + 1)) (kh := none) (km := none) (q := n + 1) (z := cap) (off' := (i + 1) * 2) rfl rfl rfl ⟨_, rfl⟩ trivial trivial rfl rfl rfl (by omega) (by omega) (by omega) (fun _ => rfl) (by rw [if_neg (by omega)]; omega)) ?_
                                all_goals refine HL_r rfl rfl rfl rfl (R_overlapsR (k := 0) rfl rfl rfl hv rfl rfl rfl (by simp only [List.size_toArray, List.length_append]; omega) Try.func92 rfl rfl rfl rfl) ?_
                                all_goals refine HL_r rfl rfl rfl rfl (R_pure rfl rfl rfl) ?_
                                all_goals refine HL_nil ?_
                                all_goals (
                                  refine HQ_then ?_
                                  refine hK22 _ _ _ _ ?_; clear hK22 K22
                                  refine HC_cond rfl (fun h23 => ?_) (fun h23 => ?_)
                                  · try exact Bool.noConfusion h23
                                    all_goals try simp only [decide_eq_true_eq, decide_eq_false_iff_not, beq_iff_eq, beq_eq_false_iff_ne, bne_iff_ne, bne_eq_false_iff_eq, Bool.not_eq_true', Bool.not_eq_false', ne_eq, Int.not_lt, Int.not_le, ge_iff_le, gt_iff_lt] at h23
                                    all_goals (
                                      refine HC_seq fun K24 hK24 => ?_
                                      refine HC_draw 8 (by kernel_rfl) (by kernel_rfl) ?_
                                      all_goals refine HD_r rfl rfl rfl (R_move rfl) ?_
                                      all_goals refine HD_r rfl rfl rfl (R_move rfl) ?_
                                      all_goals refine HD_r rfl rfl rfl (R_move rfl) ?_
                                      all_goals refine HD_r rfl rfl rfl (R_pure rfl rfl rfl) ?_; refine HD_as (show _ = Value.int .i64 ((i + 1 : Nat) : Int) from by rw [wrap_i64 (by omega) (by omega)]; congr 1 <;> omega) ?_
                                      all_goals refine HD_r rfl rfl rfl (R_sliceSl (sz := 2) (m := i + 1) (kl := some (i + 1)) (kh := none) (km := none) (q := n + 1) (z := cap) (off' := (i + 1) * 2) rfl rfl rfl ⟨_, rfl⟩ trivial trivial rfl rfl rfl (by omega) (by omega) (by omega) (fun _ => rfl) (by rw [if_neg (by omega)]; omega)) ?_
                                      all_goals refine HD_r rfl rfl rfl (R_move rfl) ?_
                                      all_goals refine HD_r rfl rfl rfl (R_move rfl) ?_
                                      all_goals refine HD_r rfl rfl rfl (R_sliceSl (sz := 2) (m := i) (kl := some (i)) (kh := none) (km := none) (q := n + 1) (z := cap) (off' := i * 2) rfl rfl rfl ⟨_, rfl⟩ trivial trivial rfl rfl rfl (by omega) (by omega) (by omega) (fun _ => rfl) (by rw [if_neg (by omega)]; omega)) ?_
                                      all_goals refine HD_end ?_
                                      all_goals obtain ⟨X1, X2, hX, lX1⟩ := cut (l := B ++ sp) (a := 2) (by rw [List.length_append]; omega)
                                      all_goals obtain ⟨X3, X4, rfl, lX3⟩ := cut (l := X2) (a := (n - i) * 2) (by have := congrArg List.length hX; simp only [List.length_append] at this; omega)
                                      all_goals rw [show (A ++ B) ++ sp = (A ++ X1) ++ (X3 ++ X4) by rw [List.append_assoc, hX]; simp only [List.append_assoc]]
                                      all_goals refine HL_copy (k := 0) (n := n - i) (sz := 2) (vs := B) (cs' := (A ++ X1) ++ (B ++ X4)) rfl rfl rfl rfl rfl (known_L (k := 0) rfl) rfl rfl (by simp only [Nat.min_def]; split <;> omega) (by simp only [List.toList_toArray]; rw [List.append_assoc, List.drop_left' lA, ← hX, List.take_left' lB]) lB oB (by have := congrArg List.length hX; simp only [List.size_toArray, List.length_append] at this ⊢; omega) (splice (by rw [List.length_append, lA, lX1]; omega) lX3) rfl ?_
                                      all_goals refine HL_nil ?_
                                      all_goals (
                                        refine HQ_then ?_
                                        refine hK24 _ _ _ _ ?_; clear hK24 K24
                                        refine HC_seq fun K25 hK25 => ?_
                                        refine HC_region ?_
                                        all_goals refine HL_r rfl rfl rfl rfl (R_move rfl) ?_
                                        all_goals refine HL_r rfl rfl rfl rfl (R_move rfl) ?_
                                        all_goals refine HL_r rfl rfl rfl rfl (R_sliceSl (sz := 2) (m := i) (kl := some (i)) (kh := none) (km := none) (q := n + 1) (z := cap) (off' := i * 2) rfl rfl rfl ⟨_, rfl⟩ trivial trivial rfl rfl rfl (by omega) (by omega) (by omega) (fun _ => rfl) (by rw [if_neg (by omega)]; omega)) ?_
                                        all_goals refine HL_r rfl rfl rfl rfl (R_move rfl) ?_
                                        all_goals rw [show (A ++ X1) ++ (B ++ X4) = A ++ (X1 ++ (B ++ X4)) by simp only [List.append_assoc]]
                                        all_goals refine HL_copy (k := 0) (n := 1) (sz := 2) (vs := slC y) (cs' := A ++ (slC y ++ (B ++ X4))) rfl rfl rfl rfl rfl (Or.inr hv) rfl rfl (by simp only [Nat.min_def]; split <;> omega) rfl lF oF (by simp only [List.size_toArray, List.length_append]; omega) (splice lA (by rw [lX1])) rfl ?_
                                        all_goals refine HL_nil ?_
                                        all_goals (
                                          refine HQ_then ?_
                                          refine hK25 _ _ _ _ ?_; clear hK25 K25
                                          refine HC_seq fun K26 hK26 => ?_
                                          refine HC_region ?_
                                          all_goals refine HL_r rfl rfl rfl rfl (R_move rfl) ?_
                                          all_goals refine HL_r rfl rfl rfl rfl (R_assign rfl) ?_
                                          all_goals refine HL_nil ?_
                                          all_goals (
                                            refine HQ_then ?_
                                            refine hK26 _ _ _ _ ?_; clear hK26 K26
                                            refine HC_ret ?_
                                            refine HQ_thenR ?_; clear hK21 K21
                                            refine HQ_post rfl rfl (.cons (res_tmp rfl) .nil) (fun w1 hs1 => ?_)
                                            first
                                              | exact ⟨⟨some (r1, cap1, sp1), by simp only [List.length_append, List.length_nil, lF]; omega, hsp1⟩, rfl, by simpa [rowL] using hs1⟩
                                              | exact ⟨⟨some (r2, cap2, sp2), by simp only [List.length_append]; omega, hsp2⟩, rfl, hs1.weakL (by simp [rowL])⟩
                                              | exact ⟨⟨some (r, cap, X4), by simp only [List.length_append]; omega, by have := congrArg List.length hX; simp only [List.length_append] at this; omega⟩, rfl, by simpa [rowL] using hs1⟩
                                              | trace_state
                                            skip)
                                          skip)
                                        skip)
                                      skip)
                                  · try exact Bool.noConfusion h23
                                    all_goals try simp only [decide_eq_true_eq, decide_eq_false_iff_not, beq_iff_eq, beq_eq_false_iff_ne, bne_iff_ne, bne_eq_false_iff_eq, Bool.not_eq_true', Bool.not_eq_false', ne_eq, Int.not_lt, Int.not_le, ge_iff_le, gt_iff_lt] at h23
                                    all_goals (
                                      refine HC_skip ?_
                                      refine HQ_then ?_
                                      refine hK21 _ _ _ _ ?_; clear hK21 K21
                                      refine HC_seq fun K27 hK27 => ?_
                                      refine HC_region ?_
                                      all_goals refine HL_r rfl rfl rfl rfl (R_move rfl) ?_
                                      all_goals refine HL_r rfl rfl rfl rfl (R_move rfl) ?_
                                      all_goals refine HL_r rfl rfl rfl rfl (R_pure rfl rfl rfl) ?_
                                      all_goals refine HL_r rfl rfl rfl rfl (R_move rfl) ?_
                                      all_goals refine HL_r rfl rfl rfl rfl (R_pure rfl rfl rfl) ?_
                                      all_goals refine HL_nil ?_
                                      all_goals (
                                        refine HQ_then ?_
                                        refine hK27 _ _ _ _ ?_; clear hK27 K27
                                        refine HC_seq fun K28 hK28 => ?_
                                        refine HC_region ?_
                                        all_goals refine HL_r rfl rfl rfl rfl (R_move rfl) ?_
                                        all_goals refine HL_r rfl rfl rfl rfl (R_move rfl) ?_
                                        all_goals refine HL_r rfl rfl rfl rfl (R_pure rfl rfl rfl) ?_
                                        all_goals refine HL_r rfl rfl rfl rfl (R_move rfl) ?_
                                        all_goals refine HL_callP rfl rfl rfl (enters_of Try.func93 (by kernel_rfl) rfl) (P_api_Slot_ ..) ?_
                                        all_goals refine HL_nil ?_
                                        all_goals (
                                          refine HQ_then ?_
                                          refine hK28 _ _ _ _ ?_; clear hK28 K28
                                          refine HC_seq fun K29 hK29 => ?_
                                          refine HC_region ?_
                                          all_goals refine HL_r rfl rfl rfl rfl (R_move rfl) ?_
                                          all_goals refine HL_r rfl rfl rfl rfl (R_assign rfl) ?_
                                          all_goals refine HL_nil ?_
                                          all_goals (
                                            refine HQ_then ?_
                                            refine hK29 _ _ _ _ ?_; clear hK29 K29
                                            refine HC_ret ?_
                                            refine HQ_post rfl rfl (.cons (res_tmp rfl) .nil) (fun w1 hs1 => ?_)
                                            first
                                              | exact ⟨⟨some (r1, cap1, sp1), by simp only [List.length_append, List.length_nil, lF]; omega, hsp1⟩, rfl, by simpa [rowL] using hs1⟩
                                              | exact ⟨⟨some (r2, cap2, sp2), by simp only [List.length_append]; omega, hsp2⟩, rfl, hs1.weakL (by simp [rowL])⟩
                                              | exact ⟨⟨some (r, cap, X4), by simp only [List.length_append]; omega, by have := congrArg List.length hX; simp only [List.length_append] at this; omega⟩, rfl, by simpa [rowL] using hs1⟩
                                              | trace_state
                                            skip)
                                          skip)
                                        skip)
                                      skip)
                                  skip)
                                skip)
                              skip)
                          skip)
                        skip)
                    skip)
                  skip)
                skip)
            skip)
          skip)
        skip)
      skip)
end Go.Proofs.Ytnkmbkndpoghdaa
namespace Go.Proofs.Ytnkmbkndpoghdaa
set_option linter.all false
open Go.SL Go.RowKit Go.Shelf
set_option maxRecDepth 10000 in
theorem S_withA {R : List (Nat × Obj)} {xs : List AcL} {p : Pl} (hl : xs.length ≤ 1000) (hs : Seg R xs.length (xs.flatMap AcL.cells) p) (hso : Sorted AcL.addr xs) (y : AcL) :
    PureT (α := { row : Row // rowOk 8 (insL AcL.addr y xs).length ((insL AcL.addr y xs).flatMap AcL.cells) row }) Try.prog 50 [plV xs.length p, vA y, fV 36].toArray (fun x => rowV (insL AcL.addr y xs).length x.1) [] (fun x => rowL 37 ((insL AcL.addr y xs).flatMap AcL.cells) x.1) R := by
  have hins := ins_lo (x := y) hso
  obtain ⟨j, hj⟩ : ∃ j, j = loL AcL.addr (AcL.addr y) xs := ⟨_, rfl⟩
  have hjl : j ≤ xs.length := hj ▸ lo_le _ _
  have hpl := S_placeA (k := AcL.addr y) hl hs hso
  have hlt : thereL AcL.addr (AcL.addr y) xs = true → j < xs.length := fun h => hj ▸ there_lt h
  rw [← hj] at hins hpl
  obtain ⟨b, hb⟩ : ∃ b, b = thereL AcL.addr (AcL.addr y) xs := ⟨_, rfl⟩
  rw [← hb] at hins hpl hlt
  clear hj hb
  refine pureT_of_HC Try.func50 rfl rfl fun w => ?_
  refine HC_seq fun K1 hK1 => ?_
  refine HC_region ?_
  all_goals refine HL_box (cs := #[_, _, _, _, _, _, _, _]) rfl rfl rfl rfl fun r1 => ?_
  all_goals refine HL_r rfl rfl rfl rfl (R_assign rfl) ?_
  all_goals refine HL_nil ?_
  all_goals (
    refine HQ_then ?_
    refine hK1 _ _ _ _ ?_; clear hK1 K1
    refine HC_seq fun K2 hK2 => ?_
    refine HC_region ?_
    all_goals refine HL_r rfl rfl rfl rfl (R_move rfl) ?_
    all_goals refine HL_r rfl rfl rfl rfl (R_move rfl) ?_
    all_goals refine HL_r rfl rfl rfl rfl (R_loadA (vs := [_, _, _, _, _, _, _, _]) rfl (known_L (k := 0) rfl) rfl rfl rfl rfl) ?_
    all_goals refine HL_callP rfl rfl rfl (enters_of Try.func36 (by kernel_rfl) rfl) (P_keyA y) ?_
    all_goals refine HL_r rfl rfl rfl rfl (R_move rfl) ?_
    all_goals refine HL_callR rfl rfl rfl (enters_of Try.func70 (by kernel_rfl) rfl) hpl (fun q hq => Or.inr hq) ?_
    all_goals refine HL_r rfl rfl rfl rfl (R_move rfl) ?_
    all_goals refine HL_r rfl rfl rfl rfl (R_extract rfl rfl) ?_
    all_goals refine HL_r rfl rfl rfl rfl (R_extract rfl rfl) ?_
    all_goals refine HL_r rfl rfl rfl rfl (R_assign rfl) ?_
    all_goals refine HL_r rfl rfl rfl rfl (R_assign rfl) ?_
    all_goals refine HL_nil ?_
    all_goals (
      refine HQ_then ?_
      refine hK2 _ _ _ _ ?_; clear hK2 K2
      refine HC_seq fun K3 hK3 => ?_
      refine HC_region ?_
      all_goals refine HL_r rfl rfl rfl rfl (R_move rfl) ?_
      all_goals refine HL_callRE rfl rfl rfl (enters_of Try.func71 (by kernel_rfl) rfl) (S_cloneA hl hs) (fun q hq => Or.inr hq) fun x => ?_
      all_goals obtain ⟨row, hrow⟩ := x
      all_goals change HL _ _ ((20, rowV xs.length row) :: _) (rowL 37 (xs.flatMap AcL.cells) row ++ [(r1, _)]) _ _ _ _
      all_goals refine HL_r rfl rfl rfl rfl (R_assign rfl) ?_
      all_goals refine HL_nil ?_
      all_goals (
        refine HQ_then ?_
        refine hK3 _ _ _ _ ?_; clear hK3 K3
        refine HC_seq fun K4 hK4 => ?_
        refine HC_seq fun K5 hK5 => ?_
        refine HC_region ?_
        all_goals refine HL_r rfl rfl rfl rfl (R_move rfl) ?_
        all_goals refine HL_nil ?_
        all_goals (
          refine HQ_then ?_
          refine hK5 _ _ _ _ ?_; clear hK5 K5
          refine HC_cond rfl (fun h6 => ?_) (fun h6 => ?_)
          · try exact Bool.noConfusion h6
            all_goals try simp only [decide_eq_true_eq, decide_eq_false_iff_not, beq_iff_eq, beq_eq_false_iff_ne, bne_iff_ne, bne_eq_false_iff_eq, Bool.not_eq_true', Bool.not_eq_false', ne_eq, Int.not_lt, Int.not_le, ge_iff_le, gt_iff_lt] at h6
            all_goals (
              refine HC_seq fun K7 hK7 => ?_
              have hltb := hlt (by assumption)
              obtain ⟨r2, cap2, sp2, rfl⟩ := row_some hrow (by omega)
              change HC _ _ _ [(r2, .cells (xs.flatMap AcL.cells ++ sp2).toArray 37 (0, 0)), (r1, _)] _ _ _
              refine HC_region ?_
              all_goals refine HL_r rfl rfl rfl rfl (R_move rfl) ?_
              all_goals refine HL_r rfl rfl rfl rfl (R_move rfl) ?_
              all_goals refine HL_r rfl rfl rfl rfl (R_loadA (vs := AcL.cells y) rfl (known_L (k := 1) rfl) rfl rfl rfl rfl) ?_
              all_goals refine HL_r rfl rfl rfl rfl (R_indexS (j := j) (m := 8) rfl rfl rfl rfl rfl (by omega) rfl) ?_
              all_goals refine HL_storeA (k := 0) (n := 8) (vs := (AcL.cells y).toArray) (cs' := ((xs.set j y).flatMap AcL.cells ++ sp2).toArray) rfl rfl rfl rfl rfl rfl (AcL.one y) (by have := hrow.1; simp only [List.size_toArray, List.length_append, cat_len AcL.len]; omega) (by apply Array.toList_inj.1; simp only [List.toList_toArray, Nat.zero_add]; exact cat_set AcL.len hltb y sp2) rfl ?_
              all_goals refine HL_nil ?_
              all_goals (
                refine HQ_then ?_
                refine hK7 _ _ _ _ ?_; clear hK7 K7
                refine HC_seq fun K8 hK8 => ?_
                refine HC_region ?_
                all_goals refine HL_r rfl rfl rfl rfl (R_move rfl) ?_
                all_goals refine HL_r rfl rfl rfl rfl (R_assign rfl) ?_
                all_goals refine HL_nil ?_
                all_goals (
                  refine HQ_then ?_
                  refine hK8 _ _ _ _ ?_; clear hK8 K8
                  refine HC_ret ?_
                  refine HQ_thenR ?_; clear hK4 K4
                  refine HQ_post rfl rfl (.cons (res_tmp rfl) .nil) (fun w1 hs1 => ?_)
                  first
                    | (rw [if_pos (by assumption)] at hins
                       rw [hins, List.length_set]
                       exact ⟨⟨some (r2, cap2, sp2), hrow.same (by rw [cat_len AcL.len, cat_len AcL.len, List.length_set])⟩, rfl, hs1.weakL (by simp [rowL])⟩)
                    | (rw [if_neg (by simp_all)] at hins
                       have hln : (xs.take j ++ y :: xs.drop j).length = xs.length + 1 := by simp only [List.length_append, List.length_take, List.length_cons, List.length_drop]; omega
                       rw [hins, hln]
                       exact ⟨⟨row2, hrow2⟩, rfl, hs1.weakL (List.sublist_append_left _ _)⟩)
                  skip)
                skip)
              skip)
          · try exact Bool.noConfusion h6
            all_goals try simp only [decide_eq_true_eq, decide_eq_false_iff_not, beq_iff_eq, beq_eq_false_iff_ne, bne_iff_ne, bne_eq_false_iff_eq, Bool.not_eq_true', Bool.not_eq_false', ne_eq, Int.not_lt, Int.not_le, ge_iff_le, gt_iff_lt] at h6
            all_goals (
              refine HC_skip ?_
              refine HQ_then ?_
              refine hK4 _ _ _ _ ?_; clear hK4 K4
              refine HC_seq fun K9 hK9 => ?_
              refine HC_region ?_
              all_goals refine HL_r rfl rfl rfl rfl (R_move rfl) ?_
              all_goals refine HL_r rfl rfl rfl rfl (R_move rfl) ?_
              all_goals refine HL_r rfl rfl rfl rfl (R_loadA (vs := AcL.cells y) rfl (Or.inl (List.mem_append_right _ List.mem_cons_self)) rfl rfl rfl rfl) ?_
              all_goals refine HL_buildSlice (n := 1) (sz := 8) (vs := [_]) (zs := [_, _, _, _, _, _, _, _]) (r := AcL.cells y) rfl rfl rfl rfl rfl rfl rfl rfl rfl (by rw [made_list]; exact rfl) rfl fun rv => ?_
              all_goals refine HL_callT (T := rowL 37 (xs.flatMap AcL.cells) row) (L0 := [(rv, _), (r1, _)]) (Rl := [(rv, Obj.cells (AcL.cells y).toArray 37 (0, 0))]) (by exact List.perm_middle.symm) rfl rfl rfl (enters_of Try.func72 (by kernel_rfl) rfl) (S_insertA (i := j) (y := y) hl hrow hjl List.mem_cons_self) (fun q hq => Or.inl (by rw [List.mem_singleton.1 hq]; exact List.mem_cons_self)) fun x => ?_
              all_goals obtain ⟨row2, hrow2⟩ := x
              all_goals refine HL_r rfl rfl rfl rfl (R_assign rfl) ?_
              all_goals refine HL_nil ?_
              all_goals (
                refine HQ_then ?_
                refine hK9 _ _ _ _ ?_; clear hK9 K9
                refine HC_ret ?_
                refine HQ_post rfl rfl (.cons (res_tmp rfl) .nil) (fun w1 hs1 => ?_)
                first
                  | (rw [if_pos (by assumption)] at hins
                     rw [hins, List.length_set]
                     exact ⟨⟨some (r2, cap2, sp2), hrow.same (by rw [cat_len AcL.len, cat_len AcL.len, List.length_set])⟩, rfl, hs1.weakL (by simp [rowL])⟩)
                  | (rw [if_neg (by simp_all)] at hins
                     have hln : (xs.take j ++ y :: xs.drop j).length = xs.length + 1 := by simp only [List.length_append, List.length_take, List.length_cons, List.length_drop]; omega
                     rw [hins, hln]
                     exact ⟨⟨row2, hrow2⟩, rfl, hs1.weakL (List.sublist_append_left _ _)⟩)
                skip)
              skip)
          skip)
        skip)
      skip)
    skip)
end Go.Proofs.Ytnkmbkndpoghdaa
namespace Go.Proofs.Ytnkmbkndpoghdaa
set_option linter.all false
open Go.SL Go.RowKit Go.Shelf
set_option maxRecDepth 10000 in
theorem S_withS {R : List (Nat × Obj)} {xs : List (BS × BS)} {p : Pl} (hl : xs.length ≤ 1000) (hs : Seg R xs.length (xs.flatMap slC) p) (hso : Sorted Prod.fst xs) (y : (BS × BS)) :
    PureT (α := { row : Row // rowOk 2 (insL Prod.fst y xs).length ((insL Prod.fst y xs).flatMap slC) row }) Try.prog 51 [plV xs.length p, vS y, fV 49].toArray (fun x => rowV (insL Prod.fst y xs).length x.1) [] (fun x => rowL 68 ((insL Prod.fst y xs).flatMap slC) x.1) R := by
  have hins := ins_lo (x := y) hso
  obtain ⟨j, hj⟩ : ∃ j, j = loL Prod.fst (Prod.fst y) xs := ⟨_, rfl⟩
  have hjl : j ≤ xs.length := hj ▸ lo_le _ _
  have hpl := S_placeS (k := Prod.fst y) hl hs hso
  have hlt : thereL Prod.fst (Prod.fst y) xs = true → j < xs.length := fun h => hj ▸ there_lt h
  rw [← hj] at hins hpl
  obtain ⟨b, hb⟩ : ∃ b, b = thereL Prod.fst (Prod.fst y) xs := ⟨_, rfl⟩
  rw [← hb] at hins hpl hlt
  clear hj hb
  refine pureT_of_HC Try.func51 rfl rfl fun w => ?_
  refine HC_seq fun K1 hK1 => ?_
  refine HC_region ?_
  all_goals refine HL_box (cs := #[_, _]) rfl rfl rfl rfl fun r1 => ?_
  all_goals refine HL_r rfl rfl rfl rfl (R_assign rfl) ?_
  all_goals refine HL_nil ?_
  all_goals (
    refine HQ_then ?_
    refine hK1 _ _ _ _ ?_; clear hK1 K1
    refine HC_seq fun K2 hK2 => ?_
    refine HC_region ?_
    all_goals refine HL_r rfl rfl rfl rfl (R_move rfl) ?_
    all_goals refine HL_r rfl rfl rfl rfl (R_move rfl) ?_
    all_goals refine HL_r rfl rfl rfl rfl (R_loadA (vs := [_, _]) rfl (known_L (k := 0) rfl) rfl rfl rfl rfl) ?_
    all_goals refine HL_callP rfl rfl rfl (enters_of Try.func49 (by kernel_rfl) rfl) (P_keyS y) ?_
    all_goals refine HL_r rfl rfl rfl rfl (R_move rfl) ?_
    all_goals refine HL_callR rfl rfl rfl (enters_of Try.func73 (by kernel_rfl) rfl) hpl (fun q hq => Or.inr hq) ?_
    all_goals refine HL_r rfl rfl rfl rfl (R_move rfl) ?_
    all_goals refine HL_r rfl rfl rfl rfl (R_extract rfl rfl) ?_
    all_goals refine HL_r rfl rfl rfl rfl (R_extract rfl rfl) ?_
    all_goals refine HL_r rfl rfl rfl rfl (R_assign rfl) ?_
    all_goals refine HL_r rfl rfl rfl rfl (R_assign rfl) ?_
    all_goals refine HL_nil ?_
    all_goals (
      refine HQ_then ?_
      refine hK2 _ _ _ _ ?_; clear hK2 K2
      refine HC_seq fun K3 hK3 => ?_
      refine HC_region ?_
      all_goals refine HL_r rfl rfl rfl rfl (R_move rfl) ?_
      all_goals refine HL_callRE rfl rfl rfl (enters_of Try.func74 (by kernel_rfl) rfl) (S_cloneS hl hs) (fun q hq => Or.inr hq) fun x => ?_
      all_goals obtain ⟨row, hrow⟩ := x
      all_goals change HL _ _ ((20, rowV xs.length row) :: _) (rowL 68 (xs.flatMap slC) row ++ [(r1, _)]) _ _ _ _
      all_goals refine HL_r rfl rfl rfl rfl (R_assign rfl) ?_
      all_goals refine HL_nil ?_
      all_goals (
        refine HQ_then ?_
        refine hK3 _ _ _ _ ?_; clear hK3 K3
        refine HC_seq fun K4 hK4 => ?_
        refine HC_seq fun K5 hK5 => ?_
        refine HC_region ?_
        all_goals refine HL_r rfl rfl rfl rfl (R_move rfl) ?_
        all_goals refine HL_nil ?_
        all_goals (
          refine HQ_then ?_
          refine hK5 _ _ _ _ ?_; clear hK5 K5
          refine HC_cond rfl (fun h6 => ?_) (fun h6 => ?_)
          · try exact Bool.noConfusion h6
            all_goals try simp only [decide_eq_true_eq, decide_eq_false_iff_not, beq_iff_eq, beq_eq_false_iff_ne, bne_iff_ne, bne_eq_false_iff_eq, Bool.not_eq_true', Bool.not_eq_false', ne_eq, Int.not_lt, Int.not_le, ge_iff_le, gt_iff_lt] at h6
            all_goals (
              refine HC_seq fun K7 hK7 => ?_
              have hltb := hlt (by assumption)
              obtain ⟨r2, cap2, sp2, rfl⟩ := row_some hrow (by omega)
              change HC _ _ _ [(r2, .cells (xs.flatMap slC ++ sp2).toArray 68 (0, 0)), (r1, _)] _ _ _
              refine HC_region ?_
              all_goals refine HL_r rfl rfl rfl rfl (R_move rfl) ?_
              all_goals refine HL_r rfl rfl rfl rfl (R_move rfl) ?_
              all_goals refine HL_r rfl rfl rfl rfl (R_loadA (vs := slC y) rfl (known_L (k := 1) rfl) rfl rfl rfl rfl) ?_
              all_goals refine HL_r rfl rfl rfl rfl (R_indexS (j := j) (m := 2) rfl rfl rfl rfl rfl (by omega) rfl) ?_
              all_goals refine HL_storeA (k := 0) (n := 2) (vs := (slC y).toArray) (cs' := ((xs.set j y).flatMap slC ++ sp2).toArray) rfl rfl rfl rfl rfl rfl (slC_one y) (by have := hrow.1; simp only [List.size_toArray, List.length_append, cat_len slC_len]; omega) (by apply Array.toList_inj.1; simp only [List.toList_toArray, Nat.zero_add]; exact cat_set slC_len hltb y sp2) rfl ?_
              all_goals refine HL_nil ?_
              all_goals (
                refine HQ_then ?_
                refine hK7 _ _ _ _ ?_; clear hK7 K7
                refine HC_seq fun K8 hK8 => ?_
                refine HC_region ?_
                all_goals refine HL_r rfl rfl rfl rfl (R_move rfl) ?_
                all_goals refine HL_r rfl rfl rfl rfl (R_assign rfl) ?_
                all_goals refine HL_nil ?_
                all_goals (
                  refine HQ_then ?_
                  refine hK8 _ _ _ _ ?_; clear hK8 K8
                  refine HC_ret ?_
                  refine HQ_thenR ?_; clear hK4 K4
                  refine HQ_post rfl rfl (.cons (res_tmp rfl) .nil) (fun w1 hs1 => ?_)
                  first
                    | (rw [if_pos (by assumption)] at hins
                       rw [hins, List.length_set]
                       exact ⟨⟨some (r2, cap2, sp2), hrow.same (by rw [cat_len slC_len, cat_len slC_len, List.length_set])⟩, rfl, hs1.weakL (by simp [rowL])⟩)
                    | (rw [if_neg (by simp_all)] at hins
                       have hln : (xs.take j ++ y :: xs.drop j).length = xs.length + 1 := by simp only [List.length_append, List.length_take, List.length_cons, List.length_drop]; omega
                       rw [hins, hln]
                       exact ⟨⟨row2, hrow2⟩, rfl, hs1.weakL (List.sublist_append_left _ _)⟩)
                  skip)
                skip)
              skip)
          · try exact Bool.noConfusion h6
            all_goals try simp only [decide_eq_true_eq, decide_eq_false_iff_not, beq_iff_eq, beq_eq_false_iff_ne, bne_iff_ne, bne_eq_false_iff_eq, Bool.not_eq_true', Bool.not_eq_false', ne_eq, Int.not_lt, Int.not_le, ge_iff_le, gt_iff_lt] at h6
            all_goals (
              refine HC_skip ?_
              refine HQ_then ?_
              refine hK4 _ _ _ _ ?_; clear hK4 K4
              refine HC_seq fun K9 hK9 => ?_
              refine HC_region ?_
              all_goals refine HL_r rfl rfl rfl rfl (R_move rfl) ?_
              all_goals refine HL_r rfl rfl rfl rfl (R_move rfl) ?_
              all_goals refine HL_r rfl rfl rfl rfl (R_loadA (vs := slC y) rfl (Or.inl (List.mem_append_right _ List.mem_cons_self)) rfl rfl rfl rfl) ?_
              all_goals refine HL_buildSlice (n := 1) (sz := 2) (vs := [_]) (zs := [_, _]) (r := slC y) rfl rfl rfl rfl rfl rfl rfl rfl rfl (by rw [made_list]; exact rfl) rfl fun rv => ?_
              all_goals refine HL_callT (T := rowL 68 (xs.flatMap slC) row) (L0 := [(rv, _), (r1, _)]) (Rl := [(rv, Obj.cells (slC y).toArray 68 (0, 0))]) (by exact List.perm_middle.symm) rfl rfl rfl (enters_of Try.func75 (by kernel_rfl) rfl) (S_insertS (i := j) (y := y) hl hrow hjl List.mem_cons_self) (fun q hq => Or.inl (by rw [List.mem_singleton.1 hq]; exact List.mem_cons_self)) fun x => ?_
              all_goals obtain ⟨row2, hrow2⟩ := x
              all_goals refine HL_r rfl rfl rfl rfl (R_assign rfl) ?_
              all_goals refine HL_nil ?_
              all_goals (
                refine HQ_then ?_
                refine hK9 _ _ _ _ ?_; clear hK9 K9
                refine HC_ret ?_
                refine HQ_post rfl rfl (.cons (res_tmp rfl) .nil) (fun w1 hs1 => ?_)
                first
                  | (rw [if_pos (by assumption)] at hins
                     rw [hins, List.length_set]
                     exact ⟨⟨some (r2, cap2, sp2), hrow.same (by rw [cat_len slC_len, cat_len slC_len, List.length_set])⟩, rfl, hs1.weakL (by simp [rowL])⟩)
                  | (rw [if_neg (by simp_all)] at hins
                     have hln : (xs.take j ++ y :: xs.drop j).length = xs.length + 1 := by simp only [List.length_append, List.length_take, List.length_cons, List.length_drop]; omega
                     rw [hins, hln]
                     exact ⟨⟨row2, hrow2⟩, rfl, hs1.weakL (List.sublist_append_left _ _)⟩)
                skip)
              skip)
          skip)
        skip)
      skip)
    skip)
end Go.Proofs.Ytnkmbkndpoghdaa
namespace Go.Proofs.Ytnkmbkndpoghdaa
set_option linter.all false
open Go.SL Go.RowKit Go.Shelf
theorem odd_int (x : BS × BS) : oddS x = (((x.1.length : Int) != 32) || ((x.2.length : Int) != 32)) := by
  have key : ∀ n : Nat, decide (n ≠ 32) = ((n : Int) != 32) := fun n => by
    by_cases h : n = 32
    · subst h; rfl
    · have h2 : ¬ (n : Int) = 32 := by omega
      simp [h, h2]
  unfold oddS
  rw [key, key]
set_option maxRecDepth 10000 in
theorem P_odd (x : BS × BS) : Pure Try.prog 45 [vS x].toArray (.bool (oddS x)) := by
  refine pure_of_HC Try.func45 rfl rfl fun w => ?_
  refine HC_seq fun K1 hK1 => ?_
  refine HC_region ?_
  all_goals refine HL_box (cs := #[_, _]) rfl rfl rfl rfl fun r1 => ?_
  all_goals refine HL_r rfl rfl rfl rfl (R_assign rfl) ?_
  all_goals refine HL_nil ?_
  all_goals (
    refine HQ_then ?_
    refine hK1 _ _ _ _ ?_; clear hK1 K1
    refine HC_seq fun K2 hK2 => ?_
    refine HC_region ?_
    all_goals refine HL_r rfl rfl rfl rfl (R_fieldAddr rfl rfl (by first | (simp only [Nat.zero_add, Nat.reduceAdd, Nat.reduceMul, Nat.zero_mul, Nat.mul_one, Nat.add_zero]; exact rfl) | exact rfl)) ?_
    all_goals refine HL_r rfl rfl rfl rfl (R_load rfl (known_L (k := 0) rfl) rfl rfl) ?_
    all_goals (refine HL_r rfl rfl rfl rfl (R_lenBs rfl rfl) ?_)
    all_goals refine HL_r rfl rfl rfl rfl (R_pure rfl rfl rfl) ?_
    all_goals refine HL_r rfl rfl rfl rfl (R_move rfl) ?_
    all_goals (refine HL_case 7 rfl (fun hb3 => ?_) (fun hb3 => ?_) <;> (try simp only [decide_eq_true_eq, decide_eq_false_iff_not, beq_iff_eq, beq_eq_false_iff_ne, bne_iff_ne, bne_eq_false_iff_eq, Bool.not_eq_true', Bool.not_eq_false', ne_eq, Int.not_lt, Int.not_le, ge_iff_le, gt_iff_lt] at hb3) <;> first | (refine HL_r rfl rfl rfl rfl (R_fieldAddr rfl rfl (by first | (simp only [Nat.zero_add, Nat.reduceAdd, Nat.reduceMul, Nat.zero_mul, Nat.mul_one, Nat.add_zero]; exact rfl) | exact rfl)) ?_) | (refine HL_skip rfl rfl rfl ?_))
    all_goals first
      | (refine HL_r rfl rfl rfl rfl (R_load rfl (known_L (k := 0) rfl) rfl rfl) ?_)
      | (refine HL_skip rfl rfl rfl ?_)
    all_goals first
      | (refine HL_r rfl rfl rfl rfl (R_lenBs rfl rfl) ?_)
      | (refine HL_skip rfl rfl rfl ?_)
    all_goals first
      | (refine HL_r rfl rfl rfl rfl (R_pure rfl rfl rfl) ?_)
      | (refine HL_skip rfl rfl rfl ?_)
    all_goals first
      | (refine HL_r rfl rfl rfl rfl (R_pickT rfl rfl) ?_)
      | (refine HL_r rfl rfl rfl rfl (R_pickF rfl rfl) ?_)
    all_goals refine HL_r rfl rfl rfl rfl (R_assign rfl) ?_
    all_goals refine HL_nil ?_
    all_goals (
      refine HQ_then ?_
      refine hK2 _ _ _ _ ?_; clear hK2 K2
      refine HC_ret ?_
      refine HQ_post rfl rfl (.cons (res_tmp rfl) .nil) (fun w1 hs1 => ?_)
      refine ⟨?_, hs1.keep⟩
      rw [odd_int]
      simp_all [resVal]
      all_goals first | done | omega | trace_state
      skip)
    skip)
set_option maxRecDepth 10000 in
theorem P_spare (x : BS × BS) : Pure Try.prog 46 [vS x].toArray (.bool (spareS x)) := by
  refine pure_of_HC Try.func46 rfl rfl fun w => ?_
  refine HC_seq fun K1 hK1 => ?_
  refine HC_region ?_
  all_goals refine HL_box (cs := #[_, _]) rfl rfl rfl rfl fun r1 => ?_
  all_goals refine HL_r rfl rfl rfl rfl (R_assign rfl) ?_
  all_goals refine HL_nil ?_
  all_goals (
    refine HQ_then ?_
    refine hK1 _ _ _ _ ?_; clear hK1 K1
    refine HC_seq fun K2 hK2 => ?_
    refine HC_draw 5 (by kernel_rfl) (by kernel_rfl) ?_
    all_goals refine HD_r rfl rfl rfl (R_fieldAddr rfl rfl (by first | (simp only [Nat.zero_add, Nat.reduceAdd, Nat.reduceMul, Nat.zero_mul, Nat.mul_one, Nat.add_zero]; exact rfl) | exact rfl)) ?_
    all_goals refine HD_r rfl rfl rfl (R_load rfl (known_L (k := 0) rfl) rfl rfl) ?_
    all_goals refine HD_callP rfl rfl rfl (enters_of Try.func28 (by kernel_rfl) rfl) P_none ?_
    all_goals refine HD_r rfl rfl rfl (R_strEq rfl rfl) ?_
    all_goals refine HD_r rfl rfl rfl (R_assign rfl) ?_
    all_goals refine HD_end ?_
    all_goals refine HL_nil ?_
    all_goals (
      refine HQ_then ?_
      refine hK2 _ _ _ _ ?_; clear hK2 K2
      refine HC_ret ?_
      refine HQ_post rfl rfl (.cons (res_tmp rfl) .nil) (fun w1 hs1 => ?_)
      exact ⟨rfl, hs1.keep⟩
      skip)
    skip)
set_option maxRecDepth 10000 in
theorem S_containsS {R : List (Nat × Obj)} {xs : List (BS × BS)} {p : Pl} (hl : xs.length ≤ 9223372036854775807) (hs : Seg R xs.length (xs.flatMap slC) p) {g : FuncId} {caps : List Value} {pr : BS × BS → Bool} (eg : Enters Try.prog g) (hg : ∀ x ∈ xs, PureR Try.prog g (vS x :: caps).toArray (.bool (pr x)) R) :
    PureR Try.prog 47 [plV xs.length p, .func (.func g) #[] caps.toArray].toArray (.bool (xs.any pr)) R := by
  have h := S_indexS hl hs eg hg
  refine pureR_of_HC Try.func47 rfl rfl fun w => ?_
  refine HC_seq fun K1 hK1 => ?_
  refine HC_region ?_
  all_goals refine HL_r rfl rfl rfl rfl (R_assign rfl) ?_
  all_goals refine HL_nil ?_
  all_goals (
    refine HQ_then ?_
    refine hK1 _ _ _ _ ?_; clear hK1 K1
    refine HC_seq fun K2 hK2 => ?_
    refine HC_region ?_
    all_goals refine HL_r rfl rfl rfl rfl (R_move rfl) ?_
    all_goals refine HL_r rfl rfl rfl rfl (R_move rfl) ?_
    all_goals refine HL_callR rfl rfl rfl (enters_of Try.func26 (by kernel_rfl) rfl) h (fun q hq => Or.inr hq) ?_
    all_goals refine HL_r rfl rfl rfl rfl (R_pure rfl rfl rfl) ?_
    all_goals refine HL_as (congrArg Value.bool idx_any) ?_
    all_goals refine HL_r rfl rfl rfl rfl (R_assign rfl) ?_
    all_goals refine HL_nil ?_
    all_goals (
      refine HQ_then ?_
      refine hK2 _ _ _ _ ?_; clear hK2 K2
      refine HC_ret ?_
      refine HQ_post rfl rfl (.cons (res_tmp rfl) .nil) (fun w1 hs1 => ?_)
      exact ⟨rfl, hs1.keep⟩
      skip)
    skip)
set_option maxRecDepth 10000 in
theorem S_look {R : List (Nat × Obj)} {a : AcL} (ha : a.In R) : PureR Try.prog 34 [a.val].toArray (.int .i64 (lkE a.er)) R := by
  have h1 := S_containsS (g := 45) (caps := []) ha.len ha.seg (enters_of Try.func45 (by kernel_rfl) rfl) (fun x _ => (P_odd x).toR)
  have h2 := S_containsS (g := 46) (caps := []) ha.len ha.seg (enters_of Try.func46 (by kernel_rfl) rfl) (fun x _ => (P_spare x).toR)
  have h3 := S_risesS ha.len ha.seg
  have hl := ha.len
  have hseg := ha.seg
  have hE : lkE a.er = if ¬ ((a.addr.length : Int) = 20) ∨ a.slots.any oddS = true then 2 else if risesB Prod.fst a.slots = false then 11 else if (512 < (a.code.length : Int)) ∨ (16 < (a.slots.length : Int)) then 5 else if a.slots.any spareS = true then 8 else 0 := by
    exact ite_congr (propext (or_congr (by show ¬ a.addr.length = 20 ↔ _; omega) Iff.rfl)) (fun _ => rfl) (fun _ => ite_congr rfl (fun _ => rfl) (fun _ => ite_congr (propext (or_congr (by show a.code.length > 512 ↔ _; omega) (by show a.slots.length > 16 ↔ _; omega))) (fun _ => rfl) (fun _ => rfl)))
  rw [hE]
  clear hE
  generalize a.slots.any oddS = oB at h1 ⊢
  generalize a.slots.any spareS = sB at h2 ⊢
  generalize risesB Prod.fst a.slots = rB at h3 ⊢
  refine pureR_of_HC Try.func34 rfl rfl fun w => ?_
  refine HC_seq fun K1 hK1 => ?_
  refine HC_region ?_
  all_goals refine HL_box (cs := #[_, _, _, _, _, _, _, _]) rfl rfl rfl rfl fun r1 => ?_
  all_goals refine HL_r rfl rfl rfl rfl (R_assign rfl) ?_
  all_goals refine HL_nil ?_
  all_goals (
    refine HQ_then ?_
    refine hK1 _ _ _ _ ?_; clear hK1 K1
    refine HC_seq fun K2 hK2 => ?_
    refine HC_region ?_
    all_goals refine HL_r rfl rfl rfl rfl (R_assign rfl) ?_
    all_goals refine HL_nil ?_
    all_goals (
      refine HQ_then ?_
      refine hK2 _ _ _ _ ?_; clear hK2 K2
      refine HC_seq fun K3 hK3 => ?_
      refine HC_region ?_
      all_goals refine HL_r rfl rfl rfl rfl (R_assign rfl) ?_
      all_goals refine HL_nil ?_
      all_goals (
        refine HQ_then ?_
        refine hK3 _ _ _ _ ?_; clear hK3 K3
        refine HC_seq fun K4 hK4 => ?_
        refine HC_block ?_
        refine HC_seq fun K5 hK5 => ?_
        refine HC_region ?_
        all_goals refine HL_r rfl rfl rfl rfl (R_fieldAddr rfl rfl (by first | (simp only [Nat.zero_add, Nat.reduceAdd, Nat.reduceMul, Nat.zero_mul, Nat.mul_one, Nat.add_zero]; exact rfl) | exact rfl)) ?_
        all_goals refine HL_r rfl rfl rfl rfl (R_load rfl (known_L (k := 0) rfl) rfl rfl) ?_
        all_goals (refine HL_r rfl rfl rfl rfl (R_lenBs rfl rfl) ?_)
        all_goals refine HL_r rfl rfl rfl rfl (R_pure rfl rfl rfl) ?_
        all_goals refine HL_r rfl rfl rfl rfl (R_move rfl) ?_
        all_goals (refine HL_case 10 rfl (fun hb6 => ?_) (fun hb6 => ?_) <;> (try simp only [decide_eq_true_eq, decide_eq_false_iff_not, beq_iff_eq, beq_eq_false_iff_ne, bne_iff_ne, bne_eq_false_iff_eq, Bool.not_eq_true', Bool.not_eq_false', ne_eq, Int.not_lt, Int.not_le, ge_iff_le, gt_iff_lt] at hb6) <;> first | (refine HL_r rfl rfl rfl rfl (R_fieldAddr rfl rfl (by first | (simp only [Nat.zero_add, Nat.reduceAdd, Nat.reduceMul, Nat.zero_mul, Nat.mul_one, Nat.add_zero]; exact rfl) | exact rfl)) ?_) | (refine HL_skip rfl rfl rfl ?_))
        all_goals first
          | (refine HL_r rfl rfl rfl rfl (R_load rfl (known_L (k := 0) rfl) rfl rfl) ?_)
          | (refine HL_skip rfl rfl rfl ?_)
        all_goals first
          | (refine HL_r rfl rfl rfl rfl (R_move rfl) ?_)
          | (refine HL_skip rfl rfl rfl ?_)
        all_goals first
          | (refine HL_callR rfl rfl rfl (enters_of Try.func47 (by kernel_rfl) rfl) h1 (fun q hq => Or.inr hq) ?_)
          | (refine HL_skip rfl rfl rfl ?_)
        all_goals first
          | (refine HL_r rfl rfl rfl rfl (R_pickT rfl rfl) ?_)
          | (refine HL_r rfl rfl rfl rfl (R_pickF rfl rfl) ?_)
        all_goals refine HL_r rfl rfl rfl rfl (R_assign rfl) ?_
        all_goals refine HL_nil ?_
        all_goals (
          refine HQ_then ?_
          refine hK5 _ _ _ _ ?_; clear hK5 K5
          refine HC_cond rfl (fun h10 => ?_) (fun h10 => ?_)
          · try exact Bool.noConfusion h10
            all_goals try simp only [decide_eq_true_eq, decide_eq_false_iff_not, beq_iff_eq, beq_eq_false_iff_ne, bne_iff_ne, bne_eq_false_iff_eq, Bool.not_eq_true', Bool.not_eq_false', ne_eq, Int.not_lt, Int.not_le, ge_iff_le, gt_iff_lt] at h10
            all_goals (
              refine HC_seq fun K11 hK11 => ?_
              refine HC_region ?_
              all_goals refine HL_r rfl rfl rfl rfl (R_assign rfl) ?_
              all_goals refine HL_nil ?_
              all_goals (
                refine HQ_then ?_
                refine hK11 _ _ _ _ ?_; clear hK11 K11
                refine HC_ret ?_
                refine HQ_blockR ?_
                refine HQ_thenR ?_; clear hK4 K4
                refine HQ_post rfl rfl (.cons (res_tmp rfl) .nil) (fun w1 hs1 => ?_)
                refine ⟨?_, hs1.keep⟩
                simp only [resVal]
                simp_all
                all_goals first | done | omega | trace_state
                skip)
              skip)
          · try exact Bool.noConfusion h10
            all_goals try simp only [decide_eq_true_eq, decide_eq_false_iff_not, beq_iff_eq, beq_eq_false_iff_ne, bne_iff_ne, bne_eq_false_iff_eq, Bool.not_eq_true', Bool.not_eq_false', ne_eq, Int.not_lt, Int.not_le, ge_iff_le, gt_iff_lt] at h10
            all_goals (
              refine HC_seq fun K12 hK12 => ?_
              refine HC_region ?_
              all_goals refine HL_r rfl rfl rfl rfl (R_fieldAddr rfl rfl (by first | (simp only [Nat.zero_add, Nat.reduceAdd, Nat.reduceMul, Nat.zero_mul, Nat.mul_one, Nat.add_zero]; exact rfl) | exact rfl)) ?_
              all_goals refine HL_r rfl rfl rfl rfl (R_load rfl (known_L (k := 0) rfl) rfl rfl) ?_
              all_goals refine HL_callR rfl rfl rfl (enters_of Try.func48 (by kernel_rfl) rfl) h3 (fun q hq => Or.inr hq) ?_
              all_goals refine HL_r rfl rfl rfl rfl (R_pure rfl rfl rfl) ?_
              all_goals refine HL_r rfl rfl rfl rfl (R_assign rfl) ?_
              all_goals refine HL_nil ?_
              all_goals (
                refine HQ_then ?_
                refine hK12 _ _ _ _ ?_; clear hK12 K12
                refine HC_cond rfl (fun h13 => ?_) (fun h13 => ?_)
                · try exact Bool.noConfusion h13
                  all_goals try simp only [decide_eq_true_eq, decide_eq_false_iff_not, beq_iff_eq, beq_eq_false_iff_ne, bne_iff_ne, bne_eq_false_iff_eq, Bool.not_eq_true', Bool.not_eq_false', ne_eq, Int.not_lt, Int.not_le, ge_iff_le, gt_iff_lt] at h13
                  all_goals (
                    refine HC_seq fun K14 hK14 => ?_
                    refine HC_region ?_
                    all_goals refine HL_r rfl rfl rfl rfl (R_assign rfl) ?_
                    all_goals refine HL_nil ?_
                    all_goals (
                      refine HQ_then ?_
                      refine hK14 _ _ _ _ ?_; clear hK14 K14
                      refine HC_ret ?_
                      refine HQ_blockR ?_
                      refine HQ_thenR ?_; clear hK4 K4
                      refine HQ_post rfl rfl (.cons (res_tmp rfl) .nil) (fun w1 hs1 => ?_)
                      refine ⟨?_, hs1.keep⟩
                      simp only [resVal]
                      simp_all
                      all_goals first | done | omega | trace_state
                      skip)
                    skip)
                · try exact Bool.noConfusion h13
                  all_goals try simp only [decide_eq_true_eq, decide_eq_false_iff_not, beq_iff_eq, beq_eq_false_iff_ne, bne_iff_ne, bne_eq_false_iff_eq, Bool.not_eq_true', Bool.not_eq_false', ne_eq, Int.not_lt, Int.not_le, ge_iff_le, gt_iff_lt] at h13
                  all_goals (
                    refine HC_seq fun K15 hK15 => ?_
                    refine HC_region ?_
                    all_goals refine HL_r rfl rfl rfl rfl (R_fieldAddr rfl rfl (by first | (simp only [Nat.zero_add, Nat.reduceAdd, Nat.reduceMul, Nat.zero_mul, Nat.mul_one, Nat.add_zero]; exact rfl) | exact rfl)) ?_
                    all_goals refine HL_r rfl rfl rfl rfl (R_load rfl (known_L (k := 0) rfl) rfl rfl) ?_
                    all_goals (refine HL_r rfl rfl rfl rfl (R_lenBs rfl rfl) ?_)
                    all_goals refine HL_r rfl rfl rfl rfl (R_pure rfl rfl rfl) ?_
                    all_goals refine HL_r rfl rfl rfl rfl (R_move rfl) ?_
                    all_goals (refine HL_case 26 rfl (fun hb16 => ?_) (fun hb16 => ?_) <;> (try simp only [decide_eq_true_eq, decide_eq_false_iff_not, beq_iff_eq, beq_eq_false_iff_ne, bne_iff_ne, bne_eq_false_iff_eq, Bool.not_eq_true', Bool.not_eq_false', ne_eq, Int.not_lt, Int.not_le, ge_iff_le, gt_iff_lt] at hb16) <;> first | (refine HL_r rfl rfl rfl rfl (R_fieldAddr rfl rfl (by first | (simp only [Nat.zero_add, Nat.reduceAdd, Nat.reduceMul, Nat.zero_mul, Nat.mul_one, Nat.add_zero]; exact rfl) | exact rfl)) ?_) | (refine HL_skip rfl rfl rfl ?_))
                    all_goals first
                      | (refine HL_r rfl rfl rfl rfl (R_load rfl (known_L (k := 0) rfl) rfl rfl) ?_)
                      | (refine HL_skip rfl rfl rfl ?_)
                    all_goals first
                      | (refine HL_r rfl rfl rfl rfl (R_lenPl rfl hseg rfl) ?_)
                      | (refine HL_skip rfl rfl rfl ?_)
                    all_goals first
                      | (refine HL_r rfl rfl rfl rfl (R_pure rfl rfl rfl) ?_)
                      | (refine HL_skip rfl rfl rfl ?_)
                    all_goals first
                      | (refine HL_r rfl rfl rfl rfl (R_pickT rfl rfl) ?_)
                      | (refine HL_r rfl rfl rfl rfl (R_pickF rfl rfl) ?_)
                    all_goals refine HL_r rfl rfl rfl rfl (R_assign rfl) ?_
                    all_goals refine HL_nil ?_
                    all_goals (
                      refine HQ_then ?_
                      refine hK15 _ _ _ _ ?_; clear hK15 K15
                      refine HC_cond rfl (fun h20 => ?_) (fun h20 => ?_)
                      · try exact Bool.noConfusion h20
                        all_goals try simp only [decide_eq_true_eq, decide_eq_false_iff_not, beq_iff_eq, beq_eq_false_iff_ne, bne_iff_ne, bne_eq_false_iff_eq, Bool.not_eq_true', Bool.not_eq_false', ne_eq, Int.not_lt, Int.not_le, ge_iff_le, gt_iff_lt] at h20
                        all_goals (
                          refine HC_seq fun K21 hK21 => ?_
                          refine HC_region ?_
                          all_goals refine HL_r rfl rfl rfl rfl (R_assign rfl) ?_
                          all_goals refine HL_nil ?_
                          all_goals (
                            refine HQ_then ?_
                            refine hK21 _ _ _ _ ?_; clear hK21 K21
                            refine HC_ret ?_
                            refine HQ_blockR ?_
                            refine HQ_thenR ?_; clear hK4 K4
                            refine HQ_post rfl rfl (.cons (res_tmp rfl) .nil) (fun w1 hs1 => ?_)
                            refine ⟨?_, hs1.keep⟩
                            simp only [resVal]
                            simp_all
                            all_goals first | done | omega | trace_state
                            skip)
                          skip)
                      · try exact Bool.noConfusion h20
                        all_goals try simp only [decide_eq_true_eq, decide_eq_false_iff_not, beq_iff_eq, beq_eq_false_iff_ne, bne_iff_ne, bne_eq_false_iff_eq, Bool.not_eq_true', Bool.not_eq_false', ne_eq, Int.not_lt, Int.not_le, ge_iff_le, gt_iff_lt] at h20
                        all_goals (
                          refine HC_seq fun K22 hK22 => ?_
                          refine HC_region ?_
                          all_goals refine HL_r rfl rfl rfl rfl (R_fieldAddr rfl rfl (by first | (simp only [Nat.zero_add, Nat.reduceAdd, Nat.reduceMul, Nat.zero_mul, Nat.mul_one, Nat.add_zero]; exact rfl) | exact rfl)) ?_
                          all_goals refine HL_r rfl rfl rfl rfl (R_load rfl (known_L (k := 0) rfl) rfl rfl) ?_
                          all_goals refine HL_r rfl rfl rfl rfl (R_move rfl) ?_
                          all_goals refine HL_callR rfl rfl rfl (enters_of Try.func47 (by kernel_rfl) rfl) h2 (fun q hq => Or.inr hq) ?_
                          all_goals refine HL_r rfl rfl rfl rfl (R_assign rfl) ?_
                          all_goals refine HL_nil ?_
                          all_goals (
                            refine HQ_then ?_
                            refine hK22 _ _ _ _ ?_; clear hK22 K22
                            refine HC_cond rfl (fun h23 => ?_) (fun h23 => ?_)
                            · try exact Bool.noConfusion h23
                              all_goals try simp only [decide_eq_true_eq, decide_eq_false_iff_not, beq_iff_eq, beq_eq_false_iff_ne, bne_iff_ne, bne_eq_false_iff_eq, Bool.not_eq_true', Bool.not_eq_false', ne_eq, Int.not_lt, Int.not_le, ge_iff_le, gt_iff_lt] at h23
                              all_goals (
                                refine HC_seq fun K24 hK24 => ?_
                                refine HC_region ?_
                                all_goals refine HL_r rfl rfl rfl rfl (R_assign rfl) ?_
                                all_goals refine HL_nil ?_
                                all_goals (
                                  refine HQ_then ?_
                                  refine hK24 _ _ _ _ ?_; clear hK24 K24
                                  refine HC_ret ?_
                                  refine HQ_blockR ?_
                                  refine HQ_thenR ?_; clear hK4 K4
                                  refine HQ_post rfl rfl (.cons (res_tmp rfl) .nil) (fun w1 hs1 => ?_)
                                  refine ⟨?_, hs1.keep⟩
                                  simp only [resVal]
                                  simp_all
                                  all_goals first | done | omega | trace_state
                                  skip)
                                skip)
                            · try exact Bool.noConfusion h23
                              all_goals try simp only [decide_eq_true_eq, decide_eq_false_iff_not, beq_iff_eq, beq_eq_false_iff_ne, bne_iff_ne, bne_eq_false_iff_eq, Bool.not_eq_true', Bool.not_eq_false', ne_eq, Int.not_lt, Int.not_le, ge_iff_le, gt_iff_lt] at h23
                              all_goals (
                                refine HC_skip ?_
                                refine HQ_blockN ?_
                                refine HQ_then ?_
                                refine hK4 _ _ _ _ ?_; clear hK4 K4
                                refine HC_seq fun K25 hK25 => ?_
                                refine HC_region ?_
                                all_goals refine HL_r rfl rfl rfl rfl (R_assign rfl) ?_
                                all_goals refine HL_nil ?_
                                all_goals (
                                  refine HQ_then ?_
                                  refine hK25 _ _ _ _ ?_; clear hK25 K25
                                  refine HC_ret ?_
                                  refine HQ_post rfl rfl (.cons (res_tmp rfl) .nil) (fun w1 hs1 => ?_)
                                  refine ⟨?_, hs1.keep⟩
                                  simp only [resVal]
                                  simp_all
                                  all_goals first | done | omega | trace_state
                                  skip)
                                skip)
                            skip)
                          skip)
                      skip)
                    skip)
                skip)
              skip)
          skip)
        skip)
      skip)
    skip)
set_option maxRecDepth 10000 in
theorem S_find1 {R : List (Nat × Obj)} {rb e : Nat} {k : BS} (hb : (rb, Obj.cells #[strV k] e (0, 0)) ∈ R) (a : AcL) : PureR Try.prog 25 [vA a, .pointer (some ⟨rb, 0, none⟩)].toArray (.bool (decide (a.addr = k))) R := by
  refine pureR_of_HC Try.func25 rfl rfl fun w => ?_
  refine HC_seq fun K1 hK1 => ?_
  refine HC_region ?_
  all_goals refine HL_box (cs := #[_, _, _, _, _, _, _, _]) rfl rfl rfl rfl fun r1 => ?_
  all_goals refine HL_r rfl rfl rfl rfl (R_assign rfl) ?_
  all_goals refine HL_nil ?_
  all_goals (
    refine HQ_then ?_
    refine hK1 _ _ _ _ ?_; clear hK1 K1
    refine HC_seq fun K2 hK2 => ?_
    refine HC_region ?_
    all_goals refine HL_r rfl rfl rfl rfl (R_fieldAddr rfl rfl (by first | (simp only [Nat.zero_add, Nat.reduceAdd, Nat.reduceMul, Nat.zero_mul, Nat.mul_one, Nat.add_zero]; exact rfl) | exact rfl)) ?_
    all_goals refine HL_r rfl rfl rfl rfl (R_load rfl (known_L (k := 0) rfl) rfl rfl) ?_
    all_goals refine HL_r rfl rfl rfl rfl (R_load rfl (Or.inr hb) rfl rfl) ?_
    all_goals refine HL_r rfl rfl rfl rfl (R_strEq rfl rfl) ?_
    all_goals refine HL_r rfl rfl rfl rfl (R_assign rfl) ?_
    all_goals refine HL_nil ?_
    all_goals (
      refine HQ_then ?_
      refine hK2 _ _ _ _ ?_; clear hK2 K2
      refine HC_ret ?_
      refine HQ_post rfl rfl (.cons (res_tmp rfl) .nil) (fun w1 hs1 => ?_)
      exact ⟨rfl, hs1.keep⟩
      skip)
    skip)
set_option maxRecDepth 10000 in
theorem S_slot1 {R : List (Nat × Obj)} {rb e : Nat} {k : BS} (hb : (rb, Obj.cells #[strV k] e (0, 0)) ∈ R) (x : BS × BS) : PureR Try.prog 27 [vS x, .pointer (some ⟨rb, 0, none⟩)].toArray (.bool (decide (x.1 = k))) R := by
  refine pureR_of_HC Try.func27 rfl rfl fun w => ?_
  refine HC_seq fun K1 hK1 => ?_
  refine HC_region ?_
  all_goals refine HL_box (cs := #[_, _]) rfl rfl rfl rfl fun r1 => ?_
  all_goals refine HL_r rfl rfl rfl rfl (R_assign rfl) ?_
  all_goals refine HL_nil ?_
  all_goals (
    refine HQ_then ?_
    refine hK1 _ _ _ _ ?_; clear hK1 K1
    refine HC_seq fun K2 hK2 => ?_
    refine HC_region ?_
    all_goals refine HL_r rfl rfl rfl rfl (R_fieldAddr rfl rfl (by first | (simp only [Nat.zero_add, Nat.reduceAdd, Nat.reduceMul, Nat.zero_mul, Nat.mul_one, Nat.add_zero]; exact rfl) | exact rfl)) ?_
    all_goals refine HL_r rfl rfl rfl rfl (R_load rfl (known_L (k := 0) rfl) rfl rfl) ?_
    all_goals refine HL_r rfl rfl rfl rfl (R_load rfl (Or.inr hb) rfl rfl) ?_
    all_goals refine HL_r rfl rfl rfl rfl (R_strEq rfl rfl) ?_
    all_goals refine HL_r rfl rfl rfl rfl (R_assign rfl) ?_
    all_goals refine HL_nil ?_
    all_goals (
      refine HQ_then ?_
      refine hK2 _ _ _ _ ?_; clear hK2 K2
      refine HC_ret ?_
      refine HQ_post rfl rfl (.cons (res_tmp rfl) .nil) (fun w1 hs1 => ?_)
      exact ⟨rfl, hs1.keep⟩
      skip)
    skip)
set_option maxRecDepth 10000 in
theorem S_set1 {R : List (Nat × Obj)} {rb e : Nat} {k : BS} (hb : (rb, Obj.cells #[strV k] e (0, 0)) ∈ R) (x : BS × BS) : PureR Try.prog 53 [vS x, .pointer (some ⟨rb, 0, none⟩)].toArray (.bool (decide (x.1 = k))) R := by
  refine pureR_of_HC Try.func53 rfl rfl fun w => ?_
  refine HC_seq fun K1 hK1 => ?_
  refine HC_region ?_
  all_goals refine HL_box (cs := #[_, _]) rfl rfl rfl rfl fun r1 => ?_
  all_goals refine HL_r rfl rfl rfl rfl (R_assign rfl) ?_
  all_goals refine HL_nil ?_
  all_goals (
    refine HQ_then ?_
    refine hK1 _ _ _ _ ?_; clear hK1 K1
    refine HC_seq fun K2 hK2 => ?_
    refine HC_region ?_
    all_goals refine HL_r rfl rfl rfl rfl (R_fieldAddr rfl rfl (by first | (simp only [Nat.zero_add, Nat.reduceAdd, Nat.reduceMul, Nat.zero_mul, Nat.mul_one, Nat.add_zero]; exact rfl) | exact rfl)) ?_
    all_goals refine HL_r rfl rfl rfl rfl (R_load rfl (known_L (k := 0) rfl) rfl rfl) ?_
    all_goals refine HL_r rfl rfl rfl rfl (R_load rfl (Or.inr hb) rfl rfl) ?_
    all_goals refine HL_r rfl rfl rfl rfl (R_strEq rfl rfl) ?_
    all_goals refine HL_r rfl rfl rfl rfl (R_assign rfl) ?_
    all_goals refine HL_nil ?_
    all_goals (
      refine HQ_then ?_
      refine hK2 _ _ _ _ ?_; clear hK2 K2
      refine HC_ret ?_
      refine HQ_post rfl rfl (.cons (res_tmp rfl) .nil) (fun w1 hs1 => ?_)
      exact ⟨rfl, hs1.keep⟩
      skip)
    skip)
set_option maxRecDepth 10000 in
theorem S_Find {R : List (Nat × Obj)} {s : StL} (hs : s.In R) (k : BS) : PureR Try.prog 7 [s.val, strV k].toArray (.tuple #[(findL s k).val, .bool (foundB s k)]) R := by
  have hl := hs.len
  have hseg := hs.seg
  refine pureR_of_HC Try.func7 rfl rfl fun w => ?_
  refine HC_seq fun K1 hK1 => ?_
  refine HC_region ?_
  all_goals refine HL_box (cs := #[_]) rfl rfl rfl rfl fun r1 => ?_
  all_goals refine HL_box (cs := #[_]) rfl rfl rfl rfl fun r2 => ?_
  all_goals refine HL_alloc (cs := #[_, _, _, _, _, _, _, _]) rfl rfl rfl rfl fun r3 => ?_
  all_goals refine HL_r rfl rfl rfl rfl (R_assign rfl) ?_
  all_goals refine HL_nil ?_
  all_goals (
    refine HQ_then ?_
    refine hK1 _ _ _ _ ?_; clear hK1 K1
    refine HC_seq fun K2 hK2 => ?_
    refine HC_region ?_
    all_goals refine HL_r rfl rfl rfl rfl (R_fieldAddr rfl rfl (by first | (simp only [Nat.zero_add, Nat.reduceAdd, Nat.reduceMul, Nat.zero_mul, Nat.mul_one, Nat.add_zero]; exact rfl) | exact rfl)) ?_
    all_goals (refine HL_r rfl rfl rfl rfl (R_load rfl (known_L (k := 2) rfl) rfl rfl) ?_)
    all_goals refine HL_r rfl rfl rfl rfl (R_makeFunc rfl rfl) ?_
    all_goals refine HL_callR (Rl := (r2, Obj.cells #[strV k] 9 (0, 0)) :: R) rfl rfl rfl (enters_of Try.func24 (by kernel_rfl) rfl) (S_indexA (caps := [.pointer (some ⟨r2, 0, none⟩)]) (pr := fun a => decide (a.addr = k)) hl (hseg.mono fun q hq => List.mem_cons_of_mem _ hq) (enters_of Try.func25 (by kernel_rfl) rfl) (fun a _ => S_find1 List.mem_cons_self a)) (fun q hq => (List.mem_cons.1 hq).elim (fun h => Or.inl (by rw [h]; simp)) Or.inr) ?_
    all_goals refine HL_r rfl rfl rfl rfl (R_assign rfl) ?_
    all_goals refine HL_nil ?_
    all_goals (
      refine HQ_then ?_
      refine hK2 _ _ _ _ ?_; clear hK2 K2
      refine HC_seq fun K3 hK3 => ?_
      refine HC_seq fun K4 hK4 => ?_
      refine HC_region ?_
      all_goals refine HL_r rfl rfl rfl rfl (R_move rfl) ?_
      all_goals refine HL_r rfl rfl rfl rfl (R_pure rfl rfl rfl) ?_
      all_goals refine HL_nil ?_
      all_goals (
        refine HQ_then ?_
        refine hK4 _ _ _ _ ?_; clear hK4 K4
        refine HC_cond rfl (fun h5 => ?_) (fun h5 => ?_)
        · try exact Bool.noConfusion h5
          all_goals try simp only [decide_eq_true_eq, decide_eq_false_iff_not, beq_iff_eq, beq_eq_false_iff_ne, bne_iff_ne, bne_eq_false_iff_eq, Bool.not_eq_true', Bool.not_eq_false', ne_eq, Int.not_lt, Int.not_le, ge_iff_le, gt_iff_lt] at h5
          all_goals (
            refine HC_seq fun K6 hK6 => ?_
            have hf := idx_miss (by assumption)
            refine HC_region ?_
            all_goals refine HL_r rfl rfl rfl rfl (R_build (r := [_, _, _, _, _, _, _, _]) rfl rfl) ?_
            all_goals (refine HL_storeA (k := 0) (n := 8) (cs' := #[_, _, _, _, _, _, _, _]) (vs := #[_, _, _, _, _, _, _, _]) rfl rfl rfl rfl rfl rfl rfl (by exact Nat.le_of_ble_eq_true rfl) rfl (by first | (simp only [List.set_cons_zero, List.set_cons_succ]; exact rfl) | exact rfl) ?_)
            all_goals refine HL_r rfl rfl rfl rfl (R_assign rfl) ?_
            all_goals refine HL_nil ?_
            all_goals (
              refine HQ_then ?_
              refine hK6 _ _ _ _ ?_; clear hK6 K6
              refine HC_ret ?_
              refine HQ_thenR ?_; clear hK3 K3
              first
                | refine HQ_post rfl rfl (.cons (res_cellA (vs := [_, _, _, _, _, _, _, _]) rfl (known_L (k := 0) rfl) rfl rfl) (.cons (res_tmp rfl) .nil)) (fun w1 hs1 => ?_)
                | refine HQ_post rfl rfl (.cons (res_cellA (vs := [_, _, _, _, _, _, _, _]) rfl (known_L (k := 1) rfl) rfl rfl) (.cons (res_tmp rfl) .nil)) (fun w1 hs1 => ?_)
                | refine HQ_post rfl rfl (.cons (res_cellA (vs := [_, _, _, _, _, _, _, _]) rfl (known_L (k := 2) rfl) rfl rfl) (.cons (res_tmp rfl) .nil)) (fun w1 hs1 => ?_)
              refine ⟨?_, hs1.keep⟩
              first
                | (rw [(find_miss hf).1, (find_miss hf).2]; rfl)
                | (rw [(find_hit hf).1, (find_hit hf).2]; rfl)
                | omega
              skip)
            skip)
        · try exact Bool.noConfusion h5
          all_goals try simp only [decide_eq_true_eq, decide_eq_false_iff_not, beq_iff_eq, beq_eq_false_iff_ne, bne_iff_ne, bne_eq_false_iff_eq, Bool.not_eq_true', Bool.not_eq_false', ne_eq, Int.not_lt, Int.not_le, ge_iff_le, gt_iff_lt] at h5
          all_goals (
            refine HC_skip ?_
            refine HQ_then ?_
            refine hK3 _ _ _ _ ?_; clear hK3 K3
            refine HC_seq fun K7 hK7 => ?_
            obtain ⟨i, a, hidx, ha, hf⟩ := idx_hit (by assumption)
            refine HC_region ?_
            all_goals refine HL_r rfl rfl rfl rfl (R_fieldAddr rfl rfl (by first | (simp only [Nat.zero_add, Nat.reduceAdd, Nat.reduceMul, Nat.zero_mul, Nat.mul_one, Nat.add_zero]; exact rfl) | exact rfl)) ?_
            all_goals (refine HL_r rfl rfl rfl rfl (R_load rfl (known_L (k := 2) rfl) rfl rfl) ?_)
            all_goals refine HL_r rfl rfl rfl rfl (R_move rfl) ?_
            all_goals refine HL_r rfl rfl rfl rfl (R_indexPl (j := i) rfl hseg rfl rfl rfl (by first | rfl | omega) (by have := (List.getElem?_eq_some_iff.1 ha).1; omega)) ?_
            all_goals refine HL_r rfl rfl rfl rfl (R_loadEl AcL.len (fun q hq => Or.inr hq) rfl hseg ha rfl rfl) ?_
            all_goals (refine HL_storeA (k := 0) (n := 8) (cs' := #[_, _, _, _, _, _, _, _]) (vs := #[_, _, _, _, _, _, _, _]) rfl rfl rfl rfl rfl rfl rfl (by exact Nat.le_of_ble_eq_true rfl) rfl (by first | (simp only [List.set_cons_zero, List.set_cons_succ]; exact rfl) | exact rfl) ?_)
            all_goals refine HL_r rfl rfl rfl rfl (R_assign rfl) ?_
            all_goals refine HL_nil ?_
            all_goals (
              refine HQ_then ?_
              refine hK7 _ _ _ _ ?_; clear hK7 K7
              refine HC_ret ?_
              first
                | refine HQ_post rfl rfl (.cons (res_cellA (vs := [_, _, _, _, _, _, _, _]) rfl (known_L (k := 0) rfl) rfl rfl) (.cons (res_tmp rfl) .nil)) (fun w1 hs1 => ?_)
                | refine HQ_post rfl rfl (.cons (res_cellA (vs := [_, _, _, _, _, _, _, _]) rfl (known_L (k := 1) rfl) rfl rfl) (.cons (res_tmp rfl) .nil)) (fun w1 hs1 => ?_)
                | refine HQ_post rfl rfl (.cons (res_cellA (vs := [_, _, _, _, _, _, _, _]) rfl (known_L (k := 2) rfl) rfl rfl) (.cons (res_tmp rfl) .nil)) (fun w1 hs1 => ?_)
              refine ⟨?_, hs1.keep⟩
              first
                | (rw [(find_miss hf).1, (find_miss hf).2]; rfl)
                | (rw [(find_hit hf).1, (find_hit hf).2]; rfl)
                | omega
              skip)
            skip)
        skip)
      skip)
    skip)
end Go.Proofs.Ytnkmbkndpoghdaa
namespace Go.Proofs.Ytnkmbkndpoghdaa
set_option linter.all false
open Go.SL Go.RowKit Go.Shelf
set_option maxRecDepth 10000 in
theorem S_Check {R : List (Nat × Obj)} {s : StL} (hs : s.In R) : PureR Try.prog 16 [s.val].toArray (.int .i64 (chkS s.er)) R := by
  have hl : s.accts.length ≤ 9223372036854775807 := hs.len
  have hseg := hs.seg
  obtain ⟨hc5, hcg⟩ := chk_len s
  refine pureR_of_HC Try.func16 rfl rfl fun w => ?_
  refine HC_seq fun K1 hK1 => ?_
  refine HC_region ?_
  all_goals refine HL_box (cs := #[_]) rfl rfl rfl rfl fun r1 => ?_
  all_goals refine HL_r rfl rfl rfl rfl (R_assign rfl) ?_
  all_goals refine HL_nil ?_
  all_goals (
    refine HQ_then ?_
    refine hK1 _ _ _ _ ?_; clear hK1 K1
    refine HC_seq fun K2 hK2 => ?_
    refine HC_seq fun K3 hK3 => ?_
    refine HC_region ?_
    all_goals refine HL_r rfl rfl rfl rfl (R_fieldAddr rfl rfl (by first | (simp only [Nat.zero_add, Nat.reduceAdd, Nat.reduceMul, Nat.zero_mul, Nat.mul_one, Nat.add_zero]; exact rfl) | exact rfl)) ?_
    all_goals (refine HL_r rfl rfl rfl rfl (R_load rfl (known_L (k := 0) rfl) rfl rfl) ?_)
    all_goals (refine HL_r rfl rfl rfl rfl (R_lenPl rfl hseg rfl) ?_)
    all_goals refine HL_r rfl rfl rfl rfl (R_pure rfl rfl rfl) ?_
    all_goals refine HL_nil ?_
    all_goals (
      refine HQ_then ?_
      refine hK3 _ _ _ _ ?_; clear hK3 K3
      refine HC_cond rfl (fun h4 => ?_) (fun h4 => ?_)
      · try exact Bool.noConfusion h4
        all_goals try simp only [decide_eq_true_eq, decide_eq_false_iff_not, beq_iff_eq, beq_eq_false_iff_ne, bne_iff_ne, bne_eq_false_iff_eq, Bool.not_eq_true', Bool.not_eq_false', ne_eq, Int.not_lt, Int.not_le, ge_iff_le, gt_iff_lt] at h4
        all_goals (
          refine HC_seq fun K5 hK5 => ?_
          refine HC_region ?_
          all_goals refine HL_r rfl rfl rfl rfl (R_assign rfl) ?_
          all_goals refine HL_nil ?_
          all_goals (
            refine HQ_then ?_
            refine hK5 _ _ _ _ ?_; clear hK5 K5
            refine HC_ret ?_
            refine HQ_thenR ?_; clear hK2 K2
            refine HQ_post rfl rfl (.cons (res_tmp rfl) .nil) (fun w1 hs1 => ?_)
            refine ⟨?_, hs1.keep⟩
            first
              | (rw [hc5 (by assumption)]; rfl)
              | (rw [hcg (by omega), ← hinv, if_pos (by simp_all)]; rfl)
              | (rw [hcg (by omega), ← hinv, List.drop_of_length_le (by rw [s.er_len]; omega)]; rfl)
              | trace_state
            skip)
          skip)
      · try exact Bool.noConfusion h4
        all_goals try simp only [decide_eq_true_eq, decide_eq_false_iff_not, beq_iff_eq, beq_eq_false_iff_ne, bne_iff_ne, bne_eq_false_iff_eq, Bool.not_eq_true', Bool.not_eq_false', ne_eq, Int.not_lt, Int.not_le, ge_iff_le, gt_iff_lt] at h4
        all_goals (
          refine HC_skip ?_
          refine HQ_then ?_
          refine hK2 _ _ _ _ ?_; clear hK2 K2
          refine HC_seq fun K6 hK6 => ?_
          refine HC_seq fun K7 hK7 => ?_
          refine HC_region ?_
          all_goals refine HL_r rfl rfl rfl rfl (R_fieldAddr rfl rfl (by first | (simp only [Nat.zero_add, Nat.reduceAdd, Nat.reduceMul, Nat.zero_mul, Nat.mul_one, Nat.add_zero]; exact rfl) | exact rfl)) ?_
          all_goals (refine HL_r rfl rfl rfl rfl (R_load rfl (known_L (k := 0) rfl) rfl rfl) ?_)
          all_goals (refine HL_r rfl rfl rfl rfl (R_lenPl rfl hseg rfl) ?_)
          all_goals refine HL_r rfl rfl rfl rfl (R_move rfl) ?_
          all_goals refine HL_nil ?_
          all_goals (
            refine HQ_then ?_
            refine hK7 _ _ _ _ ?_; clear hK7 K7
            refine HC_block ?_
            refine HC_loop (σ := Nat) (fun i => i ≤ s.accts.length ∧ goS (lastE s.er i) (s.er.drop i) = goS none s.er) (fun i => [(1, .pointer (some ⟨r1, 0, none⟩)), (11, plV s.accts.length s.p), (12, .int .i64 (s.accts.length : Int)), (13, .int .i64 (i : Int))]) (fun _ => [(r1, .cells s.cells.toArray 24 (0, 0))]) (fun _ _ _ => True) (fun i => s.accts.length - i) 0 ⟨Nat.zero_le _, rfl⟩ (.cons rfl (.cons rfl (.cons rfl (.cons rfl .nil)))) (List.Sublist.refl _) (fun _ _ h => h) ?_
            rintro i ⟨hi1, hinv⟩
            refine HC_seq fun K8 hK8 => ?_
            refine HC_region ?_
            all_goals refine HL_r rfl rfl rfl rfl (R_pure rfl rfl rfl) ?_
            all_goals refine HL_nil ?_
            all_goals (
              refine HQ_then ?_
              refine hK8 _ _ _ _ ?_; clear hK8 K8
              refine HC_seq fun K9 hK9 => ?_
              refine HC_cond rfl (fun h10 => ?_) (fun h10 => ?_)
              · try exact Bool.noConfusion h10
                all_goals try simp only [decide_eq_true_eq, decide_eq_false_iff_not, beq_iff_eq, beq_eq_false_iff_ne, bne_iff_ne, bne_eq_false_iff_eq, Bool.not_eq_true', Bool.not_eq_false', ne_eq, Int.not_lt, Int.not_le, ge_iff_le, gt_iff_lt] at h10
                all_goals (
                  refine HC_skip ?_
                  refine HQ_then ?_
                  refine hK9 _ _ _ _ ?_; clear hK9 K9
                  refine HC_seq fun K11 hK11 => ?_
                  refine HC_block ?_
                  refine HC_seq fun K12 hK12 => ?_
                  obtain ⟨a, ha, hma⟩ := getI (show i < s.accts.length by omega)
                  rw [go_step (er_get ha)] at hinv
                  refine HC_region ?_
                  all_goals refine HL_r rfl rfl rfl rfl (R_move rfl) ?_
                  all_goals refine HL_r rfl rfl rfl rfl (R_indexPl (j := i) rfl hseg rfl rfl rfl (by first | rfl | omega) (by omega)) ?_
                  all_goals refine HL_r rfl rfl rfl rfl (R_loadEl AcL.len (fun q hq => Or.inr hq) rfl hseg ha rfl rfl) ?_
                  all_goals refine HL_alloc (cs := #[_, _, _, _, _, _, _, _]) rfl rfl rfl rfl fun r2 => ?_
                  all_goals refine HL_r rfl rfl rfl rfl (R_assign rfl) ?_
                  all_goals refine HL_storeArr (k := 0) (n := 8) (ys := a.cells) rfl rfl rfl rfl rfl a.len rfl a.one rfl ?_
                  all_goals refine HL_nil ?_
                  all_goals (
                    refine HQ_then ?_
                    refine hK12 _ _ _ _ ?_; clear hK12 K12
                    refine HC_seq fun K13 hK13 => ?_
                    refine HC_region ?_
                    all_goals refine HL_r rfl rfl rfl rfl (R_loadArr (xs := a.cells) (n := 8) rfl (known_L (k := 0) rfl) rfl rfl a.len) ?_
                    all_goals refine HL_callR rfl rfl rfl (enters_of Try.func34 (by kernel_rfl) rfl) (S_look (hs.accts a hma)) (fun q hq => Or.inr hq) ?_
                    all_goals refine HL_r rfl rfl rfl rfl (R_assign rfl) ?_
                    all_goals refine HL_nil ?_
                    all_goals (
                      refine HQ_then ?_
                      refine hK13 _ _ _ _ ?_; clear hK13 K13
                      refine HC_seq fun K14 hK14 => ?_
                      refine HC_seq fun K15 hK15 => ?_
                      refine HC_region ?_
                      all_goals refine HL_r rfl rfl rfl rfl (R_move rfl) ?_
                      all_goals refine HL_r rfl rfl rfl rfl (R_pure rfl rfl rfl) ?_
                      all_goals refine HL_r rfl rfl rfl rfl (R_move rfl) ?_
                      all_goals (refine HL_case 22 rfl (fun hb16 => ?_) (fun hb16 => ?_) <;> (try simp only [decide_eq_true_eq, decide_eq_false_iff_not, beq_iff_eq, beq_eq_false_iff_ne, bne_iff_ne, bne_eq_false_iff_eq, Bool.not_eq_true', Bool.not_eq_false', ne_eq, Int.not_lt, Int.not_le, ge_iff_le, gt_iff_lt] at hb16) <;> first | (refine HL_r rfl rfl rfl rfl (R_move rfl) ?_) | (refine HL_skip rfl rfl rfl ?_))
                      all_goals first
                        | (refine HL_r rfl rfl rfl rfl (R_pure rfl rfl rfl) ?_)
                        | (refine HL_skip rfl rfl rfl ?_)
                      all_goals first
                        | (refine HL_r rfl rfl rfl rfl (R_pickT rfl rfl) ?_)
                        | (refine HL_r rfl rfl rfl rfl (R_pickF rfl rfl) ?_)
                      all_goals refine HL_r rfl rfl rfl rfl (R_move rfl) ?_
                      all_goals first
                        | (refine HL_skip rfl rfl rfl ?_)
                        | (refine HL_case 26 rfl (fun hb18 => ?_) (fun hb18 => ?_) <;> (try simp only [decide_eq_true_eq, decide_eq_false_iff_not, beq_iff_eq, beq_eq_false_iff_ne, bne_iff_ne, bne_eq_false_iff_eq, Bool.not_eq_true', Bool.not_eq_false', ne_eq, Int.not_lt, Int.not_le, ge_iff_le, gt_iff_lt] at hb18) <;> first | (refine HL_r rfl rfl rfl rfl (R_fieldAddr rfl rfl (by first | (simp only [Nat.zero_add, Nat.reduceAdd, Nat.reduceMul, Nat.zero_mul, Nat.mul_one, Nat.add_zero]; exact rfl) | exact rfl)) ?_) | (refine HL_skip rfl rfl rfl ?_))
                      all_goals first
                        | (refine HL_r rfl rfl rfl rfl (R_load rfl (known_L (k := 1) rfl) rfl rfl) ?_)
                        | (refine HL_skip rfl rfl rfl ?_)
                      all_goals first
                        | (refine HL_r rfl rfl rfl rfl (R_move rfl) ?_)
                        | (refine HL_skip rfl rfl rfl ?_)
                      all_goals first
                        | (refine HL_r rfl rfl rfl rfl (R_pure rfl rfl rfl) ?_; refine HL_wrap_i64 (by omega) (by omega) ?_)
                        | (refine HL_skip rfl rfl rfl ?_)
                      all_goals first
                        | (refine HL_r rfl rfl rfl rfl (R_move rfl) ?_)
                        | (refine HL_skip rfl rfl rfl ?_)
                      all_goals first
                        | (refine HL_r rfl rfl rfl rfl (R_pure rfl rfl rfl) ?_; refine HL_wrap_i64 (by omega) (by omega) ?_)
                        | (refine HL_skip rfl rfl rfl ?_)
                      all_goals first
                        | (obtain ⟨x, hx, hmx⟩ := getI (show i - 1 < s.accts.length by omega); refine HL_r rfl rfl rfl rfl (R_slicePl (sz := 8) (a := i - 1) (b := i + 1) (m := 2) rfl hseg rfl rfl (by omega) (by omega) rfl rfl (by omega) (by omega) (by omega)) ?_; have hlast := last_er hx (show i - 1 + 1 = i by omega))
                        | (refine HL_skip rfl rfl rfl ?_)
                      all_goals first
                        | (refine HL_callR rfl rfl rfl (enters_of Try.func35 (by kernel_rfl) rfl) (S_risesA (xs := [x, a]) (show 2 ≤ 9223372036854775807 by decide) (hseg.two AcL.len hx ha (by omega))) (fun q hq => Or.inr hq) ?_; refine HL_as (congrArg Value.bool (risesB_two x a)) ?_)
                        | (refine HL_skip rfl rfl rfl ?_)
                      all_goals first
                        | (refine HL_r rfl rfl rfl rfl (R_pure rfl rfl rfl) ?_)
                        | (refine HL_skip rfl rfl rfl ?_)
                      all_goals first
                        | (refine HL_r rfl rfl rfl rfl (R_pickT rfl rfl) ?_)
                        | (refine HL_r rfl rfl rfl rfl (R_pickF rfl rfl) ?_)
                      all_goals refine HL_nil ?_
                      all_goals (
                        refine HQ_then ?_
                        refine hK15 _ _ _ _ ?_; clear hK15 K15
                        refine HC_cond rfl (fun h27 => ?_) (fun h27 => ?_)
                        · try exact Bool.noConfusion h27
                          all_goals try simp only [decide_eq_true_eq, decide_eq_false_iff_not, beq_iff_eq, beq_eq_false_iff_ne, bne_iff_ne, bne_eq_false_iff_eq, Bool.not_eq_true', Bool.not_eq_false', ne_eq, Int.not_lt, Int.not_le, ge_iff_le, gt_iff_lt] at h27
                          all_goals (
                            refine HC_region ?_
                            all_goals refine HL_r rfl rfl rfl rfl (R_assign rfl) ?_
                            all_goals refine HL_nil ?_
                            all_goals (
                              refine HQ_then ?_
                              refine hK14 _ _ _ _ ?_; clear hK14 K14
                              refine HC_seq fun K28 hK28 => ?_
                              have hst : stepE (lastE s.er i) a.er = 11 ∨ stepE (lastE s.er i) a.er = lkE a.er := by unfold stepE; split <;> simp
                              first
                                | have hst : stepE (lastE s.er i) a.er = 11 := step_11 (by assumption) hlast (by assumption)
                                | have hst : stepE (lastE s.er i) a.er = lkE a.er := step_lk (by first | exact Or.inl (by assumption) | exact Or.inr (Or.inl (by rw [show i = 0 by omega]; rfl)) | exact Or.inr (Or.inr ⟨_, hlast, by assumption⟩))
                              rw [hst] at hinv
                              refine HC_region ?_
                              all_goals refine HL_r rfl rfl rfl rfl (R_move rfl) ?_
                              all_goals refine HL_r rfl rfl rfl rfl (R_pure rfl rfl rfl) ?_
                              all_goals refine HL_nil ?_
                              all_goals (
                                refine HQ_then ?_
                                refine hK28 _ _ _ _ ?_; clear hK28 K28
                                refine HC_cond rfl (fun h29 => ?_) (fun h29 => ?_)
                                · try exact Bool.noConfusion h29
                                  all_goals try simp only [decide_eq_true_eq, decide_eq_false_iff_not, beq_iff_eq, beq_eq_false_iff_ne, bne_iff_ne, bne_eq_false_iff_eq, Bool.not_eq_true', Bool.not_eq_false', ne_eq, Int.not_lt, Int.not_le, ge_iff_le, gt_iff_lt] at h29
                                  all_goals (
                                    refine HC_seq fun K30 hK30 => ?_
                                    refine HC_region ?_
                                    all_goals refine HL_r rfl rfl rfl rfl (R_move rfl) ?_
                                    all_goals refine HL_r rfl rfl rfl rfl (R_assign rfl) ?_
                                    all_goals refine HL_nil ?_
                                    all_goals (
                                      refine HQ_then ?_
                                      refine hK30 _ _ _ _ ?_; clear hK30 K30
                                      refine HC_ret ?_
                                      refine HQ_blockR ?_
                                      refine HQ_thenR ?_; clear hK11 K11
                                      refine HQ_thenR ?_
                                      refine HQ_blockR ?_
                                      refine HQ_thenR ?_; clear hK6 K6
                                      refine HQ_post rfl rfl (.cons (res_tmp rfl) .nil) (fun w1 hs1 => ?_)
                                      refine ⟨?_, hs1.keep⟩
                                      first
                                        | (rw [hc5 (by assumption)]; rfl)
                                        | (rw [hcg (by omega), ← hinv, if_pos (by simp_all)]; rfl)
                                        | (rw [hcg (by omega), ← hinv, List.drop_of_length_le (by rw [s.er_len]; omega)]; rfl)
                                        | trace_state
                                      skip)
                                    skip)
                                · try exact Bool.noConfusion h29
                                  all_goals try simp only [decide_eq_true_eq, decide_eq_false_iff_not, beq_iff_eq, beq_eq_false_iff_ne, bne_iff_ne, bne_eq_false_iff_eq, Bool.not_eq_true', Bool.not_eq_false', ne_eq, Int.not_lt, Int.not_le, ge_iff_le, gt_iff_lt] at h29
                                  all_goals (
                                    refine HC_skip ?_
                                    refine HQ_blockN ?_
                                    refine HQ_then ?_
                                    refine hK11 _ _ _ _ ?_; clear hK11 K11
                                    refine HC_region ?_
                                    all_goals refine HL_r rfl rfl rfl rfl (R_move rfl) ?_
                                    all_goals refine HL_nil ?_
                                    all_goals (
                                      refine HQ_then ?_
                                      exact HQ_again (i + 1) ⟨by omega, by rw [if_neg (by simp_all)] at hinv; exact hinv⟩ (by omega) (.cons rfl (.cons rfl (.cons rfl (.cons rfl .nil)))) (List.sublist_cons_self _ _) (fun _ _ h => h)
                                      skip)
                                    skip)
                                skip)
                              skip)
                            skip)
                        · try exact Bool.noConfusion h27
                          all_goals try simp only [decide_eq_true_eq, decide_eq_false_iff_not, beq_iff_eq, beq_eq_false_iff_ne, bne_iff_ne, bne_eq_false_iff_eq, Bool.not_eq_true', Bool.not_eq_false', ne_eq, Int.not_lt, Int.not_le, ge_iff_le, gt_iff_lt] at h27
                          all_goals (
                            refine HC_skip ?_
                            refine HQ_then ?_
                            refine hK14 _ _ _ _ ?_; clear hK14 K14
                            refine HC_seq fun K31 hK31 => ?_
                            have hst : stepE (lastE s.er i) a.er = 11 ∨ stepE (lastE s.er i) a.er = lkE a.er := by unfold stepE; split <;> simp
                            first
                              | have hst : stepE (lastE s.er i) a.er = 11 := step_11 (by assumption) hlast (by assumption)
                              | have hst : stepE (lastE s.er i) a.er = lkE a.er := step_lk (by first | exact Or.inl (by assumption) | exact Or.inr (Or.inl (by rw [show i = 0 by omega]; rfl)) | exact Or.inr (Or.inr ⟨_, hlast, by assumption⟩))
                            rw [hst] at hinv
                            refine HC_region ?_
                            all_goals refine HL_r rfl rfl rfl rfl (R_move rfl) ?_
                            all_goals refine HL_r rfl rfl rfl rfl (R_pure rfl rfl rfl) ?_
                            all_goals refine HL_nil ?_
                            all_goals (
                              refine HQ_then ?_
                              refine hK31 _ _ _ _ ?_; clear hK31 K31
                              refine HC_cond rfl (fun h32 => ?_) (fun h32 => ?_)
                              · try exact Bool.noConfusion h32
                                all_goals try simp only [decide_eq_true_eq, decide_eq_false_iff_not, beq_iff_eq, beq_eq_false_iff_ne, bne_iff_ne, bne_eq_false_iff_eq, Bool.not_eq_true', Bool.not_eq_false', ne_eq, Int.not_lt, Int.not_le, ge_iff_le, gt_iff_lt] at h32
                                all_goals (
                                  refine HC_seq fun K33 hK33 => ?_
                                  refine HC_region ?_
                                  all_goals refine HL_r rfl rfl rfl rfl (R_move rfl) ?_
                                  all_goals refine HL_r rfl rfl rfl rfl (R_assign rfl) ?_
                                  all_goals refine HL_nil ?_
                                  all_goals (
                                    refine HQ_then ?_
                                    refine hK33 _ _ _ _ ?_; clear hK33 K33
                                    refine HC_ret ?_
                                    refine HQ_blockR ?_
                                    refine HQ_thenR ?_; clear hK11 K11
                                    refine HQ_thenR ?_
                                    refine HQ_blockR ?_
                                    refine HQ_thenR ?_; clear hK6 K6
                                    refine HQ_post rfl rfl (.cons (res_tmp rfl) .nil) (fun w1 hs1 => ?_)
                                    refine ⟨?_, hs1.keep⟩
                                    first
                                      | (rw [hc5 (by assumption)]; rfl)
                                      | (rw [hcg (by omega), ← hinv, if_pos (by simp_all)]; rfl)
                                      | (rw [hcg (by omega), ← hinv, List.drop_of_length_le (by rw [s.er_len]; omega)]; rfl)
                                      | trace_state
                                    skip)
                                  skip)
                              · try exact Bool.noConfusion h32
                                all_goals try simp only [decide_eq_true_eq, decide_eq_false_iff_not, beq_iff_eq, beq_eq_false_iff_ne, bne_iff_ne, bne_eq_false_iff_eq, Bool.not_eq_true', Bool.not_eq_false', ne_eq, Int.not_lt, Int.not_le, ge_iff_le, gt_iff_lt] at h32
                                all_goals (
                                  refine HC_skip ?_
                                  refine HQ_blockN ?_
                                  refine HQ_then ?_
                                  refine hK11 _ _ _ _ ?_; clear hK11 K11
                                  refine HC_region ?_
                                  all_goals (refine HL_r rfl rfl rfl rfl (R_pure rfl rfl rfl) ?_; refine HL_wrap_i64 (by omega) (by omega) ?_)
                                  all_goals refine HL_r rfl rfl rfl rfl (R_move rfl) ?_
                                  all_goals refine HL_nil ?_
                                  all_goals (
                                    refine HQ_then ?_
                                    exact HQ_again (i + 1) ⟨by omega, by rw [if_neg (by simp_all)] at hinv; exact hinv⟩ (by omega) (.cons rfl (.cons rfl (.cons rfl (.cons rfl .nil)))) (List.sublist_cons_self _ _) (fun _ _ h => h)
                                    skip)
                                  skip)
                              skip)
                            skip)
                        skip)
                      skip)
                    skip)
                  skip)
              · try exact Bool.noConfusion h10
                all_goals try simp only [decide_eq_true_eq, decide_eq_false_iff_not, beq_iff_eq, beq_eq_false_iff_ne, bne_iff_ne, bne_eq_false_iff_eq, Bool.not_eq_true', Bool.not_eq_false', ne_eq, Int.not_lt, Int.not_le, ge_iff_le, gt_iff_lt] at h10
                all_goals (
                  refine HC_exit ?_
                  refine HQ_thenE ?_; clear hK9 K9
                  refine HQ_thenE ?_
                  refine HQ_blockE ?_
                  refine HQ_then ?_
                  refine hK6 _ _ _ _ ?_; clear hK6 K6
                  refine HC_seq fun K34 hK34 => ?_
                  refine HC_region ?_
                  all_goals refine HL_r rfl rfl rfl rfl (R_assign rfl) ?_
                  all_goals refine HL_nil ?_
                  all_goals (
                    refine HQ_then ?_
                    refine hK34 _ _ _ _ ?_; clear hK34 K34
                    refine HC_ret ?_
                    refine HQ_post rfl rfl (.cons (res_tmp rfl) .nil) (fun w1 hs1 => ?_)
                    refine ⟨?_, hs1.keep⟩
                    first
                      | (rw [hc5 (by assumption)]; rfl)
                      | (rw [hcg (by omega), ← hinv, if_pos (by simp_all)]; rfl)
                      | (rw [hcg (by omega), ← hinv, List.drop_of_length_le (by rw [s.er_len]; omega)]; rfl)
                      | trace_state
                    skip)
                  skip)
              skip)
            skip)
          skip)
      skip)
    skip)
set_option maxRecDepth 10000 in
theorem S_Slot {R : List (Nat × Obj)} {a : AcL} (ha : a.In R) (k : BS) : PureR Try.prog 10 [a.val, strV k].toArray (strV (slotE a.er k)) R := by
  have hl : a.slots.length ≤ 9223372036854775807 := ha.len
  have hseg := ha.seg
  refine pureR_of_HC Try.func10 rfl rfl fun w => ?_
  refine HC_seq fun K1 hK1 => ?_
  refine HC_region ?_
  all_goals refine HL_box (cs := #[_, _, _, _, _, _, _, _]) rfl rfl rfl rfl fun r1 => ?_
  all_goals refine HL_box (cs := #[_]) rfl rfl rfl rfl fun r2 => ?_
  all_goals refine HL_r rfl rfl rfl rfl (R_assign rfl) ?_
  all_goals refine HL_nil ?_
  all_goals (
    refine HQ_then ?_
    refine hK1 _ _ _ _ ?_; clear hK1 K1
    refine HC_seq fun K2 hK2 => ?_
    refine HC_region ?_
    all_goals refine HL_r rfl rfl rfl rfl (R_fieldAddr rfl rfl (by first | (simp only [Nat.zero_add, Nat.reduceAdd, Nat.reduceMul, Nat.zero_mul, Nat.mul_one, Nat.add_zero]; exact rfl) | exact rfl)) ?_
    all_goals (refine HL_r rfl rfl rfl rfl (R_load rfl (known_L (k := 1) rfl) rfl rfl) ?_)
    all_goals refine HL_r rfl rfl rfl rfl (R_makeFunc rfl rfl) ?_
    all_goals refine HL_callR (Rl := (r2, Obj.cells #[strV k] 9 (0, 0)) :: R) rfl rfl rfl (enters_of Try.func26 (by kernel_rfl) rfl) (S_indexS (caps := [.pointer (some ⟨r2, 0, none⟩)]) (pr := fun x => decide (x.1 = k)) hl (hseg.mono fun q hq => List.mem_cons_of_mem _ hq) (enters_of Try.func27 (by kernel_rfl) rfl) (fun x _ => S_slot1 List.mem_cons_self x)) (fun q hq => (List.mem_cons.1 hq).elim (fun h => Or.inl (by rw [h]; simp)) Or.inr) ?_
    all_goals refine HL_r rfl rfl rfl rfl (R_assign rfl) ?_
    all_goals refine HL_nil ?_
    all_goals (
      refine HQ_then ?_
      refine hK2 _ _ _ _ ?_; clear hK2 K2
      refine HC_seq fun K3 hK3 => ?_
      refine HC_seq fun K4 hK4 => ?_
      refine HC_region ?_
      all_goals refine HL_r rfl rfl rfl rfl (R_move rfl) ?_
      all_goals refine HL_r rfl rfl rfl rfl (R_pure rfl rfl rfl) ?_
      all_goals refine HL_nil ?_
      all_goals (
        refine HQ_then ?_
        refine hK4 _ _ _ _ ?_; clear hK4 K4
        refine HC_cond rfl (fun h5 => ?_) (fun h5 => ?_)
        · try exact Bool.noConfusion h5
          all_goals try simp only [decide_eq_true_eq, decide_eq_false_iff_not, beq_iff_eq, beq_eq_false_iff_ne, bne_iff_ne, bne_eq_false_iff_eq, Bool.not_eq_true', Bool.not_eq_false', ne_eq, Int.not_lt, Int.not_le, ge_iff_le, gt_iff_lt] at h5
          all_goals (
            refine HC_seq fun K6 hK6 => ?_
            have hf := idx_miss (by assumption)
            refine HC_region ?_
            all_goals refine HL_callP rfl rfl rfl (enters_of Try.func28 (by kernel_rfl) rfl) P_none ?_
            all_goals refine HL_r rfl rfl rfl rfl (R_assign rfl) ?_
            all_goals refine HL_nil ?_
            all_goals (
              refine HQ_then ?_
              refine hK6 _ _ _ _ ?_; clear hK6 K6
              refine HC_ret ?_
              refine HQ_thenR ?_; clear hK3 K3
              refine HQ_post rfl rfl (.cons (res_tmp rfl) .nil) (fun w1 hs1 => ?_)
              refine ⟨?_, hs1.keep⟩
              first
                | (rw [slot_miss (a := a.er) hf]; rfl)
                | (rw [slot_hit (a := a.er) hf]; rfl)
              skip)
            skip)
        · try exact Bool.noConfusion h5
          all_goals try simp only [decide_eq_true_eq, decide_eq_false_iff_not, beq_iff_eq, beq_eq_false_iff_ne, bne_iff_ne, bne_eq_false_iff_eq, Bool.not_eq_true', Bool.not_eq_false', ne_eq, Int.not_lt, Int.not_le, ge_iff_le, gt_iff_lt] at h5
          all_goals (
            refine HC_skip ?_
            refine HQ_then ?_
            refine hK3 _ _ _ _ ?_; clear hK3 K3
            refine HC_seq fun K7 hK7 => ?_
            obtain ⟨i, x, hidx, hx, hf⟩ := idx_hit (by assumption)
            refine HC_region ?_
            all_goals refine HL_r rfl rfl rfl rfl (R_fieldAddr rfl rfl (by first | (simp only [Nat.zero_add, Nat.reduceAdd, Nat.reduceMul, Nat.zero_mul, Nat.mul_one, Nat.add_zero]; exact rfl) | exact rfl)) ?_
            all_goals (refine HL_r rfl rfl rfl rfl (R_load rfl (known_L (k := 1) rfl) rfl rfl) ?_)
            all_goals refine HL_r rfl rfl rfl rfl (R_move rfl) ?_
            all_goals refine HL_r rfl rfl rfl rfl (R_indexPl (j := i) rfl hseg rfl rfl rfl (by first | rfl | omega) (by have := (List.getElem?_eq_some_iff.1 hx).1; omega)) ?_
            all_goals refine HL_r rfl rfl rfl rfl (R_fieldAddr (off' := plO a.p + (i * 2 + 1)) rfl rfl (by show plO a.p + i * 2 + 1 = _; omega)) ?_
            all_goals refine HL_r rfl rfl rfl rfl (R_loadEf slC_len (k := 1) (v := strV x.2) (fun q hq => Or.inr hq) rfl hseg hx rfl rfl) ?_
            all_goals refine HL_r rfl rfl rfl rfl (R_assign rfl) ?_
            all_goals refine HL_nil ?_
            all_goals (
              refine HQ_then ?_
              refine hK7 _ _ _ _ ?_; clear hK7 K7
              refine HC_ret ?_
              refine HQ_post rfl rfl (.cons (res_tmp rfl) .nil) (fun w1 hs1 => ?_)
              refine ⟨?_, hs1.keep⟩
              first
                | (rw [slot_miss (a := a.er) hf]; rfl)
                | (rw [slot_hit (a := a.er) hf]; rfl)
              skip)
            skip)
        skip)
      skip)
    skip)
end Go.Proofs.Ytnkmbkndpoghdaa
namespace Go.Proofs.Ytnkmbkndpoghdaa
set_option linter.all false
open Go.SL Go.RowKit Go.Shelf
set_option maxRecDepth 10000 in
theorem S_delete {R : List (Nat × Obj)} {xs : List (BS × BS)} {row : Row} (hl : xs.length ≤ 1000) (hrow : rowOk 2 xs.length (xs.flatMap slC) row) {g : FuncId} {caps : List Value} {pr : BS × BS → Bool} (eg : Enters Try.prog g) (hg : ∀ x ∈ xs, PureR Try.prog g (vS x :: caps).toArray (.bool (pr x)) R) :
    PureT (α := { row' : Row // rowOk 2 (xs.filter fun x => !pr x).length ((xs.filter fun x => !pr x).flatMap slC) row' }) Try.prog 52 [rowV xs.length row, .func (.func g) #[] caps.toArray].toArray (fun x => rowV (xs.filter fun x => !pr x).length x.1) (rowL 68 (xs.flatMap slC) row) (fun x => rowL 68 ((xs.filter fun x => !pr x).flatMap slC) x.1) R := by
  have hseg := rowP_seg (e := 68) hrow (by decide)
  have hV := rowP_V xs.length row (fun h => by subst h; exact hrow.1)
  have hidx := S_indexS (R := rowL 68 (xs.flatMap slC) row ++ R) (by omega) (hseg.mono fun q hq => List.mem_append_left _ hq) eg (fun x hx => (hg x hx).mono fun q hq => List.mem_append_right _ hq)
  rw [hV] at hidx
  obtain ⟨m, hm⟩ : ∃ m, m = idxI pr xs := ⟨_, rfl⟩
  rw [← hm] at hidx
  refine pureT_of_HC Try.func52 rfl rfl fun w => ?_
  refine HC_seq fun K1 hK1 => ?_
  refine HC_region ?_
  all_goals refine HL_r rfl rfl rfl rfl (R_assign rfl) ?_
  all_goals refine HL_nil ?_
  all_goals (
    refine HQ_then ?_
    refine hK1 _ _ _ _ ?_; clear hK1 K1
    refine HC_seq fun K2 hK2 => ?_
    refine HC_region ?_
    all_goals refine HL_r rfl rfl rfl rfl (R_move rfl) ?_
    all_goals refine HL_r rfl rfl rfl rfl (R_move rfl) ?_
    all_goals refine HL_callR (Rl := rowL 68 (xs.flatMap slC) row ++ R) rfl rfl rfl (enters_of Try.func26 (by kernel_rfl) rfl) hidx (fun q hq => (List.mem_append.1 hq).elim Or.inl Or.inr) ?_
    all_goals refine HL_r rfl rfl rfl rfl (R_assign rfl) ?_
    all_goals refine HL_nil ?_
    all_goals (
      refine HQ_then ?_
      refine hK2 _ _ _ _ ?_; clear hK2 K2
      refine HC_seq fun K3 hK3 => ?_
      refine HC_seq fun K4 hK4 => ?_
      refine HC_region ?_
      all_goals refine HL_r rfl rfl rfl rfl (R_move rfl) ?_
      all_goals refine HL_r rfl rfl rfl rfl (R_pure rfl rfl rfl) ?_
      all_goals refine HL_nil ?_
      all_goals (
        refine HQ_then ?_
        refine hK4 _ _ _ _ ?_; clear hK4 K4
        refine HC_cond rfl (fun h5 => ?_) (fun h5 => ?_)
        · try exact Bool.noConfusion h5
          all_goals try simp only [decide_eq_true_eq, decide_eq_false_iff_not, beq_iff_eq, beq_eq_false_iff_ne, bne_iff_ne, bne_eq_false_iff_eq, Bool.not_eq_true', Bool.not_eq_false', ne_eq, Int.not_lt, Int.not_le, ge_iff_le, gt_iff_lt] at h5
          all_goals (
            refine HC_seq fun K6 hK6 => ?_
            refine HC_region ?_
            all_goals refine HL_r rfl rfl rfl rfl (R_move rfl) ?_
            all_goals refine HL_r rfl rfl rfl rfl (R_assign rfl) ?_
            all_goals refine HL_nil ?_
            all_goals (
              refine HQ_then ?_
              refine hK6 _ _ _ _ ?_; clear hK6 K6
              refine HC_ret ?_
              refine HQ_thenR ?_; clear hK3 K3
              refine HQ_post rfl rfl (.cons (res_tmp rfl) .nil) (fun w1 hs1 => ?_)
              first
                | (have hall := idx_all (pr := pr) (xs := xs) (by omega)
                   rw [hall]
                   exact ⟨⟨row, hrow⟩, rfl, hs1⟩)
                | (have hfull : (xs.take j).filter (fun x => !pr x) = xs.filter fun x => !pr x := by rw [hjn, List.take_length]
                   rw [hfull] at hs1 ⊢
                   refine ⟨⟨some (r, cap, _), cat_len slC_len _, ?_⟩, rfl, hs1.weakL (by simp only [rowL]; exact List.Sublist.refl _)⟩
                   have hz : ∀ n, (Builtin.zeroCells (Value.agg #[Value.string ⟨#[]⟩, Value.string ⟨#[]⟩]).cells n).toList.length = n * 2 := fun n => by rw [Array.length_toList, size_zeroCells]; rfl
                   rw [List.length_append, hz]
                   have := List.length_filter_le (fun x => !pr x) xs
                   omega)
                | trace_state
              skip)
            skip)
        · try exact Bool.noConfusion h5
          all_goals try simp only [decide_eq_true_eq, decide_eq_false_iff_not, beq_iff_eq, beq_eq_false_iff_ne, bne_iff_ne, bne_eq_false_iff_eq, Bool.not_eq_true', Bool.not_eq_false', ne_eq, Int.not_lt, Int.not_le, ge_iff_le, gt_iff_lt] at h5
          all_goals (
            refine HC_skip ?_
            refine HQ_then ?_
            refine hK3 _ _ _ _ ?_; clear hK3 K3
            refine HC_seq fun K7 hK7 => ?_
            refine HC_seq fun K8 hK8 => ?_
            obtain ⟨i, e0⟩ : ∃ i : Nat, m = (i : Int) := by
              rcases idx_find (pr := pr) (xs := xs) with ⟨h, _⟩ | ⟨i, _, h, _⟩
              · unfold idxI at hm h; split at hm <;> split at h <;> first | omega | simp_all
              · exact ⟨i, hm.trans h⟩
            subst e0
            obtain ⟨hil, hif⟩ := idx_cut hm.symm
            obtain ⟨r, cap, sp, rfl⟩ := row_some hrow (by omega)
            obtain ⟨hr1, hr2⟩ := hrow
            obtain ⟨x0, hx0, _⟩ := getI hil
            have hsplit : xs.flatMap slC ++ sp = ((xs.take (i + 1)).filter fun x => !pr x).flatMap slC ++ (slC x0 ++ ((xs.drop (i + 1)).flatMap slC ++ sp)) := by
              rw [hif, ← List.append_assoc (slC x0), ← cat_drop hx0, ← List.append_assoc, ← List.flatMap_append, List.take_append_drop]
            change HC _ _ _ [(r, .cells (xs.flatMap slC ++ sp).toArray 68 (0, 0))] _ _ _
            rw [hsplit]
            have hcap : xs.length ≤ cap := by omega
            have hi1 : ((xs.take (i + 1)).filter fun x => !pr x).length = i := by rw [hif, List.length_take]; omega
            refine HC_region ?_
            all_goals refine HL_r rfl rfl rfl rfl (R_move rfl) ?_
            all_goals first
              | (refine HL_r rfl rfl rfl rfl (R_pure rfl rfl rfl) ?_; refine HL_wrap_i64 (by omega) (by omega) ?_)
              | (refine HL_r rfl rfl rfl rfl (R_pure rfl rfl rfl) ?_)
            all_goals refine HL_r rfl rfl rfl rfl (R_assign rfl) ?_
            all_goals refine HL_nil ?_
            all_goals (
              refine HQ_then ?_
              refine hK8 _ _ _ _ ?_; clear hK8 K8
              refine HC_block ?_
              refine HC_loop (σ := Nat × List Value) (fun s => s.1 ≤ xs.length ∧ ((xs.take s.1).filter fun x => !pr x).length < s.1 ∧ s.2.length + ((xs.take s.1).filter fun x => !pr x).length * 2 = s.1 * 2) (fun s => [(0, .slice (some ⟨r, 0, none⟩) xs.length cap), (1, .func (.func g) #[] caps.toArray), (5, .int .i64 (((xs.take s.1).filter fun x => !pr x).length : Nat)), (6, .int .i64 (s.1 : Int))]) (fun s => [(r, .cells (((xs.take s.1).filter fun x => !pr x).flatMap slC ++ (s.2 ++ ((xs.drop s.1).flatMap slC ++ sp))).toArray 68 (0, 0))]) (fun _ _ _ => True) (fun s => xs.length - s.1) (i + 1, slC x0) ⟨by simp only; omega, by simp only; omega, by simp only [slC_len]; omega⟩ (.cons rfl (.cons rfl (.cons (by rw [hi1]; rfl) (.cons rfl .nil)))) (List.Sublist.refl _) (fun _ _ h => h) ?_
              rintro ⟨j, G⟩ ⟨hj1, hj2, hG⟩
              simp only at hj1 hj2 hG
              change HC _ _ [(0, _), (1, _), (5, .int .i64 (((xs.take j).filter fun x => !pr x).length : Nat)), (6, .int .i64 (j : Int))] [(r, .cells (((xs.take j).filter fun x => !pr x).flatMap slC ++ (G ++ ((xs.drop j).flatMap slC ++ sp))).toArray 68 (0, 0))] _ _ _
              refine HC_seq fun K9 hK9 => ?_
              refine HC_seq fun K10 hK10 => ?_
              refine HC_region ?_
              all_goals refine HL_r rfl rfl rfl rfl (R_move rfl) ?_
              all_goals refine HL_r rfl rfl rfl rfl (R_move rfl) ?_
              all_goals first
                | (refine HL_r rfl rfl rfl rfl (R_lenBs rfl rfl) ?_)
                | (refine HL_r rfl rfl rfl rfl (R_lenSl rfl rfl) ?_)
                | (refine HL_r rfl rfl rfl rfl (R_lenStr rfl rfl rfl) ?_)
                | (refine HL_r rfl rfl rfl rfl (R_pure rfl rfl rfl) ?_)
              all_goals refine HL_r rfl rfl rfl rfl (R_pure rfl rfl rfl) ?_
              all_goals refine HL_nil ?_
              all_goals (
                refine HQ_then ?_
                refine hK10 _ _ _ _ ?_; clear hK10 K10
                refine HC_cond rfl (fun h11 => ?_) (fun h11 => ?_)
                · try exact Bool.noConfusion h11
                  all_goals try simp only [decide_eq_true_eq, decide_eq_false_iff_not, beq_iff_eq, beq_eq_false_iff_ne, bne_iff_ne, bne_eq_false_iff_eq, Bool.not_eq_true', Bool.not_eq_false', ne_eq, Int.not_lt, Int.not_le, ge_iff_le, gt_iff_lt] at h11
                  all_goals (
                    refine HC_skip ?_
                    refine HQ_then ?_
                    refine hK9 _ _ _ _ ?_; clear hK9 K9
                    refine HC_seq fun K12 hK12 => ?_
                    refine HC_block ?_
                    refine HC_seq fun K13 hK13 => ?_
                    obtain ⟨x, hx, hmx⟩ := getI (show j < xs.length by omega)
                    rw [cat_drop hx, List.append_assoc (slC x)]
                    refine HC_region ?_
                    all_goals refine HL_r rfl rfl rfl rfl (R_move rfl) ?_
                    all_goals refine HL_r rfl rfl rfl rfl (R_move rfl) ?_
                    all_goals refine HL_r rfl rfl rfl rfl (R_indexS (j := j) (m := 2) rfl rfl rfl rfl rfl (by omega) rfl) ?_
                    all_goals refine HL_r rfl rfl rfl rfl (R_loadA (n := 2) (vs := slC x) rfl (known_L (k := 0) rfl) rfl rfl (by simp only [List.toList_toArray]; rw [← List.append_assoc, List.drop_left' (by rw [List.length_append, cat_len slC_len]; omega), List.take_left' (slC_len x)]) rfl) ?_
                    all_goals refine HL_alloc (cs := #[_, _]) rfl rfl rfl rfl fun r1 => ?_
                    all_goals refine HL_storeArr (k := 0) (n := 2) (ys := slC x) rfl rfl rfl rfl rfl rfl rfl rfl rfl ?_
                    all_goals refine HL_nil ?_
                    all_goals (
                      refine HQ_then ?_
                      refine hK13 _ _ _ _ ?_; clear hK13 K13
                      refine HC_seq fun K14 hK14 => ?_
                      refine HC_region ?_
                      all_goals refine HL_r rfl rfl rfl rfl (R_move rfl) ?_
                      all_goals refine HL_r rfl rfl rfl rfl (R_loadArr (xs := slC x) (n := 2) rfl (known_L (k := 0) rfl) rfl rfl rfl) ?_
                      all_goals refine HL_callR rfl rfl rfl eg (hg x hmx) (fun q hq => Or.inr hq) ?_
                      all_goals refine HL_r rfl rfl rfl rfl (R_pure rfl rfl rfl) ?_
                      all_goals refine HL_nil ?_
                      all_goals (
                        refine HQ_then ?_
                        refine hK14 _ _ _ _ ?_; clear hK14 K14
                        refine HC_cond rfl (fun h15 => ?_) (fun h15 => ?_)
                        · try exact Bool.noConfusion h15
                          all_goals try simp only [decide_eq_true_eq, decide_eq_false_iff_not, beq_iff_eq, beq_eq_false_iff_ne, bne_iff_ne, bne_eq_false_iff_eq, Bool.not_eq_true', Bool.not_eq_false', ne_eq, Int.not_lt, Int.not_le, ge_iff_le, gt_iff_lt] at h15
                          all_goals (
                            refine HC_seq fun K16 hK16 => ?_
                            obtain ⟨M, G2, hcut, lM⟩ := cut (l := G ++ slC x) (a := 2) (by rw [List.length_append, slC_len]; omega)
                            have lG2 : G2.length = G.length := by have := congrArg List.length hcut; simp only [List.length_append, slC_len] at this; omega
                            have hkeep := take_filter_succ (pr := fun x => !pr x) hx
                            rw [if_pos (by simp_all)] at hkeep
                            refine HC_region ?_
                            all_goals refine HL_r rfl rfl rfl rfl (R_move rfl) ?_
                            all_goals refine HL_r rfl rfl rfl rfl (R_move rfl) ?_
                            all_goals refine HL_r rfl rfl rfl rfl (R_loadArr (xs := slC x) (n := 2) rfl (known_L (k := 0) rfl) rfl rfl rfl) ?_
                            all_goals refine HL_r rfl rfl rfl rfl (R_indexS (j := ((xs.take j).filter fun x => !pr x).length) (m := 2) rfl rfl rfl rfl rfl (by omega) rfl) ?_
                            all_goals refine HL_storeA (k := 1) (n := 2) (vs := (slC x).toArray) (cs' := (((xs.take j).filter fun x => !pr x).flatMap slC ++ (slC x ++ (G2 ++ ((xs.drop (j + 1)).flatMap slC ++ sp)))).toArray) rfl rfl rfl rfl rfl rfl rfl (by simp only [List.size_toArray, List.length_append, cat_len slC_len]; omega) (by apply Array.toList_inj.1; simp only [List.toList_toArray, Nat.zero_add]; rw [show G ++ (slC x ++ ((xs.drop (j + 1)).flatMap slC ++ sp)) = M ++ (G2 ++ ((xs.drop (j + 1)).flatMap slC ++ sp)) by rw [← List.append_assoc, hcut, List.append_assoc]]; exact splice (cat_len slC_len _) lM) rfl ?_
                            all_goals refine HL_nil ?_
                            all_goals (
                              refine HQ_then ?_
                              refine hK16 _ _ _ _ ?_; clear hK16 K16
                              refine HC_region ?_
                              all_goals refine HL_r rfl rfl rfl rfl (R_move rfl) ?_
                              all_goals first
                                | (refine HL_r rfl rfl rfl rfl (R_pure rfl rfl rfl) ?_; refine HL_wrap_i64 (by omega) (by omega) ?_)
                                | (refine HL_r rfl rfl rfl rfl (R_pure rfl rfl rfl) ?_)
                              all_goals refine HL_r rfl rfl rfl rfl (R_assign rfl) ?_
                              all_goals refine HL_nil ?_
                              all_goals (
                                refine HQ_blockN ?_
                                refine HQ_then ?_
                                refine hK12 _ _ _ _ ?_; clear hK12 K12
                                refine HC_region ?_
                                all_goals refine HL_r rfl rfl rfl rfl (R_move rfl) ?_
                                all_goals first
                                  | (refine HL_r rfl rfl rfl rfl (R_pure rfl rfl rfl) ?_; refine HL_wrap_i64 (by omega) (by omega) ?_)
                                  | (refine HL_r rfl rfl rfl rfl (R_pure rfl rfl rfl) ?_)
                                all_goals refine HL_r rfl rfl rfl rfl (R_assign rfl) ?_
                                all_goals refine HL_nil ?_
                                all_goals (
                                  refine HQ_then ?_
                                  first
                                    | exact HQ_again (j + 1, G2) ⟨by simp only; omega, by simp only; rw [hkeep, List.length_append, List.length_singleton]; omega, by simp only; rw [hkeep, List.length_append, List.length_singleton]; omega⟩ (by simp only; omega) (.cons rfl (.cons rfl (.cons (by simp only [look]; rw [hkeep, List.length_append, List.length_singleton]; rfl) (.cons rfl .nil)))) (by simp only [hkeep, List.flatMap_append, List.flatMap_singleton, List.append_assoc]; exact List.sublist_cons_self _ _) (fun _ _ h => h)
                                    | (have hdel := take_filter_succ (pr := fun x => !pr x) hx
                                       rw [if_neg (by simp_all), List.append_nil] at hdel
                                       exact HQ_again (j + 1, G ++ slC x) ⟨by simp only; omega, by simp only; rw [hdel]; omega, by simp only [List.length_append, slC_len]; rw [hdel]; omega⟩ (by simp only; omega) (.cons rfl (.cons rfl (.cons (by simp only [look]; rw [hdel]; rfl) (.cons rfl .nil)))) (by simp only [hdel, List.append_assoc]; exact List.sublist_cons_self _ _) (fun _ _ h => h))
                                  skip)
                                skip)
                              skip)
                            skip)
                        · try exact Bool.noConfusion h15
                          all_goals try simp only [decide_eq_true_eq, decide_eq_false_iff_not, beq_iff_eq, beq_eq_false_iff_ne, bne_iff_ne, bne_eq_false_iff_eq, Bool.not_eq_true', Bool.not_eq_false', ne_eq, Int.not_lt, Int.not_le, ge_iff_le, gt_iff_lt] at h15
                          all_goals (
                            refine HC_skip ?_
                            refine HQ_blockN ?_
                            refine HQ_then ?_
                            refine hK12 _ _ _ _ ?_; clear hK12 K12
                            refine HC_region ?_
                            all_goals refine HL_r rfl rfl rfl rfl (R_move rfl) ?_
                            all_goals first
                              | (refine HL_r rfl rfl rfl rfl (R_pure rfl rfl rfl) ?_; refine HL_wrap_i64 (by omega) (by omega) ?_)
                              | (refine HL_r rfl rfl rfl rfl (R_pure rfl rfl rfl) ?_)
                            all_goals refine HL_r rfl rfl rfl rfl (R_assign rfl) ?_
                            all_goals refine HL_nil ?_
                            all_goals (
                              refine HQ_then ?_
                              first
                                | exact HQ_again (j + 1, G2) ⟨by simp only; omega, by simp only; rw [hkeep, List.length_append, List.length_singleton]; omega, by simp only; rw [hkeep, List.length_append, List.length_singleton]; omega⟩ (by simp only; omega) (.cons rfl (.cons rfl (.cons (by simp only [look]; rw [hkeep, List.length_append, List.length_singleton]; rfl) (.cons rfl .nil)))) (by simp only [hkeep, List.flatMap_append, List.flatMap_singleton, List.append_assoc]; exact List.sublist_cons_self _ _) (fun _ _ h => h)
                                | (have hdel := take_filter_succ (pr := fun x => !pr x) hx
                                   rw [if_neg (by simp_all), List.append_nil] at hdel
                                   exact HQ_again (j + 1, G ++ slC x) ⟨by simp only; omega, by simp only; rw [hdel]; omega, by simp only [List.length_append, slC_len]; rw [hdel]; omega⟩ (by simp only; omega) (.cons rfl (.cons rfl (.cons (by simp only [look]; rw [hdel]; rfl) (.cons rfl .nil)))) (by simp only [hdel, List.append_assoc]; exact List.sublist_cons_self _ _) (fun _ _ h => h))
                              skip)
                            skip)
                        skip)
                      skip)
                    skip)
                · try exact Bool.noConfusion h11
                  all_goals try simp only [decide_eq_true_eq, decide_eq_false_iff_not, beq_iff_eq, beq_eq_false_iff_ne, bne_iff_ne, bne_eq_false_iff_eq, Bool.not_eq_true', Bool.not_eq_false', ne_eq, Int.not_lt, Int.not_le, ge_iff_le, gt_iff_lt] at h11
                  all_goals (
                    refine HC_exit ?_
                    refine HQ_thenE ?_; clear hK9 K9
                    refine HQ_thenE ?_
                    refine HQ_blockE ?_
                    refine HQ_then ?_
                    refine hK7 _ _ _ _ ?_; clear hK7 K7
                    refine HC_seq fun K17 hK17 => ?_
                    have hjn : j = xs.length := by omega
                    have hdrop : (xs.drop j).flatMap slC = [] := by rw [List.drop_of_length_le (by omega)]; rfl
                    rw [hdrop, List.nil_append]
                    refine HC_region ?_
                    all_goals refine HL_r rfl rfl rfl rfl (R_move rfl) ?_
                    all_goals refine HL_r rfl rfl rfl rfl (R_move rfl) ?_
                    all_goals refine HL_r rfl rfl rfl rfl (R_sliceSl (sz := 2) (m := ((xs.take j).filter fun x => !pr x).length) (kl := some ((xs.take j).filter fun x => !pr x).length) (kh := none) (km := none) (q := xs.length) (z := cap) (off' := ((xs.take j).filter fun x => !pr x).length * 2) rfl rfl rfl ⟨_, rfl⟩ trivial trivial rfl rfl rfl (by omega) (by omega) (by omega) (fun _ => rfl) (by rw [if_neg (by omega)]; omega)) ?_
                    all_goals refine HL_clear0 (k := 0) (sz := 2) rfl rfl rfl rfl rfl rfl rfl (by decide) (by simp only [List.size_toArray, List.length_append, cat_len slC_len, List.length_drop]; omega) (splice (P := ((xs.take j).filter fun x => !pr x).flatMap slC) (M := G) (S := sp) (cat_len slC_len _) (by omega)) rfl ?_
                    all_goals refine HL_nil ?_
                    all_goals (
                      refine HQ_then ?_
                      refine hK17 _ _ _ _ ?_; clear hK17 K17
                      refine HC_seq fun K18 hK18 => ?_
                      refine HC_region ?_
                      all_goals refine HL_r rfl rfl rfl rfl (R_move rfl) ?_
                      all_goals refine HL_r rfl rfl rfl rfl (R_move rfl) ?_
                      all_goals refine HL_r rfl rfl rfl rfl (R_sliceSl (sz := 2) (q := ((xs.take j).filter fun x => !pr x).length) (kl := none) (kh := some ((xs.take j).filter fun x => !pr x).length) (km := none) (m := 0) (z := cap) (off' := 0) rfl rfl rfl trivial ⟨_, rfl⟩ trivial rfl rfl rfl (by omega) (by omega) (by omega) (fun h => by cases h) (by split <;> omega)) ?_
                      all_goals refine HL_r rfl rfl rfl rfl (R_assign rfl) ?_
                      all_goals refine HL_nil ?_
                      all_goals (
                        refine HQ_then ?_
                        refine hK18 _ _ _ _ ?_; clear hK18 K18
                        refine HC_ret ?_
                        refine HQ_post rfl rfl (.cons (res_tmp rfl) .nil) (fun w1 hs1 => ?_)
                        first
                          | (have hall := idx_all (pr := pr) (xs := xs) (by omega)
                             rw [hall]
                             exact ⟨⟨row, hrow⟩, rfl, hs1⟩)
                          | (have hfull : (xs.take j).filter (fun x => !pr x) = xs.filter fun x => !pr x := by rw [hjn, List.take_length]
                             rw [hfull] at hs1 ⊢
                             refine ⟨⟨some (r, cap, _), cat_len slC_len _, ?_⟩, rfl, hs1.weakL (by simp only [rowL]; exact List.Sublist.refl _)⟩
                             have hz : ∀ n, (Builtin.zeroCells (Value.agg #[Value.string ⟨#[]⟩, Value.string ⟨#[]⟩]).cells n).toList.length = n * 2 := fun n => by rw [Array.length_toList, size_zeroCells]; rfl
                             rw [List.length_append, hz]
                             have := List.length_filter_le (fun x => !pr x) xs
                             omega)
                          | trace_state
                        skip)
                      skip)
                    skip)
                skip)
              skip)
            skip)
        skip)
      skip)
    skip)
end Go.Proofs.Ytnkmbkndpoghdaa
namespace Go.Proofs.Ytnkmbkndpoghdaa
set_option linter.all false
open Go.SL Go.RowKit Go.Shelf
set_option maxRecDepth 10000 in
theorem S_Set {R : List (Nat × Obj)} {a : AcL} (ha : a.In R) (k v : BS) : PureT (α := AcRes R (setE a.er k v)) Try.prog 39 [a.val, strV k, strV v].toArray (fun x => x.val) [] (fun x => x.L) R := by
  have hlk := S_look ha
  have hl := ha.len
  have hseg := ha.seg
  have hset : setE a.er k v = if lkE a.er ≠ 0 then (a.er, lkE a.er) else if k.length ≠ 32 ∨ v.length ≠ 32 then (a.er, 2) else if (withE a.slots k v).length > 16 then (a.er, 5) else (⟨a.addr, a.nonce, a.bal, a.code, withE a.slots k v⟩, 0) := rfl
  refine pureT_of_HC Try.func39 rfl rfl fun w => ?_
  refine HC_seq fun K1 hK1 => ?_
  refine HC_region ?_
  all_goals refine HL_box (cs := #[_, _, _, _, _, _, _, _]) rfl rfl rfl rfl fun r1 => ?_
  all_goals refine HL_box (cs := #[_]) rfl rfl rfl rfl fun r2 => ?_
  all_goals refine HL_alloc (cs := #[_, _, _, _, _, _, _, _]) rfl rfl rfl rfl fun r3 => ?_
  all_goals refine HL_r rfl rfl rfl rfl (R_assign rfl) ?_
  all_goals refine HL_nil ?_
  all_goals (
    refine HQ_then ?_
    refine hK1 _ _ _ _ ?_; clear hK1 K1
    refine HC_seq fun K2 hK2 => ?_
    refine HC_seq fun K3 hK3 => ?_
    refine HC_region ?_
    all_goals (refine HL_r rfl rfl rfl rfl (R_loadA (vs := [_, _, _, _, _, _, _, _]) rfl (known_L (k := 2) rfl) rfl rfl rfl rfl) ?_)
    all_goals refine HL_callR rfl rfl rfl (enters_of Try.func34 (by kernel_rfl) rfl) hlk (fun q hq => Or.inr hq) ?_
    all_goals refine HL_r rfl rfl rfl rfl (R_assign rfl) ?_
    all_goals refine HL_nil ?_
    all_goals (
      refine HQ_then ?_
      refine hK3 _ _ _ _ ?_; clear hK3 K3
      refine HC_seq fun K4 hK4 => ?_
      refine HC_region ?_
      all_goals refine HL_r rfl rfl rfl rfl (R_move rfl) ?_
      all_goals refine HL_r rfl rfl rfl rfl (R_pure rfl rfl rfl) ?_
      all_goals refine HL_nil ?_
      all_goals (
        refine HQ_then ?_
        refine hK4 _ _ _ _ ?_; clear hK4 K4
        refine HC_cond rfl (fun h5 => ?_) (fun h5 => ?_)
        · try exact Bool.noConfusion h5
          all_goals try simp only [decide_eq_true_eq, decide_eq_false_iff_not, beq_iff_eq, beq_eq_false_iff_ne, bne_iff_ne, bne_eq_false_iff_eq, Bool.not_eq_true', Bool.not_eq_false', ne_eq, Int.not_lt, Int.not_le, ge_iff_le, gt_iff_lt] at h5
          all_goals (
            refine HC_seq fun K6 hK6 => ?_
            refine HC_region ?_
            all_goals (refine HL_r rfl rfl rfl rfl (R_loadA (vs := [_, _, _, _, _, _, _, _]) rfl (known_L (k := 2) rfl) rfl rfl rfl rfl) ?_)
            all_goals refine HL_r rfl rfl rfl rfl (R_move rfl) ?_
            all_goals (refine HL_storeA (k := 0) (n := 8) (cs' := #[_, _, _, _, _, _, _, _]) (vs := #[_, _, _, _, _, _, _, _]) rfl rfl rfl rfl rfl rfl rfl (by exact Nat.le_of_ble_eq_true rfl) rfl (by first | (simp only [List.set_cons_zero, List.set_cons_succ]; exact rfl) | exact rfl) ?_)
            all_goals refine HL_r rfl rfl rfl rfl (R_assign rfl) ?_
            all_goals refine HL_nil ?_
            all_goals (
              refine HQ_then ?_
              refine hK6 _ _ _ _ ?_; clear hK6 K6
              refine HC_ret ?_
              refine HQ_thenR ?_; clear hK2 K2
              first
                | refine HQ_post rfl rfl (.cons (res_cellA (vs := [_, _, _, _, _, _, _, _]) rfl (known_L (k := 0) rfl) rfl rfl) (.cons (res_tmp rfl) .nil)) (fun w1 hs1 => ?_)
                | refine HQ_post rfl rfl (.cons (res_cellA (vs := [_, _, _, _, _, _, _, _]) rfl (known_L (k := 1) rfl) rfl rfl) (.cons (res_tmp rfl) .nil)) (fun w1 hs1 => ?_)
                | refine HQ_post rfl rfl (.cons (res_cellA (vs := [_, _, _, _, _, _, _, _]) rfl (known_L (k := 2) rfl) rfl rfl) (.cons (res_tmp rfl) .nil)) (fun w1 hs1 => ?_)
              first
                | (rw [hset, if_pos (by omega)]; exact ⟨⟨a, lkE a.er, [], ha, rfl⟩, rfl, hs1.weakL (List.nil_sublist _)⟩)
                | (rw [hset, if_neg (by omega), if_pos (by omega)]; exact ⟨⟨a, 2, [], ha, rfl⟩, rfl, hs1.weakL (List.nil_sublist _)⟩)
                | (rw [hset, if_neg (by omega), if_neg (by omega), if_pos (by omega)]; exact ⟨⟨a, 5, [], ha, rfl⟩, rfl, hs1.weakL (List.nil_sublist _)⟩)
                | (rw [hset, if_neg (by omega), if_neg (by omega), if_neg (by omega)]
                   exact ⟨⟨⟨a.addr, a.nonce, a.bal, a.code, withE a.slots k v, rowP row2⟩, 0, rowL 68 ((withE a.slots k v).flatMap slC) row2, ac_in_with ha (by omega) (by omega) (by omega) (rowP_seg hrow2 (by decide)), rfl⟩, by show Ending.returned _ = Ending.returned (Value.tuple #[Value.agg #[strV a.addr, uV a.nonce, uV a.bal.a, uV a.bal.b, uV a.bal.c, uV a.bal.d, strV a.code, plV (withE a.slots k v).length (rowP row2)], .int .i64 0]); rw [rowP_V _ _ hrow2.zero]; rfl, hs1.weakL (List.sublist_append_right [_, _, _] _)⟩)
                | (rw [hset, if_neg (by omega), if_neg (by omega), if_neg (by omega)]
                   exact ⟨⟨⟨a.addr, a.nonce, a.bal, a.code, withE a.slots k v, rowP row⟩, 0, rowL 68 ((withE a.slots k v).flatMap slC) row, ac_in_with ha (by omega) (by omega) (by omega) (rowP_seg hrow (by decide)), rfl⟩, by show Ending.returned _ = Ending.returned (Value.tuple #[Value.agg #[strV a.addr, uV a.nonce, uV a.bal.a, uV a.bal.b, uV a.bal.c, uV a.bal.d, strV a.code, plV (withE a.slots k v).length (rowP row)], .int .i64 0]); rw [rowP_V _ _ hrow.zero]; rfl, hs1.weakL (List.sublist_append_right [_, _, _] _)⟩)
                | trace_state
              skip)
            skip)
        · try exact Bool.noConfusion h5
          all_goals try simp only [decide_eq_true_eq, decide_eq_false_iff_not, beq_iff_eq, beq_eq_false_iff_ne, bne_iff_ne, bne_eq_false_iff_eq, Bool.not_eq_true', Bool.not_eq_false', ne_eq, Int.not_lt, Int.not_le, ge_iff_le, gt_iff_lt] at h5
          all_goals (
            refine HC_skip ?_
            refine HQ_then ?_
            refine hK2 _ _ _ _ ?_; clear hK2 K2
            refine HC_seq fun K7 hK7 => ?_
            refine HC_seq fun K8 hK8 => ?_
            refine HC_region ?_
            all_goals (refine HL_r rfl rfl rfl rfl (R_load rfl (known_L (k := 1) rfl) rfl rfl) ?_)
            all_goals (refine HL_r rfl rfl rfl rfl (R_lenBs rfl rfl) ?_)
            all_goals refine HL_r rfl rfl rfl rfl (R_pure rfl rfl rfl) ?_
            all_goals refine HL_r rfl rfl rfl rfl (R_move rfl) ?_
            all_goals (refine HL_case 19 rfl (fun hb9 => ?_) (fun hb9 => ?_) <;> (try simp only [decide_eq_true_eq, decide_eq_false_iff_not, beq_iff_eq, beq_eq_false_iff_ne, bne_iff_ne, bne_eq_false_iff_eq, Bool.not_eq_true', Bool.not_eq_false', ne_eq, Int.not_lt, Int.not_le, ge_iff_le, gt_iff_lt] at hb9) <;> first | (refine HL_r rfl rfl rfl rfl (R_move rfl) ?_) | (refine HL_skip rfl rfl rfl ?_))
            all_goals first
              | (refine HL_r rfl rfl rfl rfl (R_lenBs rfl rfl) ?_)
              | (refine HL_skip rfl rfl rfl ?_)
            all_goals first
              | (refine HL_r rfl rfl rfl rfl (R_pure rfl rfl rfl) ?_)
              | (refine HL_skip rfl rfl rfl ?_)
            all_goals first
              | (refine HL_r rfl rfl rfl rfl (R_pickT rfl rfl) ?_)
              | (refine HL_r rfl rfl rfl rfl (R_pickF rfl rfl) ?_)
            all_goals refine HL_nil ?_
            all_goals (
              refine HQ_then ?_
              refine hK8 _ _ _ _ ?_; clear hK8 K8
              refine HC_cond rfl (fun h12 => ?_) (fun h12 => ?_)
              · try exact Bool.noConfusion h12
                all_goals try simp only [decide_eq_true_eq, decide_eq_false_iff_not, beq_iff_eq, beq_eq_false_iff_ne, bne_iff_ne, bne_eq_false_iff_eq, Bool.not_eq_true', Bool.not_eq_false', ne_eq, Int.not_lt, Int.not_le, ge_iff_le, gt_iff_lt] at h12
                all_goals (
                  refine HC_seq fun K13 hK13 => ?_
                  refine HC_region ?_
                  all_goals (refine HL_r rfl rfl rfl rfl (R_loadA (vs := [_, _, _, _, _, _, _, _]) rfl (known_L (k := 2) rfl) rfl rfl rfl rfl) ?_)
                  all_goals (refine HL_storeA (k := 0) (n := 8) (cs' := #[_, _, _, _, _, _, _, _]) (vs := #[_, _, _, _, _, _, _, _]) rfl rfl rfl rfl rfl rfl rfl (by exact Nat.le_of_ble_eq_true rfl) rfl (by first | (simp only [List.set_cons_zero, List.set_cons_succ]; exact rfl) | exact rfl) ?_)
                  all_goals refine HL_r rfl rfl rfl rfl (R_assign rfl) ?_
                  all_goals refine HL_nil ?_
                  all_goals (
                    refine HQ_then ?_
                    refine hK13 _ _ _ _ ?_; clear hK13 K13
                    refine HC_ret ?_
                    refine HQ_thenR ?_; clear hK7 K7
                    first
                      | refine HQ_post rfl rfl (.cons (res_cellA (vs := [_, _, _, _, _, _, _, _]) rfl (known_L (k := 0) rfl) rfl rfl) (.cons (res_tmp rfl) .nil)) (fun w1 hs1 => ?_)
                      | refine HQ_post rfl rfl (.cons (res_cellA (vs := [_, _, _, _, _, _, _, _]) rfl (known_L (k := 1) rfl) rfl rfl) (.cons (res_tmp rfl) .nil)) (fun w1 hs1 => ?_)
                      | refine HQ_post rfl rfl (.cons (res_cellA (vs := [_, _, _, _, _, _, _, _]) rfl (known_L (k := 2) rfl) rfl rfl) (.cons (res_tmp rfl) .nil)) (fun w1 hs1 => ?_)
                    first
                      | (rw [hset, if_pos (by omega)]; exact ⟨⟨a, lkE a.er, [], ha, rfl⟩, rfl, hs1.weakL (List.nil_sublist _)⟩)
                      | (rw [hset, if_neg (by omega), if_pos (by omega)]; exact ⟨⟨a, 2, [], ha, rfl⟩, rfl, hs1.weakL (List.nil_sublist _)⟩)
                      | (rw [hset, if_neg (by omega), if_neg (by omega), if_pos (by omega)]; exact ⟨⟨a, 5, [], ha, rfl⟩, rfl, hs1.weakL (List.nil_sublist _)⟩)
                      | (rw [hset, if_neg (by omega), if_neg (by omega), if_neg (by omega)]
                         exact ⟨⟨⟨a.addr, a.nonce, a.bal, a.code, withE a.slots k v, rowP row2⟩, 0, rowL 68 ((withE a.slots k v).flatMap slC) row2, ac_in_with ha (by omega) (by omega) (by omega) (rowP_seg hrow2 (by decide)), rfl⟩, by show Ending.returned _ = Ending.returned (Value.tuple #[Value.agg #[strV a.addr, uV a.nonce, uV a.bal.a, uV a.bal.b, uV a.bal.c, uV a.bal.d, strV a.code, plV (withE a.slots k v).length (rowP row2)], .int .i64 0]); rw [rowP_V _ _ hrow2.zero]; rfl, hs1.weakL (List.sublist_append_right [_, _, _] _)⟩)
                      | (rw [hset, if_neg (by omega), if_neg (by omega), if_neg (by omega)]
                         exact ⟨⟨⟨a.addr, a.nonce, a.bal, a.code, withE a.slots k v, rowP row⟩, 0, rowL 68 ((withE a.slots k v).flatMap slC) row, ac_in_with ha (by omega) (by omega) (by omega) (rowP_seg hrow (by decide)), rfl⟩, by show Ending.returned _ = Ending.returned (Value.tuple #[Value.agg #[strV a.addr, uV a.nonce, uV a.bal.a, uV a.bal.b, uV a.bal.c, uV a.bal.d, strV a.code, plV (withE a.slots k v).length (rowP row)], .int .i64 0]); rw [rowP_V _ _ hrow.zero]; rfl, hs1.weakL (List.sublist_append_right [_, _, _] _)⟩)
                      | trace_state
                    skip)
                  skip)
              · try exact Bool.noConfusion h12
                all_goals try simp only [decide_eq_true_eq, decide_eq_false_iff_not, beq_iff_eq, beq_eq_false_iff_ne, bne_iff_ne, bne_eq_false_iff_eq, Bool.not_eq_true', Bool.not_eq_false', ne_eq, Int.not_lt, Int.not_le, ge_iff_le, gt_iff_lt] at h12
                all_goals (
                  refine HC_skip ?_
                  refine HQ_then ?_
                  refine hK7 _ _ _ _ ?_; clear hK7 K7
                  refine HC_seq fun K14 hK14 => ?_
                  have hok : Sorted Prod.fst a.slots ∧ a.slots.length ≤ 16 := ⟨(look_ok (a := a.er) (by omega)).2.2.1, (look_ok (a := a.er) (by omega)).2.2.2.2⟩
                  have hinl : (insL Prod.fst (k, v) a.slots).length ≤ 17 := by
                    have := hok.2
                    rw [ins_len hok.1]
                    split <;> omega
                  refine HC_region ?_
                  all_goals refine HL_r rfl rfl rfl rfl (R_fieldAddr rfl rfl (by first | (simp only [Nat.zero_add, Nat.reduceAdd, Nat.reduceMul, Nat.zero_mul, Nat.mul_one, Nat.add_zero]; exact rfl) | exact rfl)) ?_
                  all_goals refine HL_r rfl rfl rfl rfl (R_load rfl (known_L (k := 2) rfl) rfl rfl) ?_
                  all_goals (refine HL_r rfl rfl rfl rfl (R_load rfl (known_L (k := 1) rfl) rfl rfl) ?_)
                  all_goals refine HL_r rfl rfl rfl rfl (R_move rfl) ?_
                  all_goals refine HL_r rfl rfl rfl rfl (R_build (r := [_, _]) rfl rfl) ?_
                  all_goals refine HL_callRE rfl rfl rfl (enters_of Try.func51 (by kernel_rfl) rfl) (S_withS (by have := hok.2; omega) hseg hok.1 (k, v)) (fun q hq => Or.inr hq) fun x => ?_
                  all_goals obtain ⟨row, hrow⟩ := x
                  all_goals refine HL_perm List.perm_append_comm ?_
                  all_goals change HL _ _ ((30, rowV (insL Prod.fst (k, v) a.slots).length row) :: _) ((r3, _) :: (r2, _) :: (r1, _) :: rowL _ _ row) _ _ _ _
                  all_goals refine HL_r rfl rfl rfl rfl (R_assign rfl) ?_
                  all_goals refine HL_nil ?_
                  all_goals (
                    refine HQ_then ?_
                    refine hK14 _ _ _ _ ?_; clear hK14 K14
                    refine HC_seq fun K15 hK15 => ?_
                    refine HC_seq fun K16 hK16 => ?_
                    refine HC_region ?_
                    all_goals refine HL_r rfl rfl rfl rfl (R_move rfl) ?_
                    all_goals refine HL_callP rfl rfl rfl (enters_of Try.func28 (by kernel_rfl) rfl) P_none ?_
                    all_goals refine HL_r rfl rfl rfl rfl (R_strEq rfl rfl) ?_
                    all_goals refine HL_nil ?_
                    all_goals (
                      refine HQ_then ?_
                      refine hK16 _ _ _ _ ?_; clear hK16 K16
                      refine HC_cond rfl (fun h17 => ?_) (fun h17 => ?_)
                      · try exact Bool.noConfusion h17
                        all_goals try simp only [decide_eq_true_eq, decide_eq_false_iff_not, beq_iff_eq, beq_eq_false_iff_ne, bne_iff_ne, bne_eq_false_iff_eq, Bool.not_eq_true', Bool.not_eq_false', ne_eq, Int.not_lt, Int.not_le, ge_iff_le, gt_iff_lt] at h17
                        all_goals (
                          have hdC := S_delete (R := [(r2, Obj.cells #[strV k] 9 (0, 0))]) (caps := [.pointer (some ⟨r2, 0, none⟩)]) (pr := fun x => decide (x.1 = k)) (by omega) hrow (enters_of Try.func53 (by kernel_rfl) rfl) (fun x _ => S_set1 List.mem_cons_self x)
                          rw [filter_del, show delL Prod.fst k a.slots = withE a.slots k v from by unfold withE; rw [if_pos (by assumption)]] at hdC
                          refine HC_region ?_
                          all_goals refine HL_r rfl rfl rfl rfl (R_move rfl) ?_
                          all_goals refine HL_r rfl rfl rfl rfl (R_makeFunc rfl rfl) ?_
                          all_goals refine HL_callT (T := rowL _ _ row) (L0 := [(r3, _), (r2, _), (r1, _)]) (Rl := [(r2, Obj.cells #[strV k] 9 (0, 0))]) (List.perm_append_comm (l₁ := [_, _, _])) rfl rfl rfl (enters_of Try.func52 (by kernel_rfl) rfl) hdC (fun q hq => Or.inl (by rw [List.mem_singleton.1 hq]; exact List.mem_cons_of_mem _ List.mem_cons_self)) fun x => ?_
                          all_goals obtain ⟨row2, hrow2⟩ := x
                          all_goals refine HL_perm List.perm_append_comm ?_
                          all_goals change HL _ _ ((36, rowV (withE a.slots k v).length row2) :: _) ((r3, _) :: (r2, _) :: (r1, _) :: rowL _ _ row2) _ _ _ _
                          all_goals refine HL_r rfl rfl rfl rfl (R_assign rfl) ?_
                          all_goals refine HL_nil ?_
                          all_goals (
                            refine HQ_then ?_
                            refine hK15 _ _ _ _ ?_; clear hK15 K15
                            refine HC_seq fun K18 hK18 => ?_
                            refine HC_seq fun K19 hK19 => ?_
                            try rw [show insL Prod.fst (k, v) a.slots = withE a.slots k v from by unfold withE; rw [if_neg (by assumption)]] at hrow ⊢
                            refine HC_region ?_
                            all_goals refine HL_r rfl rfl rfl rfl (R_move rfl) ?_
                            all_goals (refine HL_r rfl rfl rfl rfl (R_lenRow rfl hrow2.zero rfl) ?_)
                            all_goals refine HL_r rfl rfl rfl rfl (R_pure rfl rfl rfl) ?_
                            all_goals refine HL_nil ?_
                            all_goals (
                              refine HQ_then ?_
                              refine hK19 _ _ _ _ ?_; clear hK19 K19
                              refine HC_cond rfl (fun h20 => ?_) (fun h20 => ?_)
                              · try exact Bool.noConfusion h20
                                all_goals try simp only [decide_eq_true_eq, decide_eq_false_iff_not, beq_iff_eq, beq_eq_false_iff_ne, bne_iff_ne, bne_eq_false_iff_eq, Bool.not_eq_true', Bool.not_eq_false', ne_eq, Int.not_lt, Int.not_le, ge_iff_le, gt_iff_lt] at h20
                                all_goals (
                                  refine HC_seq fun K21 hK21 => ?_
                                  refine HC_region ?_
                                  all_goals (refine HL_r rfl rfl rfl rfl (R_loadA (vs := [_, _, _, _, _, _, _, _]) rfl (known_L (k := 2) rfl) rfl rfl rfl rfl) ?_)
                                  all_goals (refine HL_storeA (k := 0) (n := 8) (cs' := #[_, _, _, _, _, _, _, _]) (vs := #[_, _, _, _, _, _, _, _]) rfl rfl rfl rfl rfl rfl rfl (by exact Nat.le_of_ble_eq_true rfl) rfl (by first | (simp only [List.set_cons_zero, List.set_cons_succ]; exact rfl) | exact rfl) ?_)
                                  all_goals refine HL_r rfl rfl rfl rfl (R_assign rfl) ?_
                                  all_goals refine HL_nil ?_
                                  all_goals (
                                    refine HQ_then ?_
                                    refine hK21 _ _ _ _ ?_; clear hK21 K21
                                    refine HC_ret ?_
                                    refine HQ_thenR ?_; clear hK18 K18
                                    first
                                      | refine HQ_post rfl rfl (.cons (res_cellA (vs := [_, _, _, _, _, _, _, _]) rfl (known_L (k := 0) rfl) rfl rfl) (.cons (res_tmp rfl) .nil)) (fun w1 hs1 => ?_)
                                      | refine HQ_post rfl rfl (.cons (res_cellA (vs := [_, _, _, _, _, _, _, _]) rfl (known_L (k := 1) rfl) rfl rfl) (.cons (res_tmp rfl) .nil)) (fun w1 hs1 => ?_)
                                      | refine HQ_post rfl rfl (.cons (res_cellA (vs := [_, _, _, _, _, _, _, _]) rfl (known_L (k := 2) rfl) rfl rfl) (.cons (res_tmp rfl) .nil)) (fun w1 hs1 => ?_)
                                    first
                                      | (rw [hset, if_pos (by omega)]; exact ⟨⟨a, lkE a.er, [], ha, rfl⟩, rfl, hs1.weakL (List.nil_sublist _)⟩)
                                      | (rw [hset, if_neg (by omega), if_pos (by omega)]; exact ⟨⟨a, 2, [], ha, rfl⟩, rfl, hs1.weakL (List.nil_sublist _)⟩)
                                      | (rw [hset, if_neg (by omega), if_neg (by omega), if_pos (by omega)]; exact ⟨⟨a, 5, [], ha, rfl⟩, rfl, hs1.weakL (List.nil_sublist _)⟩)
                                      | (rw [hset, if_neg (by omega), if_neg (by omega), if_neg (by omega)]
                                         exact ⟨⟨⟨a.addr, a.nonce, a.bal, a.code, withE a.slots k v, rowP row2⟩, 0, rowL 68 ((withE a.slots k v).flatMap slC) row2, ac_in_with ha (by omega) (by omega) (by omega) (rowP_seg hrow2 (by decide)), rfl⟩, by show Ending.returned _ = Ending.returned (Value.tuple #[Value.agg #[strV a.addr, uV a.nonce, uV a.bal.a, uV a.bal.b, uV a.bal.c, uV a.bal.d, strV a.code, plV (withE a.slots k v).length (rowP row2)], .int .i64 0]); rw [rowP_V _ _ hrow2.zero]; rfl, hs1.weakL (List.sublist_append_right [_, _, _] _)⟩)
                                      | (rw [hset, if_neg (by omega), if_neg (by omega), if_neg (by omega)]
                                         exact ⟨⟨⟨a.addr, a.nonce, a.bal, a.code, withE a.slots k v, rowP row⟩, 0, rowL 68 ((withE a.slots k v).flatMap slC) row, ac_in_with ha (by omega) (by omega) (by omega) (rowP_seg hrow (by decide)), rfl⟩, by show Ending.returned _ = Ending.returned (Value.tuple #[Value.agg #[strV a.addr, uV a.nonce, uV a.bal.a, uV a.bal.b, uV a.bal.c, uV a.bal.d, strV a.code, plV (withE a.slots k v).length (rowP row)], .int .i64 0]); rw [rowP_V _ _ hrow.zero]; rfl, hs1.weakL (List.sublist_append_right [_, _, _] _)⟩)
                                      | trace_state
                                    skip)
                                  skip)
                              · try exact Bool.noConfusion h20
                                all_goals try simp only [decide_eq_true_eq, decide_eq_false_iff_not, beq_iff_eq, beq_eq_false_iff_ne, bne_iff_ne, bne_eq_false_iff_eq, Bool.not_eq_true', Bool.not_eq_false', ne_eq, Int.not_lt, Int.not_le, ge_iff_le, gt_iff_lt] at h20
                                all_goals (
                                  refine HC_skip ?_
                                  refine HQ_then ?_
                                  refine hK18 _ _ _ _ ?_; clear hK18 K18
                                  refine HC_seq fun K22 hK22 => ?_
                                  refine HC_region ?_
                                  all_goals refine HL_r rfl rfl rfl rfl (R_move rfl) ?_
                                  all_goals refine HL_r rfl rfl rfl rfl (R_fieldAddr rfl rfl (by first | (simp only [Nat.zero_add, Nat.reduceAdd, Nat.reduceMul, Nat.zero_mul, Nat.mul_one, Nat.add_zero]; exact rfl) | exact rfl)) ?_
                                  all_goals (refine HL_store (k := 2) (cs' := #[strV a.addr, uV a.nonce, uV a.bal.a, uV a.bal.b, uV a.bal.c, uV a.bal.d, strV a.code, rowV (withE a.slots k v).length row2]) rfl rfl rfl rfl rfl (rowV_one _ _) rfl rfl rfl rfl ?_)
                                  all_goals refine HL_nil ?_
                                  all_goals (
                                    refine HQ_then ?_
                                    refine hK22 _ _ _ _ ?_; clear hK22 K22
                                    refine HC_seq fun K23 hK23 => ?_
                                    refine HC_region ?_
                                    all_goals (refine HL_r rfl rfl rfl rfl (R_loadA (vs := [_, _, _, _, _, _, _, _]) rfl (known_L (k := 2) rfl) rfl rfl rfl rfl) ?_)
                                    all_goals (refine HL_storeA (k := 0) (n := 8) (cs' := #[strV a.addr, uV a.nonce, uV a.bal.a, uV a.bal.b, uV a.bal.c, uV a.bal.d, strV a.code, rowV (withE a.slots k v).length row2]) (vs := #[_, _, _, _, _, _, _, _]) rfl rfl rfl rfl rfl rfl (by show (oneB (rowV _ _) && true) = true; rw [rowV_one]; rfl) (by exact Nat.le_of_ble_eq_true rfl) rfl rfl ?_)
                                    all_goals refine HL_r rfl rfl rfl rfl (R_assign rfl) ?_
                                    all_goals refine HL_nil ?_
                                    all_goals (
                                      refine HQ_then ?_
                                      refine hK23 _ _ _ _ ?_; clear hK23 K23
                                      refine HC_ret ?_
                                      first
                                        | refine HQ_post rfl rfl (.cons (res_cellA (vs := [_, _, _, _, _, _, _, _]) rfl (known_L (k := 0) rfl) rfl rfl) (.cons (res_tmp rfl) .nil)) (fun w1 hs1 => ?_)
                                        | refine HQ_post rfl rfl (.cons (res_cellA (vs := [_, _, _, _, _, _, _, _]) rfl (known_L (k := 1) rfl) rfl rfl) (.cons (res_tmp rfl) .nil)) (fun w1 hs1 => ?_)
                                        | refine HQ_post rfl rfl (.cons (res_cellA (vs := [_, _, _, _, _, _, _, _]) rfl (known_L (k := 2) rfl) rfl rfl) (.cons (res_tmp rfl) .nil)) (fun w1 hs1 => ?_)
                                      first
                                        | (rw [hset, if_pos (by omega)]; exact ⟨⟨a, lkE a.er, [], ha, rfl⟩, rfl, hs1.weakL (List.nil_sublist _)⟩)
                                        | (rw [hset, if_neg (by omega), if_pos (by omega)]; exact ⟨⟨a, 2, [], ha, rfl⟩, rfl, hs1.weakL (List.nil_sublist _)⟩)
                                        | (rw [hset, if_neg (by omega), if_neg (by omega), if_pos (by omega)]; exact ⟨⟨a, 5, [], ha, rfl⟩, rfl, hs1.weakL (List.nil_sublist _)⟩)
                                        | (rw [hset, if_neg (by omega), if_neg (by omega), if_neg (by omega)]
                                           exact ⟨⟨⟨a.addr, a.nonce, a.bal, a.code, withE a.slots k v, rowP row2⟩, 0, rowL 68 ((withE a.slots k v).flatMap slC) row2, ac_in_with ha (by omega) (by omega) (by omega) (rowP_seg hrow2 (by decide)), rfl⟩, by show Ending.returned _ = Ending.returned (Value.tuple #[Value.agg #[strV a.addr, uV a.nonce, uV a.bal.a, uV a.bal.b, uV a.bal.c, uV a.bal.d, strV a.code, plV (withE a.slots k v).length (rowP row2)], .int .i64 0]); rw [rowP_V _ _ hrow2.zero]; rfl, hs1.weakL (List.sublist_append_right [_, _, _] _)⟩)
                                        | (rw [hset, if_neg (by omega), if_neg (by omega), if_neg (by omega)]
                                           exact ⟨⟨⟨a.addr, a.nonce, a.bal, a.code, withE a.slots k v, rowP row⟩, 0, rowL 68 ((withE a.slots k v).flatMap slC) row, ac_in_with ha (by omega) (by omega) (by omega) (rowP_seg hrow (by decide)), rfl⟩, by show Ending.returned _ = Ending.returned (Value.tuple #[Value.agg #[strV a.addr, uV a.nonce, uV a.bal.a, uV a.bal.b, uV a.bal.c, uV a.bal.d, strV a.code, plV (withE a.slots k v).length (rowP row)], .int .i64 0]); rw [rowP_V _ _ hrow.zero]; rfl, hs1.weakL (List.sublist_append_right [_, _, _] _)⟩)
                                        | trace_state
                                      skip)
                                    skip)
                                  skip)
                              skip)
                            skip)
                          skip)
                      · try exact Bool.noConfusion h17
                        all_goals try simp only [decide_eq_true_eq, decide_eq_false_iff_not, beq_iff_eq, beq_eq_false_iff_ne, bne_iff_ne, bne_eq_false_iff_eq, Bool.not_eq_true', Bool.not_eq_false', ne_eq, Int.not_lt, Int.not_le, ge_iff_le, gt_iff_lt] at h17
                        all_goals (
                          refine HC_skip ?_
                          refine HQ_then ?_
                          refine hK15 _ _ _ _ ?_; clear hK15 K15
                          refine HC_seq fun K24 hK24 => ?_
                          refine HC_seq fun K25 hK25 => ?_
                          try rw [show insL Prod.fst (k, v) a.slots = withE a.slots k v from by unfold withE; rw [if_neg (by assumption)]] at hrow ⊢
                          refine HC_region ?_
                          all_goals refine HL_r rfl rfl rfl rfl (R_move rfl) ?_
                          all_goals (refine HL_r rfl rfl rfl rfl (R_lenRow rfl hrow.zero rfl) ?_)
                          all_goals refine HL_r rfl rfl rfl rfl (R_pure rfl rfl rfl) ?_
                          all_goals refine HL_nil ?_
                          all_goals (
                            refine HQ_then ?_
                            refine hK25 _ _ _ _ ?_; clear hK25 K25
                            refine HC_cond rfl (fun h26 => ?_) (fun h26 => ?_)
                            · try exact Bool.noConfusion h26
                              all_goals try simp only [decide_eq_true_eq, decide_eq_false_iff_not, beq_iff_eq, beq_eq_false_iff_ne, bne_iff_ne, bne_eq_false_iff_eq, Bool.not_eq_true', Bool.not_eq_false', ne_eq, Int.not_lt, Int.not_le, ge_iff_le, gt_iff_lt] at h26
                              all_goals (
                                refine HC_seq fun K27 hK27 => ?_
                                refine HC_region ?_
                                all_goals (refine HL_r rfl rfl rfl rfl (R_loadA (vs := [_, _, _, _, _, _, _, _]) rfl (known_L (k := 2) rfl) rfl rfl rfl rfl) ?_)
                                all_goals (refine HL_storeA (k := 0) (n := 8) (cs' := #[_, _, _, _, _, _, _, _]) (vs := #[_, _, _, _, _, _, _, _]) rfl rfl rfl rfl rfl rfl rfl (by exact Nat.le_of_ble_eq_true rfl) rfl (by first | (simp only [List.set_cons_zero, List.set_cons_succ]; exact rfl) | exact rfl) ?_)
                                all_goals refine HL_r rfl rfl rfl rfl (R_assign rfl) ?_
                                all_goals refine HL_nil ?_
                                all_goals (
                                  refine HQ_then ?_
                                  refine hK27 _ _ _ _ ?_; clear hK27 K27
                                  refine HC_ret ?_
                                  refine HQ_thenR ?_; clear hK24 K24
                                  first
                                    | refine HQ_post rfl rfl (.cons (res_cellA (vs := [_, _, _, _, _, _, _, _]) rfl (known_L (k := 0) rfl) rfl rfl) (.cons (res_tmp rfl) .nil)) (fun w1 hs1 => ?_)
                                    | refine HQ_post rfl rfl (.cons (res_cellA (vs := [_, _, _, _, _, _, _, _]) rfl (known_L (k := 1) rfl) rfl rfl) (.cons (res_tmp rfl) .nil)) (fun w1 hs1 => ?_)
                                    | refine HQ_post rfl rfl (.cons (res_cellA (vs := [_, _, _, _, _, _, _, _]) rfl (known_L (k := 2) rfl) rfl rfl) (.cons (res_tmp rfl) .nil)) (fun w1 hs1 => ?_)
                                  first
                                    | (rw [hset, if_pos (by omega)]; exact ⟨⟨a, lkE a.er, [], ha, rfl⟩, rfl, hs1.weakL (List.nil_sublist _)⟩)
                                    | (rw [hset, if_neg (by omega), if_pos (by omega)]; exact ⟨⟨a, 2, [], ha, rfl⟩, rfl, hs1.weakL (List.nil_sublist _)⟩)
                                    | (rw [hset, if_neg (by omega), if_neg (by omega), if_pos (by omega)]; exact ⟨⟨a, 5, [], ha, rfl⟩, rfl, hs1.weakL (List.nil_sublist _)⟩)
                                    | (rw [hset, if_neg (by omega), if_neg (by omega), if_neg (by omega)]
                                       exact ⟨⟨⟨a.addr, a.nonce, a.bal, a.code, withE a.slots k v, rowP row2⟩, 0, rowL 68 ((withE a.slots k v).flatMap slC) row2, ac_in_with ha (by omega) (by omega) (by omega) (rowP_seg hrow2 (by decide)), rfl⟩, by show Ending.returned _ = Ending.returned (Value.tuple #[Value.agg #[strV a.addr, uV a.nonce, uV a.bal.a, uV a.bal.b, uV a.bal.c, uV a.bal.d, strV a.code, plV (withE a.slots k v).length (rowP row2)], .int .i64 0]); rw [rowP_V _ _ hrow2.zero]; rfl, hs1.weakL (List.sublist_append_right [_, _, _] _)⟩)
                                    | (rw [hset, if_neg (by omega), if_neg (by omega), if_neg (by omega)]
                                       exact ⟨⟨⟨a.addr, a.nonce, a.bal, a.code, withE a.slots k v, rowP row⟩, 0, rowL 68 ((withE a.slots k v).flatMap slC) row, ac_in_with ha (by omega) (by omega) (by omega) (rowP_seg hrow (by decide)), rfl⟩, by show Ending.returned _ = Ending.returned (Value.tuple #[Value.agg #[strV a.addr, uV a.nonce, uV a.bal.a, uV a.bal.b, uV a.bal.c, uV a.bal.d, strV a.code, plV (withE a.slots k v).length (rowP row)], .int .i64 0]); rw [rowP_V _ _ hrow.zero]; rfl, hs1.weakL (List.sublist_append_right [_, _, _] _)⟩)
                                    | trace_state
                                  skip)
                                skip)
                            · try exact Bool.noConfusion h26
                              all_goals try simp only [decide_eq_true_eq, decide_eq_false_iff_not, beq_iff_eq, beq_eq_false_iff_ne, bne_iff_ne, bne_eq_false_iff_eq, Bool.not_eq_true', Bool.not_eq_false', ne_eq, Int.not_lt, Int.not_le, ge_iff_le, gt_iff_lt] at h26
                              all_goals (
                                refine HC_skip ?_
                                refine HQ_then ?_
                                refine hK24 _ _ _ _ ?_; clear hK24 K24
                                refine HC_seq fun K28 hK28 => ?_
                                refine HC_region ?_
                                all_goals refine HL_r rfl rfl rfl rfl (R_move rfl) ?_
                                all_goals refine HL_r rfl rfl rfl rfl (R_fieldAddr rfl rfl (by first | (simp only [Nat.zero_add, Nat.reduceAdd, Nat.reduceMul, Nat.zero_mul, Nat.mul_one, Nat.add_zero]; exact rfl) | exact rfl)) ?_
                                all_goals (refine HL_store (k := 2) (cs' := #[strV a.addr, uV a.nonce, uV a.bal.a, uV a.bal.b, uV a.bal.c, uV a.bal.d, strV a.code, rowV (withE a.slots k v).length row]) rfl rfl rfl rfl rfl (rowV_one _ _) rfl rfl rfl rfl ?_)
                                all_goals refine HL_nil ?_
                                all_goals (
                                  refine HQ_then ?_
                                  refine hK28 _ _ _ _ ?_; clear hK28 K28
                                  refine HC_seq fun K29 hK29 => ?_
                                  refine HC_region ?_
                                  all_goals (refine HL_r rfl rfl rfl rfl (R_loadA (vs := [_, _, _, _, _, _, _, _]) rfl (known_L (k := 2) rfl) rfl rfl rfl rfl) ?_)
                                  all_goals (refine HL_storeA (k := 0) (n := 8) (cs' := #[strV a.addr, uV a.nonce, uV a.bal.a, uV a.bal.b, uV a.bal.c, uV a.bal.d, strV a.code, rowV (withE a.slots k v).length row]) (vs := #[_, _, _, _, _, _, _, _]) rfl rfl rfl rfl rfl rfl (by show (oneB (rowV _ _) && true) = true; rw [rowV_one]; rfl) (by exact Nat.le_of_ble_eq_true rfl) rfl rfl ?_)
                                  all_goals refine HL_r rfl rfl rfl rfl (R_assign rfl) ?_
                                  all_goals refine HL_nil ?_
                                  all_goals (
                                    refine HQ_then ?_
                                    refine hK29 _ _ _ _ ?_; clear hK29 K29
                                    refine HC_ret ?_
                                    first
                                      | refine HQ_post rfl rfl (.cons (res_cellA (vs := [_, _, _, _, _, _, _, _]) rfl (known_L (k := 0) rfl) rfl rfl) (.cons (res_tmp rfl) .nil)) (fun w1 hs1 => ?_)
                                      | refine HQ_post rfl rfl (.cons (res_cellA (vs := [_, _, _, _, _, _, _, _]) rfl (known_L (k := 1) rfl) rfl rfl) (.cons (res_tmp rfl) .nil)) (fun w1 hs1 => ?_)
                                      | refine HQ_post rfl rfl (.cons (res_cellA (vs := [_, _, _, _, _, _, _, _]) rfl (known_L (k := 2) rfl) rfl rfl) (.cons (res_tmp rfl) .nil)) (fun w1 hs1 => ?_)
                                    first
                                      | (rw [hset, if_pos (by omega)]; exact ⟨⟨a, lkE a.er, [], ha, rfl⟩, rfl, hs1.weakL (List.nil_sublist _)⟩)
                                      | (rw [hset, if_neg (by omega), if_pos (by omega)]; exact ⟨⟨a, 2, [], ha, rfl⟩, rfl, hs1.weakL (List.nil_sublist _)⟩)
                                      | (rw [hset, if_neg (by omega), if_neg (by omega), if_pos (by omega)]; exact ⟨⟨a, 5, [], ha, rfl⟩, rfl, hs1.weakL (List.nil_sublist _)⟩)
                                      | (rw [hset, if_neg (by omega), if_neg (by omega), if_neg (by omega)]
                                         exact ⟨⟨⟨a.addr, a.nonce, a.bal, a.code, withE a.slots k v, rowP row2⟩, 0, rowL 68 ((withE a.slots k v).flatMap slC) row2, ac_in_with ha (by omega) (by omega) (by omega) (rowP_seg hrow2 (by decide)), rfl⟩, by show Ending.returned _ = Ending.returned (Value.tuple #[Value.agg #[strV a.addr, uV a.nonce, uV a.bal.a, uV a.bal.b, uV a.bal.c, uV a.bal.d, strV a.code, plV (withE a.slots k v).length (rowP row2)], .int .i64 0]); rw [rowP_V _ _ hrow2.zero]; rfl, hs1.weakL (List.sublist_append_right [_, _, _] _)⟩)
                                      | (rw [hset, if_neg (by omega), if_neg (by omega), if_neg (by omega)]
                                         exact ⟨⟨⟨a.addr, a.nonce, a.bal, a.code, withE a.slots k v, rowP row⟩, 0, rowL 68 ((withE a.slots k v).flatMap slC) row, ac_in_with ha (by omega) (by omega) (by omega) (rowP_seg hrow (by decide)), rfl⟩, by show Ending.returned _ = Ending.returned (Value.tuple #[Value.agg #[strV a.addr, uV a.nonce, uV a.bal.a, uV a.bal.b, uV a.bal.c, uV a.bal.d, strV a.code, plV (withE a.slots k v).length (rowP row)], .int .i64 0]); rw [rowP_V _ _ hrow.zero]; rfl, hs1.weakL (List.sublist_append_right [_, _, _] _)⟩)
                                      | trace_state
                                    skip)
                                  skip)
                                skip)
                            skip)
                          skip)
                      skip)
                    skip)
                  skip)
              skip)
            skip)
        skip)
      skip)
    skip)
end Go.Proofs.Ytnkmbkndpoghdaa
/-! ### Comparing structs; results in new blocks -/
namespace Go.SL
set_option linter.all false
open Go Go.RowKit Go.Shelf
open Go.Proofs (Enters enters_of)
/-! ### Structs are compared -/
inductive EqF (P : Program) (xs ys : List Value) : List Field → Bool → Prop
  | nil : EqF P xs ys [] true
  | scal {f : Field} {fs : List Field} {a b : Value} {r : Bool} (hn : (f.name == "_") = false) (he : aggB P f.type = some false) (ga : nth xs f.offset = some a) (gb : nth ys f.offset = some b) (ha : scalB P f.type a = true) (hb : scalB P f.type b = true) (h : EqF P xs ys fs r) : EqF P xs ys (f :: fs) (eqS a b && r)
  | arr {f : Field} {fs : List Field} {n e : Nat} {va vb : List Value} {r : Bool} (hn : (f.name == "_") = false) (ht : arrOf P f.type = some (n, e)) (hz : szOf P f.type = some n) (he : aggB P e = some false) (hs : szOf P e = some 1) (ga : (xs.drop f.offset).take n = va) (gb : (ys.drop f.offset).take n = vb) (hla : va.length = n) (hlb : vb.length = n)
      (h1 : va.all (scalB P e) = true) (h2 : vb.all (scalB P e) = true) (h : EqF P xs ys fs r) : EqF P xs ys (f :: fs) (eqCells va vb && r)
theorem run_partA {P : Program} {t n : Nat} {cs va : List Value} {off : Nat} {e m : Nat} (ht : arrOf P t = some (m, e)) (hz : szOf P t = some n) (ga : (cs.drop off).take n = va) (hl : va.length = n) (w : World) : (part t cs.toArray off).run P w = .ok (.agg va.toArray) w := by
  have e1 : (cs.toArray.extract off (off + n)) = va.toArray := by
    apply Array.toList_inj.1
    rw [← ga, List.extract_toArray, List.extract_eq_take_drop, Nat.add_sub_cancel_left]
  unfold part
  simp only [Sem.run_bind, run_agg (show aggB P t = some true from by unfold aggB; rw [und_arr ht]), Result.andThen, run_sz hz, if_true, e1]
  rfl
theorem run_eqFields {P : Program} {xs ys : List Value} {d : Nat} {w : World} : ∀ {fs : List Field} {b : Bool}, EqF P xs ys fs b → (Op.eqFields (d + 2) xs.toArray ys.toArray fs).run P w = .ok b w := by
  intro fs b h
  induction h with
  | nil => simp [Op.eqFields]
  | @scal f fs a b r hn he ga gb ha hb h ih =>
    have hn' : f.name ≠ "_" := by intro e; rw [e] at hn; simp at hn
    simp only [Op.eqFields, Sem.run_ite, if_pos hn', Sem.run_bind, run_part1 he (show xs.toArray[f.offset]? = some a from by rw [List.getElem?_toArray, ← nth_eq]; exact ga), run_part1 he (show ys.toArray[f.offset]? = some b from by rw [List.getElem?_toArray, ← nth_eq]; exact gb), Result.andThen, run_eqS ha hb]
    cases hab : eqS a b
    · simp
    · simpa using ih
  | @arr f fs n e va vb r hn ht hz he hs ga gb hla hlb h1 h2 h ih =>
    have hn' : f.name ≠ "_" := by intro e; rw [e] at hn; simp at hn
    simp only [Op.eqFields, Sem.run_ite, if_pos hn', Sem.run_bind, run_partA ht hz ga hla, run_partA ht hz gb hlb, Result.andThen, run_eqArr ht he hs hla hlb h1 h2]
    cases hab : eqCells va vb
    · simp
    · simpa using ih
section
variable {c : Cx} {l : List (Nat × Value)} {L : List (Nat × Obj)} {X : XP} {d : List Deferred}
variable {i : Nat} {t : TypeId} {ps : String} {af : Array Edge} {gd : Option (Nat × Bool)} {ty t2 : TypeId}
theorem R_eqStr {x y : Operand} {xs ys : List Value} {b : Bool} (hx : evl l x = some (.agg xs.toArray)) (hy : evl l y = some (.agg ys.toArray)) (ht : c.P.underlying t = some (.struct (c.P.fieldsOf t))) (hp : c.P.stoodInHeld t = false) (hgt : c.P.eqGuardType c.P.depth t = false) (hE : EqF c.P xs ys (c.P.fieldsOf t).toList b) :
    RunsTo c d l L X ⟨some i, .binOp .eql t x y t2, ty, ps, af, gd⟩ (.bool b) := fun a' w hf _ => by
  have hr := run_equalIn_struct (P := c.P) w 9999 t xs.toArray ys.toArray ht hp
  rw [run_eqFields hE] at hr
  have h0 := run_eql_struct (P := c.P) w t xs.toArray ys.toArray
  rw [hr] at h0
  simp only [execOp]
  rw [hf.eval hx, hf.eval hy]
  simp only [Sem.run_bind, run_eqGuard_agg w .eql t x y _ _ hgt, Result.andThen, h0]
  rfl
theorem R_neStr {x y : Operand} {xs ys : List Value} {b : Bool} (hx : evl l x = some (.agg xs.toArray)) (hy : evl l y = some (.agg ys.toArray)) (ht : c.P.underlying t = some (.struct (c.P.fieldsOf t))) (hp : c.P.stoodInHeld t = false) (hgt : c.P.eqGuardType c.P.depth t = false) (hE : EqF c.P xs ys (c.P.fieldsOf t).toList b) :
    RunsTo c d l L X ⟨some i, .binOp .neq t x y t2, ty, ps, af, gd⟩ (.bool (!b)) := fun a' w hf _ => by
  have hr := run_equalIn_struct (P := c.P) w 9999 t xs.toArray ys.toArray ht hp
  rw [run_eqFields hE] at hr
  have h0 := run_neq_struct (P := c.P) w t xs.toArray ys.toArray
  rw [hr] at h0
  simp only [execOp]
  rw [hf.eval hx, hf.eval hy]
  simp only [Sem.run_bind, run_eqGuard_agg w .neq t x y _ _ hgt, Result.andThen, h0]
  rfl
end
theorem eqS_str (a b : BS) : eqS (strV a) (strV b) = decide (a = b) := str_beq a b
theorem slot_eq (x y : BS × BS) : (eqS (strV x.1) (strV y.1) && (eqS (strV x.2) (strV y.2) && true)) = decide (x = y) := by
  rw [eqS_str, eqS_str]
  obtain ⟨a, b⟩ := x
  obtain ⟨c, d⟩ := y
  by_cases h1 : a = c <;> by_cases h2 : b = d <;> simp [h1, h2]
theorem lst_eq {α : Type} {xs ys : List α} {i : Nat} (hl : xs.length = ys.length) (hi : xs.length ≤ i) (h : ∀ j, j < i → xs[j]? = ys[j]?) : xs = ys := by
  apply List.ext_getElem?
  intro j
  by_cases hj : j < i
  · exact h j hj
  · rw [List.getElem?_eq_none (by omega), List.getElem?_eq_none (by omega)]
theorem lst_ne {α : Type} {xs ys : List α} {i : Nat} {x y : α} (hx : xs[i]? = some x) (hy : ys[i]? = some y) (h : ¬ x = y) : ¬ xs = ys := by
  rintro rfl; rw [hx] at hy; exact h (Option.some.inj hy)
theorem eqU (a b : Nat) : eqS (uV a) (uV b) = decide (a = b) := by
  show ((a : Int) == (b : Int)) = _
  by_cases h : a = b
  · subst h; simp
  · have : ¬ (a : Int) = b := by omega
    simp [h, this]
theorem eqW (x y : W4) : eqCells [uV x.a, uV x.b, uV x.c, uV x.d] [uV y.a, uV y.b, uV y.c, uV y.d] = decide (x = y) := by
  simp only [eqCells, eqU]
  obtain ⟨a, b, c, d⟩ := x
  obtain ⟨a', b', c', d'⟩ := y
  by_cases h1 : a = a' <;> by_cases h2 : b = b' <;> by_cases h3 : c = c' <;> by_cases h4 : d = d' <;> simp [h1, h2, h3, h4]
end Go.SL
namespace Go.Proofs.Ytnkmbkndpoghdaa
set_option linter.all false
open Go.SL Go.RowKit Go.Shelf
set_option maxRecDepth 10000 in
theorem S_Put {R : List (Nat × Obj)} {s : StL} {a : AcL} (hs : s.In R) (ha : a.In R) : PureT (α := StRes R (putS s.er a.er)) Try.prog 37 [s.val, a.val].toArray (fun x => x.val) [] (fun x => x.L) R := by
  have hc := S_Check hs
  have hlk := S_look ha
  have hl := hs.len
  have hseg := hs.seg
  have hput : putS s.er a.er = if chkS s.er ≠ 0 then (s.er, chkS s.er) else if lkE a.er ≠ 0 then (s.er, lkE a.er) else if (insL AcE.addr a.er s.er).length > 32 then (s.er, 5) else (insL AcE.addr a.er s.er, 0) := rfl
  have hil : (insL AcE.addr a.er s.er).length = (insL AcL.addr a s.accts).length := by unfold StL.er; rw [← ins_er, List.length_map]
  rw [hil] at hput
  refine pureT_of_HC Try.func37 rfl rfl fun w => ?_
  refine HC_seq fun K1 hK1 => ?_
  refine HC_region ?_
  all_goals refine HL_box (cs := #[_]) rfl rfl rfl rfl fun r1 => ?_
  all_goals refine HL_box (cs := #[_, _, _, _, _, _, _, _]) rfl rfl rfl rfl fun r2 => ?_
  all_goals refine HL_alloc (cs := #[_]) rfl rfl rfl rfl fun r3 => ?_
  all_goals refine HL_r rfl rfl rfl rfl (R_assign rfl) ?_
  all_goals refine HL_nil ?_
  all_goals (
    refine HQ_then ?_
    refine hK1 _ _ _ _ ?_; clear hK1 K1
    refine HC_seq fun K2 hK2 => ?_
    refine HC_seq fun K3 hK3 => ?_
    refine HC_region ?_
    all_goals (refine HL_r rfl rfl rfl rfl (R_loadA (vs := [_]) rfl (known_L (k := 2) rfl) rfl rfl rfl rfl) ?_)
    all_goals refine HL_callR rfl rfl rfl (enters_of Try.func16 (by kernel_rfl) rfl) hc (fun q hq => Or.inr hq) ?_
    all_goals refine HL_r rfl rfl rfl rfl (R_assign rfl) ?_
    all_goals refine HL_nil ?_
    all_goals (
      refine HQ_then ?_
      refine hK3 _ _ _ _ ?_; clear hK3 K3
      refine HC_seq fun K4 hK4 => ?_
      refine HC_region ?_
      all_goals refine HL_r rfl rfl rfl rfl (R_move rfl) ?_
      all_goals refine HL_r rfl rfl rfl rfl (R_pure rfl rfl rfl) ?_
      all_goals refine HL_nil ?_
      all_goals (
        refine HQ_then ?_
        refine hK4 _ _ _ _ ?_; clear hK4 K4
        refine HC_cond rfl (fun h5 => ?_) (fun h5 => ?_)
        · try exact Bool.noConfusion h5
          all_goals try simp only [decide_eq_true_eq, decide_eq_false_iff_not, beq_iff_eq, beq_eq_false_iff_ne, bne_iff_ne, bne_eq_false_iff_eq, Bool.not_eq_true', Bool.not_eq_false', ne_eq, Int.not_lt, Int.not_le, ge_iff_le, gt_iff_lt] at h5
          all_goals (
            refine HC_seq fun K6 hK6 => ?_
            refine HC_region ?_
            all_goals (refine HL_r rfl rfl rfl rfl (R_loadA (vs := [_]) rfl (known_L (k := 2) rfl) rfl rfl rfl rfl) ?_)
            all_goals refine HL_r rfl rfl rfl rfl (R_move rfl) ?_
            all_goals (refine HL_storeA (k := 0) (n := 1) (cs' := #[_]) (vs := #[_]) rfl rfl rfl rfl rfl rfl rfl (by exact Nat.le_of_ble_eq_true rfl) rfl (by first | (simp only [List.set_cons_zero, List.set_cons_succ]; exact rfl) | exact rfl) ?_)
            all_goals refine HL_r rfl rfl rfl rfl (R_assign rfl) ?_
            all_goals refine HL_nil ?_
            all_goals (
              refine HQ_then ?_
              refine hK6 _ _ _ _ ?_; clear hK6 K6
              refine HC_ret ?_
              refine HQ_thenR ?_; clear hK2 K2
              first
                | refine HQ_post rfl rfl (.cons (res_cellA (vs := [_]) rfl (known_L (k := 0) rfl) rfl rfl) (.cons (res_tmp rfl) .nil)) (fun w1 hs1 => ?_)
                | refine HQ_post rfl rfl (.cons (res_cellA (vs := [_]) rfl (known_L (k := 1) rfl) rfl rfl) (.cons (res_tmp rfl) .nil)) (fun w1 hs1 => ?_)
                | refine HQ_post rfl rfl (.cons (res_cellA (vs := [_]) rfl (known_L (k := 2) rfl) rfl rfl) (.cons (res_tmp rfl) .nil)) (fun w1 hs1 => ?_)
              first
                | (rw [hput, if_pos (by omega)]; exact ⟨⟨s, chkS s.er, [], hs, rfl⟩, rfl, hs1.weakL (List.nil_sublist _)⟩)
                | (rw [hput, if_neg (by omega), if_pos (by omega)]; exact ⟨⟨s, lkE a.er, [], hs, rfl⟩, rfl, hs1.weakL (List.nil_sublist _)⟩)
                | (rw [hput, if_neg (by omega), if_neg (by omega), if_pos (by omega)]; exact ⟨⟨s, 5, [], hs, rfl⟩, rfl, hs1.weakL (List.nil_sublist _)⟩)
                | (rw [hput, if_neg (by omega), if_neg (by omega), if_neg (by omega)]
                   exact ⟨⟨⟨insL AcL.addr a s.accts, rowP row⟩, 0, rowL 37 ((insL AcL.addr a s.accts).flatMap AcL.cells) row, ⟨by show (insL AcL.addr a s.accts).length ≤ 9223372036854775807; omega, (rowP_seg hrow (by decide)).mono fun q hq => List.mem_append_left _ hq, fun x hx => ((ins_mem hx).elim (fun e => by rw [e]; exact ha) (hs.accts x)).mono fun q hq => List.mem_append_right _ hq⟩, by unfold StL.er; rw [ins_er]⟩, by show Ending.returned _ = Ending.returned (Value.tuple #[Value.agg #[plV (insL AcL.addr a s.accts).length (rowP row)], .int .i64 0]); rw [rowP_V _ _ hrow.zero]; rfl, hs1.weakL (List.sublist_append_right [_, _, _] _)⟩)
                | trace_state
              skip)
            skip)
        · try exact Bool.noConfusion h5
          all_goals try simp only [decide_eq_true_eq, decide_eq_false_iff_not, beq_iff_eq, beq_eq_false_iff_ne, bne_iff_ne, bne_eq_false_iff_eq, Bool.not_eq_true', Bool.not_eq_false', ne_eq, Int.not_lt, Int.not_le, ge_iff_le, gt_iff_lt] at h5
          all_goals (
            refine HC_skip ?_
            refine HQ_then ?_
            refine hK2 _ _ _ _ ?_; clear hK2 K2
            refine HC_seq fun K7 hK7 => ?_
            refine HC_seq fun K8 hK8 => ?_
            refine HC_region ?_
            all_goals (refine HL_r rfl rfl rfl rfl (R_loadA (vs := [_, _, _, _, _, _, _, _]) rfl (known_L (k := 1) rfl) rfl rfl rfl rfl) ?_)
            all_goals refine HL_callR rfl rfl rfl (enters_of Try.func34 (by kernel_rfl) rfl) hlk (fun q hq => Or.inr hq) ?_
            all_goals refine HL_r rfl rfl rfl rfl (R_assign rfl) ?_
            all_goals refine HL_nil ?_
            all_goals (
              refine HQ_then ?_
              refine hK8 _ _ _ _ ?_; clear hK8 K8
              refine HC_seq fun K9 hK9 => ?_
              refine HC_region ?_
              all_goals refine HL_r rfl rfl rfl rfl (R_move rfl) ?_
              all_goals refine HL_r rfl rfl rfl rfl (R_pure rfl rfl rfl) ?_
              all_goals refine HL_nil ?_
              all_goals (
                refine HQ_then ?_
                refine hK9 _ _ _ _ ?_; clear hK9 K9
                refine HC_cond rfl (fun h10 => ?_) (fun h10 => ?_)
                · try exact Bool.noConfusion h10
                  all_goals try simp only [decide_eq_true_eq, decide_eq_false_iff_not, beq_iff_eq, beq_eq_false_iff_ne, bne_iff_ne, bne_eq_false_iff_eq, Bool.not_eq_true', Bool.not_eq_false', ne_eq, Int.not_lt, Int.not_le, ge_iff_le, gt_iff_lt] at h10
                  all_goals (
                    refine HC_seq fun K11 hK11 => ?_
                    refine HC_region ?_
                    all_goals (refine HL_r rfl rfl rfl rfl (R_loadA (vs := [_]) rfl (known_L (k := 2) rfl) rfl rfl rfl rfl) ?_)
                    all_goals refine HL_r rfl rfl rfl rfl (R_move rfl) ?_
                    all_goals (refine HL_storeA (k := 0) (n := 1) (cs' := #[_]) (vs := #[_]) rfl rfl rfl rfl rfl rfl rfl (by exact Nat.le_of_ble_eq_true rfl) rfl (by first | (simp only [List.set_cons_zero, List.set_cons_succ]; exact rfl) | exact rfl) ?_)
                    all_goals refine HL_r rfl rfl rfl rfl (R_assign rfl) ?_
                    all_goals refine HL_nil ?_
                    all_goals (
                      refine HQ_then ?_
                      refine hK11 _ _ _ _ ?_; clear hK11 K11
                      refine HC_ret ?_
                      refine HQ_thenR ?_; clear hK7 K7
                      first
                        | refine HQ_post rfl rfl (.cons (res_cellA (vs := [_]) rfl (known_L (k := 0) rfl) rfl rfl) (.cons (res_tmp rfl) .nil)) (fun w1 hs1 => ?_)
                        | refine HQ_post rfl rfl (.cons (res_cellA (vs := [_]) rfl (known_L (k := 1) rfl) rfl rfl) (.cons (res_tmp rfl) .nil)) (fun w1 hs1 => ?_)
                        | refine HQ_post rfl rfl (.cons (res_cellA (vs := [_]) rfl (known_L (k := 2) rfl) rfl rfl) (.cons (res_tmp rfl) .nil)) (fun w1 hs1 => ?_)
                      first
                        | (rw [hput, if_pos (by omega)]; exact ⟨⟨s, chkS s.er, [], hs, rfl⟩, rfl, hs1.weakL (List.nil_sublist _)⟩)
                        | (rw [hput, if_neg (by omega), if_pos (by omega)]; exact ⟨⟨s, lkE a.er, [], hs, rfl⟩, rfl, hs1.weakL (List.nil_sublist _)⟩)
                        | (rw [hput, if_neg (by omega), if_neg (by omega), if_pos (by omega)]; exact ⟨⟨s, 5, [], hs, rfl⟩, rfl, hs1.weakL (List.nil_sublist _)⟩)
                        | (rw [hput, if_neg (by omega), if_neg (by omega), if_neg (by omega)]
                           exact ⟨⟨⟨insL AcL.addr a s.accts, rowP row⟩, 0, rowL 37 ((insL AcL.addr a s.accts).flatMap AcL.cells) row, ⟨by show (insL AcL.addr a s.accts).length ≤ 9223372036854775807; omega, (rowP_seg hrow (by decide)).mono fun q hq => List.mem_append_left _ hq, fun x hx => ((ins_mem hx).elim (fun e => by rw [e]; exact ha) (hs.accts x)).mono fun q hq => List.mem_append_right _ hq⟩, by unfold StL.er; rw [ins_er]⟩, by show Ending.returned _ = Ending.returned (Value.tuple #[Value.agg #[plV (insL AcL.addr a s.accts).length (rowP row)], .int .i64 0]); rw [rowP_V _ _ hrow.zero]; rfl, hs1.weakL (List.sublist_append_right [_, _, _] _)⟩)
                        | trace_state
                      skip)
                    skip)
                · try exact Bool.noConfusion h10
                  all_goals try simp only [decide_eq_true_eq, decide_eq_false_iff_not, beq_iff_eq, beq_eq_false_iff_ne, bne_iff_ne, bne_eq_false_iff_eq, Bool.not_eq_true', Bool.not_eq_false', ne_eq, Int.not_lt, Int.not_le, ge_iff_le, gt_iff_lt] at h10
                  all_goals (
                    refine HC_skip ?_
                    refine HQ_then ?_
                    refine hK7 _ _ _ _ ?_; clear hK7 K7
                    refine HC_seq fun K12 hK12 => ?_
                    have hok : s.accts.length ≤ 32 ∧ Sorted AcL.addr s.accts := by
                      have h := chk_ok.1 (show chkS s.er = 0 by omega)
                      rw [s.er_len] at h
                      exact ⟨h.1, (er_sorted s).2 h.2.2⟩
                    refine HC_region ?_
                    all_goals refine HL_r rfl rfl rfl rfl (R_fieldAddr rfl rfl (by first | (simp only [Nat.zero_add, Nat.reduceAdd, Nat.reduceMul, Nat.zero_mul, Nat.mul_one, Nat.add_zero]; exact rfl) | exact rfl)) ?_
                    all_goals (refine HL_r rfl rfl rfl rfl (R_load rfl (known_L (k := 2) rfl) rfl rfl) ?_)
                    all_goals (refine HL_r rfl rfl rfl rfl (R_loadA (vs := [_, _, _, _, _, _, _, _]) rfl (known_L (k := 1) rfl) rfl rfl rfl rfl) ?_)
                    all_goals refine HL_callRE rfl rfl rfl (enters_of Try.func50 (by kernel_rfl) rfl) (S_withA (by omega) hseg hok.2 a) (fun q hq => Or.inr hq) fun x => ?_
                    all_goals obtain ⟨row, hrow⟩ := x
                    all_goals refine HL_perm List.perm_append_comm ?_
                    all_goals change HL _ _ ((24, rowV (insL AcL.addr a s.accts).length row) :: _) ((r3, _) :: (r2, _) :: (r1, _) :: rowL _ _ row) _ _ _ _
                    all_goals refine HL_r rfl rfl rfl rfl (R_assign rfl) ?_
                    all_goals refine HL_nil ?_
                    all_goals (
                      refine HQ_then ?_
                      refine hK12 _ _ _ _ ?_; clear hK12 K12
                      refine HC_seq fun K13 hK13 => ?_
                      refine HC_seq fun K14 hK14 => ?_
                      refine HC_region ?_
                      all_goals refine HL_r rfl rfl rfl rfl (R_move rfl) ?_
                      all_goals refine HL_r rfl rfl rfl rfl (R_lenRow rfl hrow.zero rfl) ?_
                      all_goals refine HL_r rfl rfl rfl rfl (R_pure rfl rfl rfl) ?_
                      all_goals refine HL_nil ?_
                      all_goals (
                        refine HQ_then ?_
                        refine hK14 _ _ _ _ ?_; clear hK14 K14
                        refine HC_cond rfl (fun h15 => ?_) (fun h15 => ?_)
                        · try exact Bool.noConfusion h15
                          all_goals try simp only [decide_eq_true_eq, decide_eq_false_iff_not, beq_iff_eq, beq_eq_false_iff_ne, bne_iff_ne, bne_eq_false_iff_eq, Bool.not_eq_true', Bool.not_eq_false', ne_eq, Int.not_lt, Int.not_le, ge_iff_le, gt_iff_lt] at h15
                          all_goals (
                            refine HC_seq fun K16 hK16 => ?_
                            refine HC_region ?_
                            all_goals (refine HL_r rfl rfl rfl rfl (R_loadA (vs := [_]) rfl (known_L (k := 2) rfl) rfl rfl rfl rfl) ?_)
                            all_goals (refine HL_storeA (k := 0) (n := 1) (cs' := #[_]) (vs := #[_]) rfl rfl rfl rfl rfl rfl rfl (by exact Nat.le_of_ble_eq_true rfl) rfl (by first | (simp only [List.set_cons_zero, List.set_cons_succ]; exact rfl) | exact rfl) ?_)
                            all_goals refine HL_r rfl rfl rfl rfl (R_assign rfl) ?_
                            all_goals refine HL_nil ?_
                            all_goals (
                              refine HQ_then ?_
                              refine hK16 _ _ _ _ ?_; clear hK16 K16
                              refine HC_ret ?_
                              refine HQ_thenR ?_; clear hK13 K13
                              first
                                | refine HQ_post rfl rfl (.cons (res_cellA (vs := [_]) rfl (known_L (k := 0) rfl) rfl rfl) (.cons (res_tmp rfl) .nil)) (fun w1 hs1 => ?_)
                                | refine HQ_post rfl rfl (.cons (res_cellA (vs := [_]) rfl (known_L (k := 1) rfl) rfl rfl) (.cons (res_tmp rfl) .nil)) (fun w1 hs1 => ?_)
                                | refine HQ_post rfl rfl (.cons (res_cellA (vs := [_]) rfl (known_L (k := 2) rfl) rfl rfl) (.cons (res_tmp rfl) .nil)) (fun w1 hs1 => ?_)
                              first
                                | (rw [hput, if_pos (by omega)]; exact ⟨⟨s, chkS s.er, [], hs, rfl⟩, rfl, hs1.weakL (List.nil_sublist _)⟩)
                                | (rw [hput, if_neg (by omega), if_pos (by omega)]; exact ⟨⟨s, lkE a.er, [], hs, rfl⟩, rfl, hs1.weakL (List.nil_sublist _)⟩)
                                | (rw [hput, if_neg (by omega), if_neg (by omega), if_pos (by omega)]; exact ⟨⟨s, 5, [], hs, rfl⟩, rfl, hs1.weakL (List.nil_sublist _)⟩)
                                | (rw [hput, if_neg (by omega), if_neg (by omega), if_neg (by omega)]
                                   exact ⟨⟨⟨insL AcL.addr a s.accts, rowP row⟩, 0, rowL 37 ((insL AcL.addr a s.accts).flatMap AcL.cells) row, ⟨by show (insL AcL.addr a s.accts).length ≤ 9223372036854775807; omega, (rowP_seg hrow (by decide)).mono fun q hq => List.mem_append_left _ hq, fun x hx => ((ins_mem hx).elim (fun e => by rw [e]; exact ha) (hs.accts x)).mono fun q hq => List.mem_append_right _ hq⟩, by unfold StL.er; rw [ins_er]⟩, by show Ending.returned _ = Ending.returned (Value.tuple #[Value.agg #[plV (insL AcL.addr a s.accts).length (rowP row)], .int .i64 0]); rw [rowP_V _ _ hrow.zero]; rfl, hs1.weakL (List.sublist_append_right [_, _, _] _)⟩)
                                | trace_state
                              skip)
                            skip)
                        · try exact Bool.noConfusion h15
                          all_goals try simp only [decide_eq_true_eq, decide_eq_false_iff_not, beq_iff_eq, beq_eq_false_iff_ne, bne_iff_ne, bne_eq_false_iff_eq, Bool.not_eq_true', Bool.not_eq_false', ne_eq, Int.not_lt, Int.not_le, ge_iff_le, gt_iff_lt] at h15
                          all_goals (
                            refine HC_skip ?_
                            refine HQ_then ?_
                            refine hK13 _ _ _ _ ?_; clear hK13 K13
                            refine HC_seq fun K17 hK17 => ?_
                            refine HC_region ?_
                            all_goals refine HL_r rfl rfl rfl rfl (R_move rfl) ?_
                            all_goals refine HL_r rfl rfl rfl rfl (R_build (r := [rowV _ row]) rfl (by cases row <;> rfl)) ?_
                            all_goals refine HL_storeA (k := 0) (n := 1) (cs' := #[rowV (insL AcL.addr a s.accts).length row]) (vs := #[_]) rfl rfl rfl rfl rfl rfl (by show (oneB (rowV _ _) && true) = true; rw [rowV_one]; rfl) (by exact Nat.le_of_ble_eq_true rfl) rfl rfl ?_
                            all_goals refine HL_r rfl rfl rfl rfl (R_assign rfl) ?_
                            all_goals refine HL_nil ?_
                            all_goals (
                              refine HQ_then ?_
                              refine hK17 _ _ _ _ ?_; clear hK17 K17
                              refine HC_ret ?_
                              first
                                | refine HQ_post rfl rfl (.cons (res_cellA (vs := [_]) rfl (known_L (k := 0) rfl) rfl rfl) (.cons (res_tmp rfl) .nil)) (fun w1 hs1 => ?_)
                                | refine HQ_post rfl rfl (.cons (res_cellA (vs := [_]) rfl (known_L (k := 1) rfl) rfl rfl) (.cons (res_tmp rfl) .nil)) (fun w1 hs1 => ?_)
                                | refine HQ_post rfl rfl (.cons (res_cellA (vs := [_]) rfl (known_L (k := 2) rfl) rfl rfl) (.cons (res_tmp rfl) .nil)) (fun w1 hs1 => ?_)
                              first
                                | (rw [hput, if_pos (by omega)]; exact ⟨⟨s, chkS s.er, [], hs, rfl⟩, rfl, hs1.weakL (List.nil_sublist _)⟩)
                                | (rw [hput, if_neg (by omega), if_pos (by omega)]; exact ⟨⟨s, lkE a.er, [], hs, rfl⟩, rfl, hs1.weakL (List.nil_sublist _)⟩)
                                | (rw [hput, if_neg (by omega), if_neg (by omega), if_pos (by omega)]; exact ⟨⟨s, 5, [], hs, rfl⟩, rfl, hs1.weakL (List.nil_sublist _)⟩)
                                | (rw [hput, if_neg (by omega), if_neg (by omega), if_neg (by omega)]
                                   exact ⟨⟨⟨insL AcL.addr a s.accts, rowP row⟩, 0, rowL 37 ((insL AcL.addr a s.accts).flatMap AcL.cells) row, ⟨by show (insL AcL.addr a s.accts).length ≤ 9223372036854775807; omega, (rowP_seg hrow (by decide)).mono fun q hq => List.mem_append_left _ hq, fun x hx => ((ins_mem hx).elim (fun e => by rw [e]; exact ha) (hs.accts x)).mono fun q hq => List.mem_append_right _ hq⟩, by unfold StL.er; rw [ins_er]⟩, by show Ending.returned _ = Ending.returned (Value.tuple #[Value.agg #[plV (insL AcL.addr a s.accts).length (rowP row)], .int .i64 0]); rw [rowP_V _ _ hrow.zero]; rfl, hs1.weakL (List.sublist_append_right [_, _, _] _)⟩)
                                | trace_state
                              skip)
                            skip)
                        skip)
                      skip)
                    skip)
                skip)
              skip)
            skip)
        skip)
      skip)
    skip)
end Go.Proofs.Ytnkmbkndpoghdaa
/-! ### Iterators that hand out what lies in blocks of their own; calls that lay new blocks in a region that draws -/
namespace Go.SL
set_option linter.all false
open Go Go.RowKit Go.Shelf
open Go.Proofs (Enters enters_of)
/-- As 'Iter'; with each element go blocks of the iterator's own, that may be read. -/
def IterB {ι : Type} (P : Program) (gf : FuncId) (caps : List Value) (Rl : List (Nat × Obj)) (p0 : ι) (nx : ι → List Value → List (Nat × Obj) → ι → Prop) (fin : ι → Prop) : Prop :=
  ∀ (q : Nat) (xids : List Nat) (w2 : World) (XI : ι → XP) (XF : XP),
    (∀ p ∈ Rl, p.1 ∉ xids ∧ w2.heap[p.1]? = some p.2) → (∀ k ∈ xids, k < w2.heap.size) → Foot xids (XI p0) w2 →
    (∀ i v B i', nx i v B i' → ∀ xs w, (∀ k ∈ xs, k < w.heap.size ∧ (k ∈ xids ∨ w2.heap.size ≤ k)) → Keep xids w2 w → Foot xs (XI i) w → Has B w → (∀ p ∈ B, p.1 ∉ xs ∧ p.1 ∉ xids) → YS P q v.toArray xs w (XI i') XF) →
    Calls P gf (.func (.yield q) #[] #[] :: caps).toArray w2 fun e w' => (∃ v, e = .returned v) ∧ Keep xids w2 w' ∧ ((∃ i xs, fin i ∧ XI i xs w') ∨ ∃ xs, XF xs w')
section
variable {c : Cx} {l : List (Nat × Value)} {L : List (Nat × Obj)} {X : XP} {Q : Exit → Act → World → Prop} {d : List Deferred}
variable {ops : Array Oper} {rest : List Oper} {i : Nat} {v : Value} {t : TypeId} {ps : String} {af : Array Edge} {gd : Option (Nat × Bool)} {ty : TypeId}
theorem HL_yieldB {B : List (Nat × Obj)} {f : Operand} {args : Array Operand} {at_ : Array TypeId} {q : Nat} {vs : List Value} {XT XF : XP}
    (hg : goes l ops ⟨some i, .call ⟨.value f, args, at_⟩, ty, ps, af, gd⟩ = some true) (hi : Nat.ble (i + 1) c.n = true)
    (hf : evl l f = some (.func (.yield q) #[] #[])) (ha : evs l args.toList = some vs)
    (hY : ∀ xs w, (∀ k ∈ xs, k < w.heap.size ∧ (k ∈ c.xids ∨ c.w1.heap.size ≤ k)) → Keep (c.ids ++ c.xids) c.w1 w → Foot xs X w → Has B w → (∀ p ∈ B, p.1 ∉ xs ∧ p.1 ∉ c.xids) → YS c.P q vs.toArray xs w XT XF) (hBL : ∀ p ∈ B, p ∈ L)
    (h1 : HL c d ((i, .bool true) :: l) L XT ops rest Q) (h0 : HL c d ((i, .bool false) :: l) L XF ops rest Q) : HL c d l L X ops (⟨some i, .call ⟨.value f, args, at_⟩, ty, ps, af, gd⟩ :: rest) Q := fun a w hfr hs => by
  refine wpListIn_do (goes_wanted hfr hg) rfl ?_
  obtain ⟨xs, hx1, hx2⟩ := hs.x
  obtain ⟨fn, tmps, assign, body, hy, hR⟩ := hY xs w (fun k hk => ⟨(hx1 k hk).2.1, (hx1 k hk).1⟩) hs.keep hx2 (fun p hp => (hs.own p (hBL p hp)).2.2) (fun p hp => ⟨fun hm => (hx1 _ hm).2.2 p (hBL p hp) rfl, (hs.own p (hBL p hp)).2.1⟩)
  have h2 := hfr.evals ha
  have h3 : args.map a.eval = vs.toArray := by apply Array.toList_inj.1; rw [Array.toList_map]; simpa using h2
  have h4 : a.eval f = .func (.yield q) #[] #[] := hfr.eval hf
  have hrun : (execOp a.eval ⟨some i, .call ⟨.value f, args, at_⟩, ty, ps, af, gd⟩).run c.P w = .ok (.round q fn tmps assign body) w := by
    simp only [execOp, Sem.run_bind]
    simp [resolve, h3, h4, Deferred.ofValue, Result.andThen, invoke, hy]
  rw [hrun, Oper.uponIn_round]
  refine ⟨fun hdep => (by cases hdep), ?_⟩
  refine RoundIn.mono (show RoundIn (FW c.ro) (0 - 1) c.P q fn tmps assign body w _ from hR) ?_
  rintro e w' ⟨b, xs', rfl, hxs, hk, hb⟩
  have hs' : ∀ X', Foot xs' X' w' → St c L X' w' := fun X' hx => by
    refine ⟨hs.keep.glue hk fun k hm => ?_, fun p hp => ?_, hs.distinct, hs.ext, hs.xlt, xs', fun k hm => ?_, hx⟩
    · rcases (hx1 k hm).1 with g | g
      · exact .inl (List.mem_append_right _ g)
      · exact .inr g
    · obtain ⟨g1, g2, g3⟩ := hs.own p hp
      exact ⟨g1, g2, (hk.block p.1 (lt_of_some g3) fun hm => (hx1 _ hm).2.2 p hp rfl).trans g3⟩
    · obtain ⟨g1, g2⟩ := hxs k hm
      refine ⟨g2.elim (fun g => (hx1 k g).1) fun g => .inr (Nat.le_trans hs.keep.size g), g1, fun p hp => ?_⟩
      rcases g2 with g | g
      · exact (hx1 k g).2.2 p hp
      · have := lt_of_some (hs.own p hp).2.2; omega
  cases b with
  | true => exact h1 _ w' (hfr.put (Nat.le_of_ble_eq_true hi)) (hs' XT (by simpa using hb))
  | false => exact h0 _ w' (hfr.put (Nat.le_of_ble_eq_true hi)) (hs' XF (by simpa using hb))
theorem HC_rangeB {ι σ τ : Type} {f : Operand} {pp : List Nat} {assign body : Code} {gf : FuncId} {caps : List Value} {Rl : List (Nat × Obj)} {p0 : ι} {nx : ι → List Value → List (Nat × Obj) → ι → Prop} {fi : ι → Prop}
    (I : ι → σ → Prop) (LI : σ → List (Nat × Obj)) (E : Code → τ → Prop) (LE : τ → List (Nat × Obj)) (Lk : List (Nat × Obj)) (s0 : σ)
    (hro : c.ro = none) (hf : evl l f = some (.func (.func gf) #[] caps.toArray)) (eg : Enters c.P gf) (hit : IterB c.P gf caps Rl p0 nx fi) (hlen : ∀ i v B i', nx i v B i' → v.length = pp.length) (hpp : pp.all (Nat.blt · c.n) = true)
    (hRl : ∀ p ∈ Rl, p ∈ Lk ∨ p ∈ c.R) (hL : L = LI s0 ++ Lk) (h0 : I p0 s0)
    (hround : ∀ (q : Nat) (Xr Xb : XP) (w3 : World) (i : ι) (v : List Value) (B : List (Nat × Obj)) (i' : ι) (s : σ), nx i v B i' → I i s → ∀ K, BodyK (cxR c q w3 (idsOf (LI s)) (B ++ Lk)) Xr Xb body (roundQ (cxR c q w3 (idsOf (LI s)) (B ++ Lk)) Xb (I i') LI E LE) K →
      HC (cxR c q w3 (idsOf (LI s)) (B ++ Lk)) [] (zipL pp v l) (LI s) Xr assign (Exit.then K fun _ _ _ => False))
    (hdone : ∀ D i s, fi i → I i s → HQ c (markOf D :: d) l ((D, .deferred (some [])) :: (LI s ++ Lk)) X (Q .normal))
    (hstop : ∀ D j s, E j s → HC c (markOf D :: d) l ((D, .deferred (some [])) :: (LE s ++ Lk)) X j Q) :
    HC c d l L X (.rangeFunc f pp.toArray assign body) Q := fun a w hfr hs => by
  subst hL
  refine wpIn_rangeFunc ?_
  intro fn _
  have e0 : (FW c.ro).round = none := by rw [hro]; rfl
  rw [e0]
  obtain ⟨r, hr⟩ : ∃ r : Loop, r = { state := .ready, pending := none, fn, tmps := a.tmps, params := pp.toArray, assign, body, defers := w.heap.size } := ⟨_, rfl⟩
  obtain ⟨w2, hw2⟩ : ∃ w2, (w.alloc (.deferred (some []))).alloc (.loop r) = w2 := ⟨_, rfl⟩
  have hq : (w.alloc (.deferred (some []))).heap.size = w.heap.size + 1 := World.size_alloc _ _
  have hs2 : St c ((w.heap.size + 1, .loop r) :: (w.heap.size, .deferred (some [])) :: (LI s0 ++ Lk)) X w2 := by
    have := (hs.alloc (.deferred (some []))).alloc (.loop r)
    rw [hq, hw2] at this
    exact this
  have hq2 : w2.heap[w.heap.size + 1]? = some (.loop r) := (hs2.own _ List.mem_cons_self).2.2
  have hrr : ({ r with state := .ready, pending := none } : Loop) = r := by rw [hr]
  obtain ⟨M, hM⟩ : ∃ M, idsOf (LI s0) = M := ⟨_, rfl⟩
  refine ⟨w.heap.size + 1, [markOf w.heap.size], w2, { target := .fn (.func gf) caps.toArray, args := #[.func (.yield (w.heap.size + 1)) #[] #[]] }, w2, gf, (.func (.yield (w.heap.size + 1)) #[] #[] :: caps).toArray, w2, ?_, ?_, fun _ _ => trivial, ?_, fun hdep => (by cases hdep), ?_⟩
  · rw [← hw2, hr]; exact run_enterLoop_outer _ _ _ _ _
  · have := hfr.eval hf
    simp only [resolve, this]
    simp [Deferred.ofValue]
    rfl
  · have := eg (#[.func (.yield (w.heap.size + 1)) #[] #[]] ++ caps.toArray) w2
    have e1 : (#[Value.func (.yield (w.heap.size + 1)) #[] #[]] ++ caps.toArray) = (Value.func (.yield (w.heap.size + 1)) #[] #[] :: caps).toArray := by apply Array.toList_inj.1; simp
    rw [e1] at this
    simpa [invoke] using this
  · -- the iterator's contract at our invariant
    have hown := hs2.distinct
    have hMown : ∀ k ∈ M, ∃ o, (k, o) ∈ LI s0 := fun k hk => by
      rw [← hM] at hk
      obtain ⟨p, hp, rfl⟩ := List.mem_map.1 hk
      exact ⟨p.2, hp⟩
    have hpw := List.pairwise_cons.1 hown
    have hpw2 := List.pairwise_cons.1 hpw.2
    have hpw3 := List.pairwise_append.1 hpw2.2
    have hsz2 : w2.heap.size = w.heap.size + 2 := by rw [← hw2, World.size_alloc, World.size_alloc]
    have hLk2 : ∀ p ∈ Lk, p.1 < w2.heap.size := fun p hp => lt_of_some (hs2.own p (List.mem_cons_of_mem _ (List.mem_cons_of_mem _ (List.mem_append_right _ hp)))).2.2
    have hMk : ∀ p ∈ Lk, p.1 ∉ M ∧ p.1 ≠ w.heap.size + 1 := fun p hp => ⟨fun hm => by
      obtain ⟨o, ho⟩ := hMown _ hm
      exact hpw3.2.2 _ ho _ hp rfl, fun e => hpw.1 p (List.mem_cons_of_mem _ (List.mem_append_right _ hp)) e.symm⟩
    have hMq : w.heap.size + 1 ∉ M := fun hm => by
      obtain ⟨o, ho⟩ := hMown _ hm
      exact hpw.1 _ (List.mem_cons_of_mem _ (List.mem_append_left _ ho)) rfl
    have hMD : w.heap.size ∉ M := fun hm => by
      obtain ⟨o, ho⟩ := hMown _ hm
      exact hpw2.1 _ (List.mem_append_left _ ho) rfl
    have hMlt : ∀ k ∈ M, k < w2.heap.size := fun k hk => by
      obtain ⟨o, ho⟩ := hMown _ hk
      exact lt_of_some (hs2.own _ (List.mem_cons_of_mem _ (List.mem_cons_of_mem _ (List.mem_append_left _ ho)))).2.2
    -- what a place of one's own is apart from
    have apart : ∀ {k : Nat}, (k ∈ M ∨ w2.heap.size ≤ k) → k ≠ w.heap.size + 1 ∧ k ≠ w.heap.size ∧ (∀ p ∈ Lk, p.1 ≠ k) := fun {k} hk => by
      rcases hk with hk | hk
      · exact ⟨fun e => hMq (e ▸ hk), fun e => hMD (e ▸ hk), fun p hp e => (hMk p hp).1 (e ▸ hk)⟩
      · exact ⟨by omega, by omega, fun p hp e => by have := hLk2 p hp; omega⟩
    have apartR : ∀ {k : Nat}, (k ∈ M ∨ w2.heap.size ≤ k) → ∀ p ∈ c.R, p.1 ≠ k := fun {k} hk p hp e => by
      obtain ⟨e1, _, e3⟩ := hs2.ext p hp
      have h1 := lt_of_some e3
      have h2 := hs.keep.size
      rcases hk with hk | hk
      · obtain ⟨o, ho⟩ := hMown _ hk
        rcases (hs2.own _ (List.mem_cons_of_mem _ (List.mem_cons_of_mem _ (List.mem_append_left _ ho)))).1 with g | g
        · exact e1 (e ▸ g)
        · simp only at g; omega
      · omega
    have hcalls := hit (w.heap.size + 1) ((w.heap.size + 1) :: M) w2 (fun i => loopX (w.heap.size + 1) w2.heap.size M r (I i) LI)
      (fun xs w' => ∃ j, loopX (w.heap.size + 1) w2.heap.size M { r with state := .done, pending := some j } (E j) LE xs w')
      (fun p hp => by
        rcases hRl p hp with hL | hR
        · refine ⟨fun hm => ?_, (hs2.own p (List.mem_cons_of_mem _ (List.mem_cons_of_mem _ (List.mem_append_right _ hL)))).2.2⟩
          obtain ⟨h1, h2⟩ := hMk p hL
          rcases List.mem_cons.1 hm with hm | hm
          · exact h2 hm
          · exact h1 hm
        · refine ⟨fun hm => ?_, hs2.readR hR⟩
          rcases List.mem_cons.1 hm with hm | hm
          · have h1 := lt_of_some (hs2.ext p hR).2.2
            have h2 := hs.keep.size
            omega
          · exact apartR (.inl hm) p hR rfl)
      (fun k hk => by
        rcases List.mem_cons.1 hk with rfl | hk
        · exact lt_of_some hq2
        · exact hMlt k hk)
      (by
        have := foot_loopX (q := w.heap.size + 1) (B := w2.heap.size) (M := M) (rec := r) (I := I p0) (LI := LI) s0 h0 hpw3.1 (fun p hp => .inl (by rw [← hM]; exact List.mem_map_of_mem (f := (·.1)) hp)) (fun p hp => (hs2.own _ (List.mem_cons_of_mem _ (List.mem_cons_of_mem _ (List.mem_append_left _ hp)))).2.2) hq2
        rw [hM] at this
        exact this)
      ?_
    · refine CallsIn.mono (show CallsIn (FW c.ro) (0 - 1) c.P gf _ w2 _ from callsIn_wide (n := 0) |>.2 hcalls) ?_
      rintro e w' ⟨⟨v, rfl⟩, hk, hfin⟩
      have fin : ∀ (st : LoopState) (pe : Option Code) (LL : List (Nat × Obj)), st ≠ .busy → LL.Pairwise (fun p q => p.1 ≠ q.1) → (∀ p ∈ LL, p.1 ∈ M ∨ w2.heap.size ≤ p.1) → Has LL w' → w'.heap[w.heap.size + 1]? = some (.loop { r with state := st, pending := pe }) →
          (Instr.endLoop (w.heap.size + 1)).run c.P w' = .ok pe (w'.putObj (w.heap.size + 1) (.loop { r with state := .exhausted, pending := pe })) ∧
          St c ((w.heap.size, .deferred (some [])) :: (LL ++ Lk)) X (w'.putObj (w.heap.size + 1) (.loop { r with state := .exhausted, pending := pe })) := by
        intro st pe LL hst hpwL hLM hLL hl
        refine ⟨run_endLoop hl hst, ?_⟩
        have hk2 : Keep ((w.heap.size + 1) :: M) w2 (w'.putObj (w.heap.size + 1) (.loop { r with state := .exhausted, pending := pe })) :=
          hk.trans ((Keep.putObj _ _).weak fun k hm => by simp at hm; subst hm; exact List.mem_cons_self)
        have hput : ∀ k, k ≠ w.heap.size + 1 → (w'.putObj (w.heap.size + 1) (.loop { r with state := .exhausted, pending := pe })).heap[k]? = w'.heap[k]? := fun k hne => World.putObj_heap_other hne
        refine hs2.jump hk2 (fun k hm => ?_) ?_ (fun p hp => ?_)
        · rcases List.mem_cons.1 hm with rfl | hm
          · exact ⟨_, List.mem_cons_self⟩
          · obtain ⟨o, ho⟩ := hMown k hm
            exact ⟨o, List.mem_cons_of_mem _ (List.mem_cons_of_mem _ (List.mem_append_left _ ho))⟩
        · refine List.pairwise_cons.2 ⟨fun p hp => ?_, List.pairwise_append.2 ⟨hpwL, hpw3.2.1, fun p hp p' hp' => ?_⟩⟩
          · rcases List.mem_append.1 hp with hp | hp
            · exact fun e => (apart (hLM p hp)).2.1 e.symm
            · exact hpw2.1 p (List.mem_append_right _ hp)
          · exact fun e => (apart (hLM p hp)).2.2 p' hp' e.symm
        · rcases List.mem_cons.1 hp with rfl | hp
          · refine ⟨.inl ⟨_, List.mem_cons_of_mem _ List.mem_cons_self⟩, ?_⟩
            rw [hput _ (by simp)]
            refine (hk.block w.heap.size (lt_of_some (hs2.own _ (List.mem_cons_of_mem _ List.mem_cons_self)).2.2) ?_).trans (hs2.own _ (List.mem_cons_of_mem _ List.mem_cons_self)).2.2
            simp only [List.mem_cons, not_or]; exact ⟨by omega, hMD⟩
          · rcases List.mem_append.1 hp with hp | hp
            · refine ⟨?_, ?_⟩
              · rcases hLM p hp with g | g
                · obtain ⟨o, ho⟩ := hMown _ g
                  exact .inl ⟨o, List.mem_cons_of_mem _ (List.mem_cons_of_mem _ (List.mem_append_left _ ho))⟩
                · exact .inr g
              · rw [hput _ (apart (hLM p hp)).1]
                exact hLL p hp
            · have hmem := List.mem_cons_of_mem (w.heap.size + 1, Obj.loop r) (List.mem_cons_of_mem (w.heap.size, Obj.deferred (some [])) (List.mem_append_right (LI s0) hp))
              refine ⟨.inl ⟨p.2, hmem⟩, ?_⟩
              obtain ⟨g1, g2⟩ := hMk p hp
              rw [hput _ g2]
              refine (hk.block p.1 (lt_of_some (hs2.own _ hmem).2.2) ?_).trans (hs2.own _ hmem).2.2
              simp only [List.mem_cons, not_or]; exact ⟨g2, g1⟩
      have hfr2 : Fr c.n (markOf w.heap.size :: d) l { tmps := a.tmps, defers := [markOf w.heap.size] ++ a.defers } := ⟨hfr.size, by simp [hfr.defers], hfr.slots⟩
      rcases hfin with ⟨i, xs, hi, ⟨s, h1, h2, h3, h4, _⟩, h5⟩ | ⟨xs, j, ⟨s, h1, h2, h3, h4, _⟩, h5⟩
      · obtain ⟨g1, g2⟩ := fin .ready none (LI s) (by simp) h2 h3 h4 (by rw [hrr]; exact h5)
        exact ⟨none, _, g1, hdone _ i s hi h1 _ _ hfr2 g2⟩
      · obtain ⟨g1, g2⟩ := fin .done (some j) (LE s) (by simp) h2 h3 h4 h5
        exact ⟨some j, _, g1, hstop _ j s h1 _ _ hfr2 g2⟩
    · -- a round
      rintro i v B i' hi xs w3 hxs hk3 hfoot hB hBx
      obtain ⟨⟨s, h1, hpwS, hMS, h2, rfl⟩, h3⟩ := hfoot w3 fun _ _ => rfl
      have hargs : v.toArray.size = r.params.size := by rw [hr]; simpa using hlen i v B i' hi
      have hy := run_yield (P := c.P) (args := v.toArray) h3 hargs
      refine ⟨_, _, _, _, hy, ?_⟩
      obtain ⟨c3, hc3⟩ : ∃ c3, cxR c (w.heap.size + 1) w3 (idsOf (LI s)) (B ++ Lk) = c3 := ⟨_, rfl⟩
      have hc3x : c3.xids = [w.heap.size + 1] := by rw [← hc3]; rfl
      have hc3i : c3.ids = idsOf (LI s) := by rw [← hc3]; rfl
      have hc3w : c3.w1 = w3 := by rw [← hc3]; rfl
      have hmemS : ∀ p ∈ LI s, p.1 ∈ idsOf (LI s) := fun p hp => List.mem_map_of_mem (f := (·.1)) hp
      have hidS : ∀ {k : Nat}, k ∈ idsOf (LI s) → k ∈ M ∨ w2.heap.size ≤ k := fun {k} hk => by
        obtain ⟨p, hp, rfl⟩ := List.mem_map.1 hk
        exact hMS p hp
      have hst3 : St c3 (LI s) (recX (w.heap.size + 1) r) w3 := by
        subst hc3
        refine ⟨Keep.refl _ _, fun p hp => ⟨.inl (hmemS p hp), ?_, h2 p hp⟩, hpwS, ?_, ?_, [w.heap.size + 1], fun k hk => ?_, fun w' hw' => (hw' _ (by simp)).trans h3⟩
        · simp only [cxR, List.mem_singleton]; exact (apart (hMS p hp)).1
        · intro p hp
          simp only [cxR] at hp ⊢
          rcases List.mem_append.1 hp with hp | hp
          · rcases List.mem_append.1 hp with hp | hp
            · obtain ⟨b1, _⟩ := hBx p hp
              exact ⟨fun hm => b1 (List.mem_cons_of_mem _ hm), by simp only [List.mem_singleton]; exact fun e => b1 (by rw [e]; exact List.mem_cons_self), hB p hp⟩
            obtain ⟨g1, g2⟩ := hMk p hp
            refine ⟨fun hm => (apart (hidS hm)).2.2 p hp rfl, by simpa using g2, ?_⟩
            have hmem := List.mem_cons_of_mem (w.heap.size + 1, Obj.loop r) (List.mem_cons_of_mem (w.heap.size, Obj.deferred (some [])) (List.mem_append_right (LI s0) hp))
            exact (hk3.block p.1 (lt_of_some (hs2.own _ hmem).2.2) (by simp only [List.mem_cons, not_or]; exact ⟨g2, g1⟩)).trans (hs2.own _ hmem).2.2
          · have e3 := hs2.readR hp
            have hlt := lt_of_some (hs2.ext p hp).2.2
            have hsz := hs.keep.size
            have hnq : p.1 ≠ w.heap.size + 1 := fun e => by omega
            refine ⟨fun hm => apartR (hidS hm) p hp rfl, by simpa using hnq, ?_⟩
            exact (hk3.block p.1 (lt_of_some e3) (by simp only [List.mem_cons, not_or]; exact ⟨hnq, fun hm => apartR (.inl hm) p hp rfl⟩)).trans e3
        · intro k hk; simp only [cxR, List.mem_singleton] at hk; subst hk; exact lt_of_some h3
        · simp only [List.mem_singleton] at hk
          subst hk
          exact ⟨.inl (by simp [cxR]), lt_of_some h3, fun p hp => (apart (hMS p hp)).1⟩
      have hbusy : ∀ {LL : List (Nat × Obj)} {w' : World}, St c3 LL (recX (w.heap.size + 1) r) w' →
          St c3 LL (recX (w.heap.size + 1) { r with state := .busy, pending := none }) (w'.putObj (w.heap.size + 1) (.loop { r with state := .busy, pending := none })) := by
        intro LL w' hst
        have hlt : w.heap.size + 1 < w'.heap.size := lt_of_some hst.recd
        refine ⟨hst.keep.trans ((Keep.putObj _ _).weak fun k hm => by simp at hm; subst hm; rw [hc3x]; simp), fun p hp => ?_, hst.distinct, hst.ext, hst.xlt, [w.heap.size + 1], fun k hk => ?_, fun w'' hw'' => (hw'' _ (by simp)).trans (World.putObj_heap_same hlt)⟩
        · obtain ⟨g1, g2, g3⟩ := hst.own p hp
          refine ⟨g1, g2, (World.putObj_heap_other ?_).trans g3⟩
          intro e; exact g2 (by rw [e, hc3x]; simp)
        · simp only [List.mem_singleton] at hk
          subst hk
          exact ⟨.inl (by rw [hc3x]; simp), Nat.lt_of_lt_of_le hlt (Keep.putObj _ _).size, fun p hp e => (hst.own p hp).2.1 (by rw [hc3x, e]; simp)⟩
      have hfr3 : Fr c3.n [] (zipL pp v l) { tmps := (r.params.zip v.toArray).foldl (fun (t : Array Value) (pv : Nat × Value) => t.setIfInBounds pv.1 pv.2) r.tmps, defers := [] } := by
        have h5 := fr_zip (n := c.n) pp v l a.tmps (fun p hp => by have := List.all_eq_true.1 hpp p hp; simpa using this) ⟨hfr.size, rfl, hfr.slots⟩
        rw [hr, ← hc3]
        simp only [List.zip_toArray, List.foldl_toArray']
        exact h5
      have key : ∀ RR : Ending → World → Prop,
          (∀ s' w', I i' s' → St c3 (LI s') (recX (w.heap.size + 1) { r with state := .busy, pending := none }) w' → RR (.returned (.bool true)) (w'.putObj (w.heap.size + 1) (.loop { r with state := .ready, pending := none }))) →
          (∀ j s' w', E j s' → St c3 (LE s') (recX (w.heap.size + 1) { r with state := .busy, pending := none }) w' → RR (.returned (.bool false)) (w'.putObj (w.heap.size + 1) (.loop { r with state := .done, pending := some j }))) →
          RoundIn (FW none) 0 c.P (w.heap.size + 1) r.fn ((r.params.zip v.toArray).foldl (fun (t : Array Value) (pv : Nat × Value) => t.setIfInBounds pv.1 pv.2) r.tmps) r.assign r.body w3 RR := by
        intro RR g1 g2
        refine roundIn_of_wpIn (F := FW none) trivial ?_
        have hround' := hround (w.heap.size + 1) (recX (w.heap.size + 1) r) (recX (w.heap.size + 1) { r with state := .busy, pending := none }) w3 i v B i' s hi h1
          (fun a₁ w₁ => ∃ w₂, (Instr.beginRound (w.heap.size + 1)).run c.P w₁ = .ok () w₂ ∧ body.wpIn ((FW none).inRound (w.heap.size + 1)) 0 c.P (roundPost c.P (w.heap.size + 1) RR) a₁ w₂)
        rw [hc3] at hround'
        have hround'' := hround' (fun l' L' hb a₁ w₁ hf₁ hs₁ => ?_) _ w3 hfr3 hst3
        · have e1 : r.assign = assign := by rw [hr]
          have e2 : r.body = body := by rw [hr]
          have e3 : c3.P = c.P := by rw [← hc3]; rfl
          have e4 : c3.ro = some (w.heap.size + 1) := by rw [← hc3]; rfl
          rw [e3, e4] at hround''
          rw [e1, e2]
          exact hround''
        · have hx1 : w₁.heap[w.heap.size + 1]? = some (.loop r) := hs₁.recd
          refine ⟨_, run_beginRound hx1 (by rw [hr]), ?_⟩
          have hb2 := hb a₁ _ hf₁ (hbusy hs₁)
          have hb3 : ({ r with state := .busy } : Loop) = { r with state := .busy, pending := none } := by rw [hr]
          rw [hb3]
          have e3 : c3.P = c.P := by rw [← hc3]; rfl
          have e4 : c3.ro = some (w.heap.size + 1) := by rw [← hc3]; rfl
          rw [e3, e4] at hb2
          refine wpIn_mono (show body.wpIn ((FW none).inRound (w.heap.size + 1)) 0 c.P _ a₁ _ from hb2) ?_
          have := roundQ_post (c3 := c3) (q := w.heap.size + 1) (r := { r with pending := none }) (R := RR) g1 g2
          rw [e3] at this
          exact this
      have turn : ∀ (st : LoopState) (pe : Option Code) (LL : List (Nat × Obj)) (w' : World), St c3 LL (recX (w.heap.size + 1) { r with state := .busy, pending := none }) w' →
          (∀ k ∈ (w.heap.size + 1) :: idsOf LL, k < (w'.putObj (w.heap.size + 1) (.loop { r with state := st, pending := pe })).heap.size ∧ (k ∈ (w.heap.size + 1) :: idsOf (LI s) ∨ w3.heap.size ≤ k)) ∧
          Keep ((w.heap.size + 1) :: idsOf (LI s)) w3 (w'.putObj (w.heap.size + 1) (.loop { r with state := st, pending := pe })) ∧ (∀ p ∈ LL, p.1 ∈ M ∨ w2.heap.size ≤ p.1) ∧ Has LL (w'.putObj (w.heap.size + 1) (.loop { r with state := st, pending := pe })) ∧
          (w'.putObj (w.heap.size + 1) (.loop { r with state := st, pending := pe })).heap[w.heap.size + 1]? = some (.loop { r with state := st, pending := pe }) := by
        intro st pe LL w' hst'
        have hlt : w.heap.size + 1 < w'.heap.size := lt_of_some hst'.recd
        have hk' := hst'.keep
        rw [hc3x, hc3i, hc3w] at hk'
        have hown' : ∀ p ∈ LL, (p.1 ∈ idsOf (LI s) ∨ w3.heap.size ≤ p.1) ∧ p.1 ≠ w.heap.size + 1 ∧ w'.heap[p.1]? = some p.2 := fun p hp => by
          have := hst'.own p hp
          rw [hc3x, hc3i, hc3w] at this
          simpa using this
        refine ⟨fun k hk => ?_, ?_, fun p hp => ?_, fun p hp => (World.putObj_heap_other (hown' p hp).2.1).trans (hown' p hp).2.2, World.putObj_heap_same hlt⟩
        · rcases List.mem_cons.1 hk with rfl | hk
          · exact ⟨Nat.lt_of_lt_of_le hlt (Keep.putObj _ _).size, .inl List.mem_cons_self⟩
          · obtain ⟨p, hp, rfl⟩ := List.mem_map.1 hk
            obtain ⟨e1, e2, e3⟩ := hown' p hp
            exact ⟨Nat.lt_of_lt_of_le (lt_of_some e3) (Keep.putObj _ _).size, e1.imp (List.mem_cons_of_mem _) id⟩
        · refine (hk'.weak fun k hm => ?_).trans ((Keep.putObj _ _).weak fun k hm => by simp at hm; subst hm; exact List.mem_cons_self)
          rcases List.mem_append.1 hm with hm | hm
          · exact List.mem_cons_of_mem _ hm
          · simp only [List.mem_singleton] at hm; subst hm; exact List.mem_cons_self
        · rcases (hown' p hp).1 with g | g
          · exact hidS g
          · exact .inr (Nat.le_trans hk3.size g)
      refine key _ ?_ ?_
      · intro s' w' hI' hst'
        obtain ⟨t1, t2, t3, t4, t5⟩ := turn .ready none (LI s') w' hst'
        refine ⟨true, _, rfl, t1, t2, ?_⟩
        rw [if_pos rfl]
        exact foot_loopX s' hI' hst'.distinct t3 t4 (by rw [hrr] at t5 ⊢; exact t5)
      · intro j s' w' hE' hst'
        obtain ⟨t1, t2, t3, t4, t5⟩ := turn .done (some j) (LE s') w' hst'
        refine ⟨false, _, rfl, t1, t2, ?_⟩
        rw [if_neg (by simp)]
        exact fun w'' hw'' => ⟨j, foot_loopX s' hE' hst'.distinct t3 t4 t5 w'' hw''⟩
end
theorem iterB_of_HC {ι : Type} {P : Program} {f : FuncId} {fn : Func} {code : Code} {caps : List Value} {Rl : List (Nat × Obj)} {p0 : ι} {nx : ι → List Value → List (Nat × Obj) → ι → Prop} {fin : ι → Prop} (hf : P.funcs[f]? = some fn) (hb : fn.body = some code) (hlen : Nat.ble (caps.length + 1) fn.ntmps = true)
    (h : ∀ (q : Nat) (xids : List Nat) (w2 : World) (XI : ι → XP) (XF : XP),
      (∀ i v B i', nx i v B i' → ∀ xs w, (∀ k ∈ xs, k < w.heap.size ∧ (k ∈ xids ∨ w2.heap.size ≤ k)) → Keep ([] ++ xids) w2 w → Foot xs (XI i) w → Has B w → (∀ p ∈ B, p.1 ∉ xs ∧ p.1 ∉ xids) → YS P q v.toArray xs w (XI i') XF) →
      HC ⟨P, none, w2, [], xids, Rl, fn.ntmps⟩ [] (frame0 0 (.func (.yield q) #[] #[] :: caps)) [] (XI p0) code
        (bodyPostM (FW none) 0 P fn (fun e w' => (∃ v, e = .returned v) ∧ Keep ([] ++ xids) w2 w' ∧ ((∃ i xs, fin i ∧ XI i xs w') ∨ ∃ xs, XF xs w')))) : IterB P f caps Rl p0 nx fin :=
  fun q xids w2 XI XF hR hlt h0 hY =>
    calls_of_HC ⟨P, none, w2, [], xids, Rl, fn.ntmps⟩ hf hb rfl rfl rfl hlen
      ⟨Keep.refl _ _, by simp, by simp, fun p hp => ⟨by simp, (hR p hp).1, (hR p hp).2⟩, hlt, xids, fun k hk => ⟨.inl hk, hlt k hk, by simp⟩, h0⟩ (h q xids w2 XI XF hY)
section
variable {c : Cx} {d : List Deferred} {l : List (Nat × Value)} {E : List (Nat × Obj)} {X : XP} {S : List (Nat × Obj)} {ops : Array Oper} {tb : Kbs} {rest : List Nat} {T : List (Nat × Obj) → Act → Prop} {k i : Nat}
theorem HB_callRE {α : Type} {x0 : α} {V : α → Value} {LL : α → List (Nat × Obj)} {Rl : List (Nat × Obj)} {f : Operand} {args : Array Operand} {at_ : Array TypeId} {g : FuncId} {vs : List Value} {ty : TypeId} {ps : String} {af : Array Edge} {gd : Option (Nat × Bool)}
    (hk : nth ops.toList k = some ⟨some i, .call ⟨.value f, args, at_⟩, ty, ps, af, gd⟩) (hg : goes l ops ⟨some i, .call ⟨.value f, args, at_⟩, ty, ps, af, gd⟩ = some true) (hi : Nat.ble (i + 1) c.n = true) (hA : tb k = .grow (geCall x0 V LL)) (hca : callArgs l f args = some (g, vs)) (eg : Enters c.P g)
    (hp : PureT c.P g vs.toArray V [] LL Rl) (hR : ∀ p ∈ Rl, p ∈ S ∨ p ∈ c.R) (h : ∀ x, HB c d ((i, V x) :: l) (LL x ++ E) X S ops tb rest T) : HB c d l E X S ops tb (k :: rest) T :=
  HB_grow (e := geCall x0 V LL) hk hg rfl hi hA (fun E' hE a w hf hs => act_call hf hca eg ((hp.run w (fun p hp => by cases hp) (fun p hp => (hR p hp).elim (fun h => (hs.own _ (hE p h)).2.2) hs.readR) List.Pairwise.nil (fun p _ q hq => by cases hq)).mono fun _ _ ⟨x, he, hk, h1, h2⟩ => ⟨V x, he, x, rfl, hk, (fun p hp => ⟨((h1 p hp).1).elim (fun h => by cases h) id, (h1 p hp).2⟩), h2⟩)) h
end
end Go.SL
namespace Go.Proofs.Ytnkmbkndpoghdaa
set_option linter.all false
open Go.SL Go.RowKit Go.Shelf
theorem forked_dec (f : Int) : decide (Forked f) = (decide (f ≥ 0) && decide (f ≤ 5)) := by
  rw [Bool.eq_iff_iff, Bool.and_eq_true, decide_eq_true_eq, decide_eq_true_eq, decide_eq_true_eq]
  exact Iff.rfl
set_option maxRecDepth 10000 in
theorem P_forked (f : Int) : Pure Try.prog 30 [.int .i64 f].toArray (.bool (decide (Forked f))) := by
  rw [forked_dec]
  refine pure_of_HC Try.func30 rfl rfl fun w => ?_
  refine HC_seq fun K1 hK1 => ?_
  refine HC_region ?_
  all_goals refine HL_r rfl rfl rfl rfl (R_assign rfl) ?_
  all_goals refine HL_nil ?_
  all_goals (
    refine HQ_then ?_
    refine hK1 _ _ _ _ ?_; clear hK1 K1
    refine HC_seq fun K2 hK2 => ?_
    refine HC_region ?_
    all_goals refine HL_r rfl rfl rfl rfl (R_move rfl) ?_
    all_goals refine HL_r rfl rfl rfl rfl (R_pure rfl rfl rfl) ?_
    all_goals refine HL_r rfl rfl rfl rfl (R_move rfl) ?_
    all_goals first
      | (refine HL_r rfl rfl rfl rfl (R_move rfl) ?_)
      | (refine HL_skip rfl rfl rfl ?_)
      | (refine HL_case 5 rfl (fun hb3 => ?_) (fun hb3 => ?_) <;> (try simp only [decide_eq_true_eq, decide_eq_false_iff_not, beq_iff_eq, beq_eq_false_iff_ne, bne_iff_ne, bne_eq_false_iff_eq, Bool.not_eq_true', Bool.not_eq_false', ne_eq, Int.not_lt, Int.not_le, ge_iff_le, gt_iff_lt] at hb3) <;> first | (refine HL_r rfl rfl rfl rfl (R_move rfl) ?_) | (refine HL_skip rfl rfl rfl ?_))
    all_goals first
      | (refine HL_r rfl rfl rfl rfl (R_pure rfl rfl rfl) ?_)
      | (refine HL_skip rfl rfl rfl ?_)
      | (refine HL_case 5 rfl (fun hb4 => ?_) (fun hb4 => ?_) <;> (try simp only [decide_eq_true_eq, decide_eq_false_iff_not, beq_iff_eq, beq_eq_false_iff_ne, bne_iff_ne, bne_eq_false_iff_eq, Bool.not_eq_true', Bool.not_eq_false', ne_eq, Int.not_lt, Int.not_le, ge_iff_le, gt_iff_lt] at hb4) <;> first | (refine HL_r rfl rfl rfl rfl (R_pure rfl rfl rfl) ?_) | (refine HL_skip rfl rfl rfl ?_))
    all_goals first
      | (refine HL_r rfl rfl rfl rfl (R_pickT rfl rfl) ?_)
      | (refine HL_r rfl rfl rfl rfl (R_pickF rfl rfl) ?_)
    all_goals refine HL_r rfl rfl rfl rfl (R_assign rfl) ?_
    all_goals refine HL_nil ?_
    all_goals (
      refine HQ_then ?_
      refine hK2 _ _ _ _ ?_; clear hK2 K2
      refine HC_ret ?_
      refine HQ_post rfl rfl (.cons (res_tmp rfl) .nil) (fun w1 hs1 => ?_)
      refine ⟨?_, hs1.keep⟩
      simp_all [resVal]
      all_goals first | done | omega | trace_state
      skip)
    skip)
theorem zero_wok : WOk w40.l := w40_ok.wok
set_option maxRecDepth 10000 in
theorem P_lnone : Pure Try.prog 22 [].toArray (strV noneB) := by
  rw [none_b]
  refine pure_of_HC Try.func22 rfl rfl fun w => ?_
  refine HC_seq fun K1 hK1 => ?_
  refine HC_region ?_
  all_goals refine HL_r rfl rfl rfl rfl (R_assign rfl) ?_
  all_goals refine HL_nil ?_
  all_goals (
    refine HQ_then ?_
    refine hK1 _ _ _ _ ?_; clear hK1 K1
    refine HC_seq fun K2 hK2 => ?_
    refine HC_region ?_
    all_goals refine HL_r rfl rfl rfl rfl (R_build (r := [_, _, _, _]) rfl rfl) ?_
    all_goals refine HL_callP rfl rfl rfl (enters_of Try.func23 (by kernel_rfl) rfl) (P_word_Fixed zero_wok) ?_
    all_goals refine HL_r rfl rfl rfl rfl (R_assign rfl) ?_
    all_goals refine HL_nil ?_
    all_goals (
      refine HQ_then ?_
      refine hK2 _ _ _ _ ?_; clear hK2 K2
      refine HC_ret ?_
      refine HQ_post rfl rfl (.cons (res_tmp rfl) .nil) (fun w1 hs1 => ?_)
      exact ⟨rfl, hs1.keep⟩
      skip)
    skip)
set_option maxRecDepth 10000 in
theorem P_lkey {n : Nat} (h : U64 n) : Pure Try.prog 33 [uV n].toArray (strV (keyE n)) := by
  refine pure_of_HC Try.func33 rfl rfl fun w => ?_
  refine HC_seq fun K1 hK1 => ?_
  refine HC_region ?_
  all_goals refine HL_r rfl rfl rfl rfl (R_assign rfl) ?_
  all_goals refine HL_nil ?_
  all_goals (
    refine HQ_then ?_
    refine hK1 _ _ _ _ ?_; clear hK1 K1
    refine HC_seq fun K2 hK2 => ?_
    refine HC_region ?_
    all_goals refine HL_r rfl rfl rfl rfl (R_move rfl) ?_
    all_goals refine HL_callP rfl rfl rfl (enters_of Try.func44 (by kernel_rfl) rfl) (P_word_Of n) ?_
    all_goals refine HL_callP rfl rfl rfl (enters_of Try.func23 (by kernel_rfl) rfl) (P_word_Fixed (wN1_ok h).wok) ?_
    all_goals refine HL_r rfl rfl rfl rfl (R_assign rfl) ?_
    all_goals refine HL_nil ?_
    all_goals (
      refine HQ_then ?_
      refine hK2 _ _ _ _ ?_; clear hK2 K2
      refine HC_ret ?_
      refine HQ_post rfl rfl (.cons (res_tmp rfl) .nil) (fun w1 hs1 => ?_)
      exact ⟨rfl, hs1.keep⟩
      skip)
    skip)
set_option maxRecDepth 10000 in
theorem P_Addr0 : Pure Try.prog 8 [.int .i64 0].toArray (strV A0) := by
  refine pure_of_HC Try.func8 rfl rfl fun w => ?_
  refine HC_seq fun K1 hK1 => ?_
  refine HC_region ?_
  all_goals refine HL_r rfl rfl rfl rfl (R_assign rfl) ?_
  all_goals refine HL_nil ?_
  all_goals (
    refine HQ_then ?_
    refine hK1 _ _ _ _ ?_; clear hK1 K1
    refine HC_seq fun K2 hK2 => ?_
    refine HC_seq fun K3 hK3 => ?_
    refine HC_region ?_
    all_goals refine HL_r rfl rfl rfl rfl (R_move rfl) ?_
    all_goals refine HL_r rfl rfl rfl rfl (R_pure rfl rfl rfl) ?_
    all_goals refine HL_r rfl rfl rfl rfl (R_move rfl) ?_
    all_goals first
      | (refine HL_r rfl rfl rfl rfl (R_move rfl) ?_)
      | (refine HL_skip rfl rfl rfl ?_)
      | (refine HL_case 6 rfl (fun hb4 => ?_) (fun hb4 => ?_) <;> (try simp only [decide_eq_true_eq, decide_eq_false_iff_not, beq_iff_eq, beq_eq_false_iff_ne, bne_iff_ne, bne_eq_false_iff_eq, Bool.not_eq_true', Bool.not_eq_false', ne_eq, Int.not_lt, Int.not_le, ge_iff_le, gt_iff_lt] at hb4) <;> first | (refine HL_r rfl rfl rfl rfl (R_move rfl) ?_) | (refine HL_skip rfl rfl rfl ?_))
    all_goals first
      | (refine HL_r rfl rfl rfl rfl (R_pure rfl rfl rfl) ?_)
      | (refine HL_skip rfl rfl rfl ?_)
      | (refine HL_case 6 rfl (fun hb5 => ?_) (fun hb5 => ?_) <;> (try simp only [decide_eq_true_eq, decide_eq_false_iff_not, beq_iff_eq, beq_eq_false_iff_ne, bne_iff_ne, bne_eq_false_iff_eq, Bool.not_eq_true', Bool.not_eq_false', ne_eq, Int.not_lt, Int.not_le, ge_iff_le, gt_iff_lt] at hb5) <;> first | (refine HL_r rfl rfl rfl rfl (R_pure rfl rfl rfl) ?_) | (refine HL_skip rfl rfl rfl ?_))
    all_goals first
      | (refine HL_r rfl rfl rfl rfl (R_pickT rfl rfl) ?_)
      | (refine HL_r rfl rfl rfl rfl (R_pickF rfl rfl) ?_)
    all_goals refine HL_nil ?_
    all_goals (
      refine HQ_then ?_
      refine hK3 _ _ _ _ ?_; clear hK3 K3
      refine HC_cond rfl (fun h6 => ?_) (fun h6 => ?_)
      · try exact Bool.noConfusion h6
        all_goals try simp only [decide_eq_true_eq, decide_eq_false_iff_not, beq_iff_eq, beq_eq_false_iff_ne, bne_iff_ne, bne_eq_false_iff_eq, Bool.not_eq_true', Bool.not_eq_false', ne_eq, Int.not_lt, Int.not_le, ge_iff_le, gt_iff_lt] at h6
        all_goals (
          refine HC_seq fun K7 hK7 => ?_
          refine HC_region ?_
          all_goals refine HL_r rfl rfl rfl rfl (R_assign rfl) ?_
          all_goals refine HL_nil ?_
          all_goals (
            refine HQ_then ?_
            refine hK7 _ _ _ _ ?_; clear hK7 K7
            refine HC_ret ?_
            refine HQ_thenR ?_; clear hK2 K2
            refine HQ_post rfl rfl (.cons (res_tmp rfl) .nil) (fun w1 hs1 => ?_)
            exact ⟨rfl, hs1.keep⟩
            skip)
          skip)
      · try exact Bool.noConfusion h6
        all_goals try simp only [decide_eq_true_eq, decide_eq_false_iff_not, beq_iff_eq, beq_eq_false_iff_ne, bne_iff_ne, bne_eq_false_iff_eq, Bool.not_eq_true', Bool.not_eq_false', ne_eq, Int.not_lt, Int.not_le, ge_iff_le, gt_iff_lt] at h6
        all_goals (
          refine HC_skip ?_
          refine HQ_then ?_
          refine hK2 _ _ _ _ ?_; clear hK2 K2
          refine HC_seq fun K8 hK8 => ?_
          refine HC_region ?_
          all_goals refine HL_make (n := 20) (b := 1) rfl rfl rfl rfl rfl rfl rfl rfl rfl (by decide) (by decide) fun r1 => ?_
          all_goals refine HL_r rfl rfl rfl rfl (R_assign rfl) ?_
          all_goals refine HL_nil ?_
          all_goals (
            refine HQ_then ?_
            refine hK8 _ _ _ _ ?_; clear hK8 K8
            refine HC_seq fun K9 hK9 => ?_
            refine HC_region ?_
            all_goals refine HL_r rfl rfl rfl rfl (R_move rfl) ?_
            all_goals refine HL_r rfl rfl rfl rfl (R_move rfl) ?_
            all_goals refine HL_r rfl rfl rfl rfl (R_move rfl) ?_
            all_goals first
              | (refine HL_r rfl rfl rfl rfl (R_pure rfl rfl rfl) ?_; refine HL_wrap_i64 (by omega) (by omega) ?_)
              | (refine HL_r rfl rfl rfl rfl (R_pure rfl rfl rfl) ?_)
            all_goals first
              | (refine HL_r rfl rfl rfl rfl (R_pure rfl rfl rfl) ?_; refine HL_wrap_u8 (by omega) (by omega) ?_)
              | (refine HL_r rfl rfl rfl rfl (R_pure rfl rfl rfl) ?_)
            all_goals refine HL_r rfl rfl rfl rfl (R_indexS (j := 0) (m := 1) rfl rfl rfl rfl rfl (by decide) rfl) ?_
            all_goals refine HL_store (k := 0) rfl rfl rfl rfl rfl rfl rfl rfl rfl rfl ?_
            all_goals refine HL_r rfl rfl rfl rfl (R_indexS (j := 19) (m := 1) rfl rfl rfl rfl rfl (by decide) rfl) ?_
            all_goals refine HL_store (k := 0) rfl rfl rfl rfl rfl rfl rfl rfl rfl rfl ?_
            all_goals refine HL_nil ?_
            all_goals (
              refine HQ_then ?_
              refine hK9 _ _ _ _ ?_; clear hK9 K9
              refine HC_seq fun K10 hK10 => ?_
              refine HC_region ?_
              all_goals refine HL_r rfl rfl rfl rfl (R_move rfl) ?_
              all_goals refine HL_r rfl rfl rfl rfl (R_bytesStr (b := A0) (row := some (r1, 20, [])) (e := 5) rfl ⟨rfl, rfl⟩ (fun p hp => .inl (by rw [List.mem_singleton.1 hp]; exact List.mem_cons_self)) rfl rfl rfl) ?_
              all_goals refine HL_r rfl rfl rfl rfl (R_assign rfl) ?_
              all_goals refine HL_nil ?_
              all_goals (
                refine HQ_then ?_
                refine hK10 _ _ _ _ ?_; clear hK10 K10
                refine HC_ret ?_
                refine HQ_post rfl rfl (.cons (res_tmp rfl) .nil) (fun w1 hs1 => ?_)
                exact ⟨rfl, hs1.keep⟩
                skip)
              skip)
            skip)
          skip)
      skip)
    skip)
set_option maxRecDepth 10000 in
theorem P_Addr1 : Pure Try.prog 8 [.int .i64 1].toArray (strV A1) := by
  refine pure_of_HC Try.func8 rfl rfl fun w => ?_
  refine HC_seq fun K1 hK1 => ?_
  refine HC_region ?_
  all_goals refine HL_r rfl rfl rfl rfl (R_assign rfl) ?_
  all_goals refine HL_nil ?_
  all_goals (
    refine HQ_then ?_
    refine hK1 _ _ _ _ ?_; clear hK1 K1
    refine HC_seq fun K2 hK2 => ?_
    refine HC_seq fun K3 hK3 => ?_
    refine HC_region ?_
    all_goals refine HL_r rfl rfl rfl rfl (R_move rfl) ?_
    all_goals refine HL_r rfl rfl rfl rfl (R_pure rfl rfl rfl) ?_
    all_goals refine HL_r rfl rfl rfl rfl (R_move rfl) ?_
    all_goals first
      | (refine HL_r rfl rfl rfl rfl (R_move rfl) ?_)
      | (refine HL_skip rfl rfl rfl ?_)
      | (refine HL_case 6 rfl (fun hb4 => ?_) (fun hb4 => ?_) <;> (try simp only [decide_eq_true_eq, decide_eq_false_iff_not, beq_iff_eq, beq_eq_false_iff_ne, bne_iff_ne, bne_eq_false_iff_eq, Bool.not_eq_true', Bool.not_eq_false', ne_eq, Int.not_lt, Int.not_le, ge_iff_le, gt_iff_lt] at hb4) <;> first | (refine HL_r rfl rfl rfl rfl (R_move rfl) ?_) | (refine HL_skip rfl rfl rfl ?_))
    all_goals first
      | (refine HL_r rfl rfl rfl rfl (R_pure rfl rfl rfl) ?_)
      | (refine HL_skip rfl rfl rfl ?_)
      | (refine HL_case 6 rfl (fun hb5 => ?_) (fun hb5 => ?_) <;> (try simp only [decide_eq_true_eq, decide_eq_false_iff_not, beq_iff_eq, beq_eq_false_iff_ne, bne_iff_ne, bne_eq_false_iff_eq, Bool.not_eq_true', Bool.not_eq_false', ne_eq, Int.not_lt, Int.not_le, ge_iff_le, gt_iff_lt] at hb5) <;> first | (refine HL_r rfl rfl rfl rfl (R_pure rfl rfl rfl) ?_) | (refine HL_skip rfl rfl rfl ?_))
    all_goals first
      | (refine HL_r rfl rfl rfl rfl (R_pickT rfl rfl) ?_)
      | (refine HL_r rfl rfl rfl rfl (R_pickF rfl rfl) ?_)
    all_goals refine HL_nil ?_
    all_goals (
      refine HQ_then ?_
      refine hK3 _ _ _ _ ?_; clear hK3 K3
      refine HC_cond rfl (fun h6 => ?_) (fun h6 => ?_)
      · try exact Bool.noConfusion h6
        all_goals try simp only [decide_eq_true_eq, decide_eq_false_iff_not, beq_iff_eq, beq_eq_false_iff_ne, bne_iff_ne, bne_eq_false_iff_eq, Bool.not_eq_true', Bool.not_eq_false', ne_eq, Int.not_lt, Int.not_le, ge_iff_le, gt_iff_lt] at h6
        all_goals (
          refine HC_seq fun K7 hK7 => ?_
          refine HC_region ?_
          all_goals refine HL_r rfl rfl rfl rfl (R_assign rfl) ?_
          all_goals refine HL_nil ?_
          all_goals (
            refine HQ_then ?_
            refine hK7 _ _ _ _ ?_; clear hK7 K7
            refine HC_ret ?_
            refine HQ_thenR ?_; clear hK2 K2
            refine HQ_post rfl rfl (.cons (res_tmp rfl) .nil) (fun w1 hs1 => ?_)
            exact ⟨rfl, hs1.keep⟩
            skip)
          skip)
      · try exact Bool.noConfusion h6
        all_goals try simp only [decide_eq_true_eq, decide_eq_false_iff_not, beq_iff_eq, beq_eq_false_iff_ne, bne_iff_ne, bne_eq_false_iff_eq, Bool.not_eq_true', Bool.not_eq_false', ne_eq, Int.not_lt, Int.not_le, ge_iff_le, gt_iff_lt] at h6
        all_goals (
          refine HC_skip ?_
          refine HQ_then ?_
          refine hK2 _ _ _ _ ?_; clear hK2 K2
          refine HC_seq fun K8 hK8 => ?_
          refine HC_region ?_
          all_goals refine HL_make (n := 20) (b := 1) rfl rfl rfl rfl rfl rfl rfl rfl rfl (by decide) (by decide) fun r1 => ?_
          all_goals refine HL_r rfl rfl rfl rfl (R_assign rfl) ?_
          all_goals refine HL_nil ?_
          all_goals (
            refine HQ_then ?_
            refine hK8 _ _ _ _ ?_; clear hK8 K8
            refine HC_seq fun K9 hK9 => ?_
            refine HC_region ?_
            all_goals refine HL_r rfl rfl rfl rfl (R_move rfl) ?_
            all_goals refine HL_r rfl rfl rfl rfl (R_move rfl) ?_
            all_goals refine HL_r rfl rfl rfl rfl (R_move rfl) ?_
            all_goals first
              | (refine HL_r rfl rfl rfl rfl (R_pure rfl rfl rfl) ?_; refine HL_wrap_i64 (by omega) (by omega) ?_)
              | (refine HL_r rfl rfl rfl rfl (R_pure rfl rfl rfl) ?_)
            all_goals first
              | (refine HL_r rfl rfl rfl rfl (R_pure rfl rfl rfl) ?_; refine HL_wrap_u8 (by omega) (by omega) ?_)
              | (refine HL_r rfl rfl rfl rfl (R_pure rfl rfl rfl) ?_)
            all_goals refine HL_r rfl rfl rfl rfl (R_indexS (j := 0) (m := 1) rfl rfl rfl rfl rfl (by decide) rfl) ?_
            all_goals refine HL_store (k := 0) rfl rfl rfl rfl rfl rfl rfl rfl rfl rfl ?_
            all_goals refine HL_r rfl rfl rfl rfl (R_indexS (j := 19) (m := 1) rfl rfl rfl rfl rfl (by decide) rfl) ?_
            all_goals refine HL_store (k := 0) rfl rfl rfl rfl rfl rfl rfl rfl rfl rfl ?_
            all_goals refine HL_nil ?_
            all_goals (
              refine HQ_then ?_
              refine hK9 _ _ _ _ ?_; clear hK9 K9
              refine HC_seq fun K10 hK10 => ?_
              refine HC_region ?_
              all_goals refine HL_r rfl rfl rfl rfl (R_move rfl) ?_
              all_goals refine HL_r rfl rfl rfl rfl (R_bytesStr (b := A1) (row := some (r1, 20, [])) (e := 5) rfl ⟨rfl, rfl⟩ (fun p hp => .inl (by rw [List.mem_singleton.1 hp]; exact List.mem_cons_self)) rfl rfl rfl) ?_
              all_goals refine HL_r rfl rfl rfl rfl (R_assign rfl) ?_
              all_goals refine HL_nil ?_
              all_goals (
                refine HQ_then ?_
                refine hK10 _ _ _ _ ?_; clear hK10 K10
                refine HC_ret ?_
                refine HQ_post rfl rfl (.cons (res_tmp rfl) .nil) (fun w1 hs1 => ?_)
                exact ⟨rfl, hs1.keep⟩
                skip)
              skip)
            skip)
          skip)
      skip)
    skip)
set_option maxRecDepth 10000 in
theorem P_AddrN {f : Int} (h : f < 0 ∨ f > 1) : Pure Try.prog 8 [.int .i64 f].toArray (strV []) := by
  refine pure_of_HC Try.func8 rfl rfl fun w => ?_
  refine HC_seq fun K1 hK1 => ?_
  refine HC_region ?_
  all_goals refine HL_r rfl rfl rfl rfl (R_assign rfl) ?_
  all_goals refine HL_nil ?_
  all_goals (
    refine HQ_then ?_
    refine hK1 _ _ _ _ ?_; clear hK1 K1
    refine HC_seq fun K2 hK2 => ?_
    refine HC_seq fun K3 hK3 => ?_
    refine HC_region ?_
    all_goals refine HL_r rfl rfl rfl rfl (R_move rfl) ?_
    all_goals refine HL_r rfl rfl rfl rfl (R_pure rfl rfl rfl) ?_
    all_goals refine HL_r rfl rfl rfl rfl (R_move rfl) ?_
    all_goals first
      | (refine HL_r rfl rfl rfl rfl (R_move rfl) ?_)
      | (refine HL_skip rfl rfl rfl ?_)
      | (refine HL_case 6 rfl (fun hb4 => ?_) (fun hb4 => ?_) <;> (try simp only [decide_eq_true_eq, decide_eq_false_iff_not, beq_iff_eq, beq_eq_false_iff_ne, bne_iff_ne, bne_eq_false_iff_eq, Bool.not_eq_true', Bool.not_eq_false', ne_eq, Int.not_lt, Int.not_le, ge_iff_le, gt_iff_lt] at hb4) <;> first | (refine HL_r rfl rfl rfl rfl (R_move rfl) ?_) | (refine HL_skip rfl rfl rfl ?_))
    all_goals first
      | (refine HL_r rfl rfl rfl rfl (R_pure rfl rfl rfl) ?_)
      | (refine HL_skip rfl rfl rfl ?_)
      | (refine HL_case 6 rfl (fun hb5 => ?_) (fun hb5 => ?_) <;> (try simp only [decide_eq_true_eq, decide_eq_false_iff_not, beq_iff_eq, beq_eq_false_iff_ne, bne_iff_ne, bne_eq_false_iff_eq, Bool.not_eq_true', Bool.not_eq_false', ne_eq, Int.not_lt, Int.not_le, ge_iff_le, gt_iff_lt] at hb5) <;> first | (refine HL_r rfl rfl rfl rfl (R_pure rfl rfl rfl) ?_) | (refine HL_skip rfl rfl rfl ?_))
    all_goals first
      | (refine HL_r rfl rfl rfl rfl (R_pickT rfl rfl) ?_)
      | (refine HL_r rfl rfl rfl rfl (R_pickF rfl rfl) ?_)
    all_goals refine HL_nil ?_
    all_goals (
      refine HQ_then ?_
      refine hK3 _ _ _ _ ?_; clear hK3 K3
      refine HC_cond rfl (fun h6 => ?_) (fun h6 => ?_)
      · try exact Bool.noConfusion h6
        all_goals try simp only [decide_eq_true_eq, decide_eq_false_iff_not, beq_iff_eq, beq_eq_false_iff_ne, bne_iff_ne, bne_eq_false_iff_eq, Bool.not_eq_true', Bool.not_eq_false', ne_eq, Int.not_lt, Int.not_le, ge_iff_le, gt_iff_lt] at h6
        all_goals (
          refine HC_seq fun K7 hK7 => ?_
          refine HC_region ?_
          all_goals refine HL_r rfl rfl rfl rfl (R_assign rfl) ?_
          all_goals refine HL_nil ?_
          all_goals (
            refine HQ_then ?_
            refine hK7 _ _ _ _ ?_; clear hK7 K7
            refine HC_ret ?_
            refine HQ_thenR ?_; clear hK2 K2
            refine HQ_post rfl rfl (.cons (res_tmp rfl) .nil) (fun w1 hs1 => ?_)
            first | exact ⟨rfl, hs1.keep⟩ | (exfalso; omega)
            skip)
          skip)
      · try exact Bool.noConfusion h6
        all_goals try simp only [decide_eq_true_eq, decide_eq_false_iff_not, beq_iff_eq, beq_eq_false_iff_ne, bne_iff_ne, bne_eq_false_iff_eq, Bool.not_eq_true', Bool.not_eq_false', ne_eq, Int.not_lt, Int.not_le, ge_iff_le, gt_iff_lt] at h6
        all_goals (
          refine HC_skip ?_
          refine HQ_then ?_
          refine hK2 _ _ _ _ ?_; clear hK2 K2
          refine HC_seq fun K8 hK8 => ?_
          refine HC_region ?_
          all_goals exfalso; omega
          all_goals refine HL_r rfl rfl rfl rfl (R_assign rfl) ?_
          all_goals refine HL_nil ?_
          all_goals (
            refine HQ_then ?_
            refine hK8 _ _ _ _ ?_; clear hK8 K8
            refine HC_seq fun K9 hK9 => ?_
            refine HC_region ?_
            all_goals refine HL_r rfl rfl rfl rfl (R_move rfl) ?_
            all_goals refine HL_r rfl rfl rfl rfl (R_move rfl) ?_
            all_goals refine HL_r rfl rfl rfl rfl (R_move rfl) ?_
            all_goals first
              | (refine HL_r rfl rfl rfl rfl (R_pure rfl rfl rfl) ?_; refine HL_wrap_i64 (by omega) (by omega) ?_)
              | (refine HL_r rfl rfl rfl rfl (R_pure rfl rfl rfl) ?_)
            all_goals first
              | (refine HL_r rfl rfl rfl rfl (R_pure rfl rfl rfl) ?_; refine HL_wrap_u8 (by omega) (by omega) ?_)
              | (refine HL_r rfl rfl rfl rfl (R_pure rfl rfl rfl) ?_)
            all_goals refine HL_r rfl rfl rfl rfl (R_indexS (j := 0) rfl rfl rfl rfl rfl (by first | decide | omega) (by first | (simp only [Nat.zero_add, Nat.reduceAdd, Nat.reduceMul, Nat.zero_mul, Nat.mul_one, Nat.add_zero]; exact rfl) | exact rfl)) ?_
            all_goals refine HL_store (k := 0) rfl rfl rfl rfl rfl rfl rfl rfl (by first | (simp only [List.setIfInBounds_toArray, List.set_cons_zero, List.set_cons_succ]; exact rfl) | exact rfl) (by first | (simp only [List.set_cons_zero, List.set_cons_succ]; exact rfl) | exact rfl) ?_
            all_goals refine HL_r rfl rfl rfl rfl (R_indexS (j := 19) rfl rfl rfl rfl rfl (by first | decide | omega) (by first | (simp only [Nat.zero_add, Nat.reduceAdd, Nat.reduceMul, Nat.zero_mul, Nat.mul_one, Nat.add_zero]; exact rfl) | exact rfl)) ?_
            all_goals refine HL_store (k := 0) rfl rfl rfl rfl rfl rfl rfl rfl (by first | (simp only [List.setIfInBounds_toArray, List.set_cons_zero, List.set_cons_succ]; exact rfl) | exact rfl) (by first | (simp only [List.set_cons_zero, List.set_cons_succ]; exact rfl) | exact rfl) ?_
            all_goals refine HL_nil ?_
            all_goals (
              refine HQ_then ?_
              refine hK9 _ _ _ _ ?_; clear hK9 K9
              refine HC_seq fun K10 hK10 => ?_
              refine HC_region ?_
              all_goals refine HL_r rfl rfl rfl rfl (R_move rfl) ?_
              all_goals refine HL_r rfl rfl rfl rfl (R_pure rfl rfl rfl) ?_
              all_goals refine HL_r rfl rfl rfl rfl (R_assign rfl) ?_
              all_goals refine HL_nil ?_
              all_goals (
                refine HQ_then ?_
                refine hK10 _ _ _ _ ?_; clear hK10 K10
                refine HC_ret ?_
                refine HQ_post rfl rfl (.cons (res_tmp rfl) .nil) (fun w1 hs1 => ?_)
                first | exact ⟨rfl, hs1.keep⟩ | (exfalso; omega)
                skip)
              skip)
            skip)
          skip)
      skip)
    skip)
theorem P_Addr (f : Int) : Pure Try.prog 8 [.int .i64 f].toArray (strV (addrE f)) := by
  by_cases h0 : f = 0
  · subst h0; exact P_Addr0
  · by_cases h1 : f = 1
    · subst h1; exact P_Addr1
    · have h : f < 0 ∨ f > 1 := by omega
      have e : addrE f = [] := by unfold addrE; rw [if_pos h]
      rw [e]; exact P_AddrN h
end Go.Proofs.Ytnkmbkndpoghdaa
