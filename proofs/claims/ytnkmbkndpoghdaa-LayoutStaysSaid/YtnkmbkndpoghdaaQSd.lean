import Derived.Test.YtnkmbkndpoghdaaQSc
namespace Go.Proofs.Ytnkmbkndpoghdaa
set_option linter.all false
open Go.SL Go.RowKit Go.Shelf
def cdC (p : Int × BS) : List Value := [.int .i64 p.1, strV p.2]
theorem cdC_len (p : Int × BS) : (cdC p).length = 2 := rfl
def codes0 : List (Int × BS) := [(0, cOne), (1, cTwo), (3, cThree), (5, cFive)]
def codes1 : List (Int × BS) := [(2, cFee)]
def foldC (f : Int) : List (Int × BS) → BS × Bool → BS × Bool
  | [], acc => acc
  | p :: l, acc => foldC f l (if f ≥ p.1 then (p.2, true) else acc)
theorem foldC_codes {f : Int} (h : Forked f) : foldC f codes0 ([], false) = codeE f 0 ∧ foldC f codes1 ([], false) = codeE f 1 := by
  rcases forked_cases h with rfl | rfl | rfl | rfl | rfl | rfl <;> exact ⟨by decide +kernel, by decide +kernel⟩
theorem foldC_snoc {f : Int} {p : Int × BS} : ∀ (l : List (Int × BS)) (acc : BS × Bool), foldC f (l ++ [p]) acc = if f ≥ p.1 then (p.2, true) else foldC f l acc
  | [], acc => rfl
  | q :: l, acc => by rw [List.cons_append, foldC, foldC, foldC_snoc l]
theorem foldC_take {f : Int} {l : List (Int × BS)} {i : Nat} {p : Int × BS} (h : l[i]? = some p) : foldC f (l.take (i + 1)) ([], false) = if f ≥ p.1 then (p.2, true) else foldC f (l.take i) ([], false) := by
  obtain ⟨h1, h2⟩ := List.getElem?_eq_some_iff.1 h
  rw [List.take_succ_eq_append_getElem h1, h2, foldC_snoc]
set_option maxRecDepth 10000 in
theorem E_codes : PureE (α := Nat × Nat) Try.prog 38 [].toArray (fun p => .agg #[.slice (some ⟨p.1, 0, none⟩) 4 4, .slice (some ⟨p.2, 0, none⟩) 1 1]) (fun p => [(p.2, .cells (codes1.flatMap cdC).toArray 85 (0, 0)), (p.1, .cells (codes0.flatMap cdC).toArray 85 (0, 0))]) := by
  refine pureE_of_HC Try.func38 rfl rfl fun w => ?_
  refine HC_seq fun K1 hK1 => ?_
  refine HC_region ?_
  all_goals refine HL_alloc (cs := #[_, _]) rfl rfl rfl rfl fun r1 => ?_
  all_goals refine HL_nil ?_
  all_goals (
    refine HQ_then ?_
    refine hK1 _ _ _ _ ?_; clear hK1 K1
    refine HC_seq fun K2 hK2 => ?_
    refine HC_region ?_
    all_goals refine HL_r rfl rfl rfl rfl (R_build (r := [_, _]) rfl rfl) ?_
    all_goals refine HL_r rfl rfl rfl rfl (R_build (r := [_, _]) rfl rfl) ?_
    all_goals refine HL_r rfl rfl rfl rfl (R_build (r := [_, _]) rfl rfl) ?_
    all_goals refine HL_r rfl rfl rfl rfl (R_build (r := [_, _]) rfl rfl) ?_
    all_goals refine HL_buildSlice (vs := [_, _, _, _]) (zs := [_, _, _, _, _, _, _, _]) (r := [_, _, _, _, _, _, _, _]) rfl rfl rfl rfl rfl rfl rfl rfl rfl (by rw [made_list]; exact rfl) rfl fun r2 => ?_
    all_goals refine HL_r rfl rfl rfl rfl (R_build (r := [_, _]) rfl rfl) ?_
    all_goals refine HL_buildSlice (vs := [_]) (zs := [_, _]) (r := [_, _]) rfl rfl rfl rfl rfl rfl rfl rfl rfl (by rw [made_list]; exact rfl) rfl fun r3 => ?_
    all_goals refine HL_r rfl rfl rfl rfl (R_build (r := [_, _]) rfl rfl) ?_
    all_goals (refine HL_storeA (k := 2) (n := 2) (cs' := #[_, _]) (vs := #[_, _]) rfl rfl rfl rfl rfl rfl rfl (by exact Nat.le_of_ble_eq_true rfl) rfl (by first | (simp only [List.set_cons_zero, List.set_cons_succ]; exact rfl) | exact rfl) ?_)
    all_goals refine HL_nil ?_
    all_goals (
      refine HQ_then ?_
      refine hK2 _ _ _ _ ?_; clear hK2 K2
      refine HC_ret ?_
      first
        | refine HQ_post rfl rfl (.cons (res_cellA (vs := [_, _]) rfl (known_L (k := 0) rfl) rfl rfl) .nil) (fun w1 hs1 => ?_)
        | refine HQ_post rfl rfl (.cons (res_cellA (vs := [_, _]) rfl (known_L (k := 1) rfl) rfl rfl) .nil) (fun w1 hs1 => ?_)
        | refine HQ_post rfl rfl (.cons (res_cellA (vs := [_, _]) rfl (known_L (k := 2) rfl) rfl rfl) .nil) (fun w1 hs1 => ?_)
      exact ⟨(r2, r3), rfl, hs1.weakL (.cons_cons _ (.cons_cons _ (List.nil_sublist _)))⟩
      skip)
    skip)
set_option maxRecDepth 10000 in
theorem P_of0 {f : Int} (hf : Forked f) : Pure Try.prog 19 [.int .i64 f, .int .i64 0].toArray (.tuple #[strV (codeE f 0).1, .bool (codeE f 0).2]) := by
  refine pure_of_HC Try.func19 rfl rfl fun w => ?_
  refine HC_seq fun K1 hK1 => ?_
  refine HC_region ?_
  all_goals refine HL_r rfl rfl rfl rfl (R_assign rfl) ?_
  all_goals refine HL_r rfl rfl rfl rfl (R_assign rfl) ?_
  all_goals refine HL_nil ?_
  all_goals (
    refine HQ_then ?_
    refine hK1 _ _ _ _ ?_; clear hK1 K1
    refine HC_seq fun K2 hK2 => ?_
    refine HC_region ?_
    all_goals refine HL_r rfl rfl rfl rfl (R_assign rfl) ?_
    all_goals refine HL_r rfl rfl rfl rfl (R_assign rfl) ?_
    all_goals refine HL_nil ?_
    all_goals (
      refine HQ_then ?_
      refine hK2 _ _ _ _ ?_; clear hK2 K2
      refine HC_seq fun K3 hK3 => ?_
      refine HC_seq fun K4 hK4 => ?_
      refine HC_region ?_
      all_goals refine HL_callPE rfl rfl rfl (enters_of Try.func38 (by kernel_rfl) rfl) E_codes fun pp => ?_
      all_goals obtain ⟨p1, p2⟩ := pp
      all_goals change HL _ _ _ [(p2, _), (p1, _)] _ _ _ _
      all_goals refine HL_r rfl rfl rfl rfl (R_move rfl) ?_
      all_goals refine HL_r rfl rfl rfl rfl (R_indexV (j := 0) rfl rfl rfl rfl rfl rfl (by decide) rfl) ?_
      all_goals (refine HL_r rfl rfl rfl rfl (R_lenSl rfl rfl) ?_)
      all_goals refine HL_r rfl rfl rfl rfl (R_move rfl) ?_
      all_goals refine HL_nil ?_
      all_goals (
        refine HQ_then ?_
        refine hK4 _ _ _ _ ?_; clear hK4 K4
        refine HC_block ?_
        refine HC_loop (σ := Nat) (fun i => i ≤ 4) (fun i => [(0, .int .i64 f), (6, strV (foldC f (codes0.take i) ([], false)).1), (7, .bool (foldC f (codes0.take i) ([], false)).2), (12, .slice (some ⟨p1, 0, none⟩) 4 4), (13, .int .i64 4), (14, .int .i64 (i : Int))]) (fun _ => [(p2, .cells (codes1.flatMap cdC).toArray 85 (0, 0)), (p1, .cells (codes0.flatMap cdC).toArray 85 (0, 0))]) (fun _ _ _ => True) (fun i => 4 - i) 0 (Nat.zero_le _) (.cons rfl (.cons rfl (.cons rfl (.cons rfl (.cons rfl (.cons rfl .nil)))))) (List.Sublist.refl _) (fun _ _ h => h) ?_
        intro i hi1
        refine HC_seq fun K5 hK5 => ?_
        refine HC_region ?_
        all_goals refine HL_r rfl rfl rfl rfl (R_pure rfl rfl rfl) ?_
        all_goals refine HL_nil ?_
        all_goals (
          refine HQ_then ?_
          refine hK5 _ _ _ _ ?_; clear hK5 K5
          refine HC_seq fun K6 hK6 => ?_
          refine HC_cond rfl (fun h7 => ?_) (fun h7 => ?_)
          · try exact Bool.noConfusion h7
            all_goals try simp only [decide_eq_true_eq, decide_eq_false_iff_not, beq_iff_eq, beq_eq_false_iff_ne, bne_iff_ne, bne_eq_false_iff_eq, Bool.not_eq_true', Bool.not_eq_false', ne_eq, Int.not_lt, Int.not_le, ge_iff_le, gt_iff_lt] at h7
            all_goals (
              refine HC_skip ?_
              refine HQ_then ?_
              refine hK6 _ _ _ _ ?_; clear hK6 K6
              refine HC_seq fun K8 hK8 => ?_
              refine HC_block ?_
              refine HC_seq fun K9 hK9 => ?_
              obtain ⟨p, hp, -⟩ := getI (l := codes0) (show i < 4 by omega)
              refine HC_region ?_
              all_goals refine HL_r rfl rfl rfl rfl (R_indexS (j := i) (m := 2) (off' := i * 2) rfl rfl rfl rfl rfl (by omega) (by omega)) ?_
              all_goals refine HL_r rfl rfl rfl rfl (R_loadA (n := 2) (vs := cdC p) rfl (known_L (k := 1) rfl) rfl rfl (cat_get cdC_len hp) rfl) ?_
              all_goals refine HL_alloc (cs := #[_, _]) rfl rfl rfl rfl fun r1 => ?_
              all_goals (refine HL_storeA (k := 0) (n := 2) (cs' := #[_, _]) (vs := #[_, _]) rfl rfl rfl rfl rfl rfl rfl (by exact Nat.le_of_ble_eq_true rfl) rfl (by first | (simp only [List.set_cons_zero, List.set_cons_succ]; exact rfl) | exact rfl) ?_)
              all_goals refine HL_nil ?_
              all_goals (
                refine HQ_then ?_
                refine hK9 _ _ _ _ ?_; clear hK9 K9
                refine HC_seq fun K10 hK10 => ?_
                refine HC_region ?_
                all_goals refine HL_r rfl rfl rfl rfl (R_move rfl) ?_
                all_goals refine HL_r rfl rfl rfl rfl (R_fieldAddr rfl rfl (by first | (simp only [Nat.zero_add, Nat.reduceAdd, Nat.reduceMul, Nat.zero_mul, Nat.mul_one, Nat.add_zero]; exact rfl) | exact rfl)) ?_
                all_goals (refine HL_r rfl rfl rfl rfl (R_load rfl (known_L (k := 0) rfl) rfl rfl) ?_)
                all_goals refine HL_r rfl rfl rfl rfl (R_pure rfl rfl rfl) ?_
                all_goals refine HL_nil ?_
                all_goals (
                  refine HQ_then ?_
                  refine hK10 _ _ _ _ ?_; clear hK10 K10
                  refine HC_cond rfl (fun h11 => ?_) (fun h11 => ?_)
                  · try exact Bool.noConfusion h11
                    all_goals try simp only [decide_eq_true_eq, decide_eq_false_iff_not, beq_iff_eq, beq_eq_false_iff_ne, bne_iff_ne, bne_eq_false_iff_eq, Bool.not_eq_true', Bool.not_eq_false', ne_eq, Int.not_lt, Int.not_le, ge_iff_le, gt_iff_lt] at h11
                    all_goals (
                      refine HC_region ?_
                      all_goals refine HL_r rfl rfl rfl rfl (R_fieldAddr rfl rfl (by first | (simp only [Nat.zero_add, Nat.reduceAdd, Nat.reduceMul, Nat.zero_mul, Nat.mul_one, Nat.add_zero]; exact rfl) | exact rfl)) ?_
                      all_goals (refine HL_r rfl rfl rfl rfl (R_load rfl (known_L (k := 0) rfl) rfl rfl) ?_)
                      all_goals refine HL_r rfl rfl rfl rfl (R_assign rfl) ?_
                      all_goals refine HL_r rfl rfl rfl rfl (R_assign rfl) ?_
                      all_goals refine HL_nil ?_
                      all_goals (
                        refine HQ_blockN ?_
                        refine HQ_then ?_
                        refine hK8 _ _ _ _ ?_; clear hK8 K8
                        refine HC_region ?_
                        all_goals (refine HL_r rfl rfl rfl rfl (R_pure rfl rfl rfl) ?_; refine HL_wrap_i64 (by omega) (by omega) ?_)
                        all_goals refine HL_r rfl rfl rfl rfl (R_move rfl) ?_
                        all_goals refine HL_nil ?_
                        all_goals (
                          refine HQ_then ?_
                          first
                            | exact HQ_again (i + 1) (by omega) (by omega) (.cons rfl (.cons (by rw [foldC_take hp, if_pos (by omega)]; rfl) (.cons (by rw [foldC_take hp, if_pos (by omega)]; rfl) (.cons rfl (.cons rfl (.cons rfl .nil)))))) (List.sublist_cons_self _ _) (fun _ _ h => h)
                            | exact HQ_again (i + 1) (by omega) (by omega) (.cons rfl (.cons (by rw [foldC_take hp, if_neg (by omega)]; rfl) (.cons (by rw [foldC_take hp, if_neg (by omega)]; rfl) (.cons rfl (.cons rfl (.cons rfl .nil)))))) (List.sublist_cons_self _ _) (fun _ _ h => h)
                          skip)
                        skip)
                      skip)
                  · try exact Bool.noConfusion h11
                    all_goals try simp only [decide_eq_true_eq, decide_eq_false_iff_not, beq_iff_eq, beq_eq_false_iff_ne, bne_iff_ne, bne_eq_false_iff_eq, Bool.not_eq_true', Bool.not_eq_false', ne_eq, Int.not_lt, Int.not_le, ge_iff_le, gt_iff_lt] at h11
                    all_goals (
                      refine HC_skip ?_
                      refine HQ_blockN ?_
                      refine HQ_then ?_
                      refine hK8 _ _ _ _ ?_; clear hK8 K8
                      refine HC_region ?_
                      all_goals (refine HL_r rfl rfl rfl rfl (R_pure rfl rfl rfl) ?_; refine HL_wrap_i64 (by omega) (by omega) ?_)
                      all_goals refine HL_r rfl rfl rfl rfl (R_move rfl) ?_
                      all_goals refine HL_nil ?_
                      all_goals (
                        refine HQ_then ?_
                        first
                          | exact HQ_again (i + 1) (by omega) (by omega) (.cons rfl (.cons (by rw [foldC_take hp, if_pos (by omega)]; rfl) (.cons (by rw [foldC_take hp, if_pos (by omega)]; rfl) (.cons rfl (.cons rfl (.cons rfl .nil)))))) (List.sublist_cons_self _ _) (fun _ _ h => h)
                          | exact HQ_again (i + 1) (by omega) (by omega) (.cons rfl (.cons (by rw [foldC_take hp, if_neg (by omega)]; rfl) (.cons (by rw [foldC_take hp, if_neg (by omega)]; rfl) (.cons rfl (.cons rfl (.cons rfl .nil)))))) (List.sublist_cons_self _ _) (fun _ _ h => h)
                        skip)
                      skip)
                  skip)
                skip)
              skip)
          · try exact Bool.noConfusion h7
            all_goals try simp only [decide_eq_true_eq, decide_eq_false_iff_not, beq_iff_eq, beq_eq_false_iff_ne, bne_iff_ne, bne_eq_false_iff_eq, Bool.not_eq_true', Bool.not_eq_false', ne_eq, Int.not_lt, Int.not_le, ge_iff_le, gt_iff_lt] at h7
            all_goals (
              refine HC_exit ?_
              refine HQ_thenE ?_; clear hK6 K6
              refine HQ_thenE ?_
              refine HQ_blockE ?_
              refine HQ_then ?_
              refine hK3 _ _ _ _ ?_; clear hK3 K3
              refine HC_seq fun K12 hK12 => ?_
              refine HC_region ?_
              all_goals refine HL_r rfl rfl rfl rfl (R_move rfl) ?_
              all_goals refine HL_r rfl rfl rfl rfl (R_move rfl) ?_
              all_goals refine HL_r rfl rfl rfl rfl (R_assign rfl) ?_
              all_goals refine HL_r rfl rfl rfl rfl (R_assign rfl) ?_
              all_goals refine HL_nil ?_
              all_goals (
                refine HQ_then ?_
                refine hK12 _ _ _ _ ?_; clear hK12 K12
                refine HC_ret ?_
                refine HQ_post rfl rfl (.cons (res_tmp rfl) (.cons (res_tmp rfl) .nil)) (fun w1 hs1 => ?_)
                refine ⟨?_, hs1.keep⟩
                obtain rfl : i = 4 := by omega
                rw [← (foldC_codes hf).1]
                rfl
                skip)
              skip)
          skip)
        skip)
      skip)
    skip)
set_option maxRecDepth 10000 in
theorem P_of1 {f : Int} (hf : Forked f) : Pure Try.prog 19 [.int .i64 f, .int .i64 1].toArray (.tuple #[strV (codeE f 1).1, .bool (codeE f 1).2]) := by
  refine pure_of_HC Try.func19 rfl rfl fun w => ?_
  refine HC_seq fun K1 hK1 => ?_
  refine HC_region ?_
  all_goals refine HL_r rfl rfl rfl rfl (R_assign rfl) ?_
  all_goals refine HL_r rfl rfl rfl rfl (R_assign rfl) ?_
  all_goals refine HL_nil ?_
  all_goals (
    refine HQ_then ?_
    refine hK1 _ _ _ _ ?_; clear hK1 K1
    refine HC_seq fun K2 hK2 => ?_
    refine HC_region ?_
    all_goals refine HL_r rfl rfl rfl rfl (R_assign rfl) ?_
    all_goals refine HL_r rfl rfl rfl rfl (R_assign rfl) ?_
    all_goals refine HL_nil ?_
    all_goals (
      refine HQ_then ?_
      refine hK2 _ _ _ _ ?_; clear hK2 K2
      refine HC_seq fun K3 hK3 => ?_
      refine HC_seq fun K4 hK4 => ?_
      refine HC_region ?_
      all_goals refine HL_callPE rfl rfl rfl (enters_of Try.func38 (by kernel_rfl) rfl) E_codes fun pp => ?_
      all_goals obtain ⟨p1, p2⟩ := pp
      all_goals change HL _ _ _ [(p2, _), (p1, _)] _ _ _ _
      all_goals refine HL_r rfl rfl rfl rfl (R_move rfl) ?_
      all_goals refine HL_r rfl rfl rfl rfl (R_indexV (j := 1) rfl rfl rfl rfl rfl rfl (by decide) rfl) ?_
      all_goals (refine HL_r rfl rfl rfl rfl (R_lenSl rfl rfl) ?_)
      all_goals refine HL_r rfl rfl rfl rfl (R_move rfl) ?_
      all_goals refine HL_nil ?_
      all_goals (
        refine HQ_then ?_
        refine hK4 _ _ _ _ ?_; clear hK4 K4
        refine HC_block ?_
        refine HC_loop (σ := Nat) (fun i => i ≤ 1) (fun i => [(0, .int .i64 f), (6, strV (foldC f (codes1.take i) ([], false)).1), (7, .bool (foldC f (codes1.take i) ([], false)).2), (12, .slice (some ⟨p2, 0, none⟩) 1 1), (13, .int .i64 1), (14, .int .i64 (i : Int))]) (fun _ => [(p2, .cells (codes1.flatMap cdC).toArray 85 (0, 0)), (p1, .cells (codes0.flatMap cdC).toArray 85 (0, 0))]) (fun _ _ _ => True) (fun i => 1 - i) 0 (Nat.zero_le _) (.cons rfl (.cons rfl (.cons rfl (.cons rfl (.cons rfl (.cons rfl .nil)))))) (List.Sublist.refl _) (fun _ _ h => h) ?_
        intro i hi1
        refine HC_seq fun K5 hK5 => ?_
        refine HC_region ?_
        all_goals refine HL_r rfl rfl rfl rfl (R_pure rfl rfl rfl) ?_
        all_goals refine HL_nil ?_
        all_goals (
          refine HQ_then ?_
          refine hK5 _ _ _ _ ?_; clear hK5 K5
          refine HC_seq fun K6 hK6 => ?_
          refine HC_cond rfl (fun h7 => ?_) (fun h7 => ?_)
          · try exact Bool.noConfusion h7
            all_goals try simp only [decide_eq_true_eq, decide_eq_false_iff_not, beq_iff_eq, beq_eq_false_iff_ne, bne_iff_ne, bne_eq_false_iff_eq, Bool.not_eq_true', Bool.not_eq_false', ne_eq, Int.not_lt, Int.not_le, ge_iff_le, gt_iff_lt] at h7
            all_goals (
              refine HC_skip ?_
              refine HQ_then ?_
              refine hK6 _ _ _ _ ?_; clear hK6 K6
              refine HC_seq fun K8 hK8 => ?_
              refine HC_block ?_
              refine HC_seq fun K9 hK9 => ?_
              obtain ⟨p, hp, -⟩ := getI (l := codes1) (show i < 1 by omega)
              refine HC_region ?_
              all_goals refine HL_r rfl rfl rfl rfl (R_indexS (j := i) (m := 2) (off' := i * 2) rfl rfl rfl rfl rfl (by omega) (by omega)) ?_
              all_goals refine HL_r rfl rfl rfl rfl (R_loadA (n := 2) (vs := cdC p) rfl (known_L (k := 0) rfl) rfl rfl (cat_get cdC_len hp) rfl) ?_
              all_goals refine HL_alloc (cs := #[_, _]) rfl rfl rfl rfl fun r1 => ?_
              all_goals (refine HL_storeA (k := 0) (n := 2) (cs' := #[_, _]) (vs := #[_, _]) rfl rfl rfl rfl rfl rfl rfl (by exact Nat.le_of_ble_eq_true rfl) rfl (by first | (simp only [List.set_cons_zero, List.set_cons_succ]; exact rfl) | exact rfl) ?_)
              all_goals refine HL_nil ?_
              all_goals (
                refine HQ_then ?_
                refine hK9 _ _ _ _ ?_; clear hK9 K9
                refine HC_seq fun K10 hK10 => ?_
                refine HC_region ?_
                all_goals refine HL_r rfl rfl rfl rfl (R_move rfl) ?_
                all_goals refine HL_r rfl rfl rfl rfl (R_fieldAddr rfl rfl (by first | (simp only [Nat.zero_add, Nat.reduceAdd, Nat.reduceMul, Nat.zero_mul, Nat.mul_one, Nat.add_zero]; exact rfl) | exact rfl)) ?_
                all_goals (refine HL_r rfl rfl rfl rfl (R_load rfl (known_L (k := 0) rfl) rfl rfl) ?_)
                all_goals refine HL_r rfl rfl rfl rfl (R_pure rfl rfl rfl) ?_
                all_goals refine HL_nil ?_
                all_goals (
                  refine HQ_then ?_
                  refine hK10 _ _ _ _ ?_; clear hK10 K10
                  refine HC_cond rfl (fun h11 => ?_) (fun h11 => ?_)
                  · try exact Bool.noConfusion h11
                    all_goals try simp only [decide_eq_true_eq, decide_eq_false_iff_not, beq_iff_eq, beq_eq_false_iff_ne, bne_iff_ne, bne_eq_false_iff_eq, Bool.not_eq_true', Bool.not_eq_false', ne_eq, Int.not_lt, Int.not_le, ge_iff_le, gt_iff_lt] at h11
                    all_goals (
                      refine HC_region ?_
                      all_goals refine HL_r rfl rfl rfl rfl (R_fieldAddr rfl rfl (by first | (simp only [Nat.zero_add, Nat.reduceAdd, Nat.reduceMul, Nat.zero_mul, Nat.mul_one, Nat.add_zero]; exact rfl) | exact rfl)) ?_
                      all_goals (refine HL_r rfl rfl rfl rfl (R_load rfl (known_L (k := 0) rfl) rfl rfl) ?_)
                      all_goals refine HL_r rfl rfl rfl rfl (R_assign rfl) ?_
                      all_goals refine HL_r rfl rfl rfl rfl (R_assign rfl) ?_
                      all_goals refine HL_nil ?_
                      all_goals (
                        refine HQ_blockN ?_
                        refine HQ_then ?_
                        refine hK8 _ _ _ _ ?_; clear hK8 K8
                        refine HC_region ?_
                        all_goals (refine HL_r rfl rfl rfl rfl (R_pure rfl rfl rfl) ?_; refine HL_wrap_i64 (by omega) (by omega) ?_)
                        all_goals refine HL_r rfl rfl rfl rfl (R_move rfl) ?_
                        all_goals refine HL_nil ?_
                        all_goals (
                          refine HQ_then ?_
                          first
                            | exact HQ_again (i + 1) (by omega) (by omega) (.cons rfl (.cons (by rw [foldC_take hp, if_pos (by omega)]; rfl) (.cons (by rw [foldC_take hp, if_pos (by omega)]; rfl) (.cons rfl (.cons rfl (.cons rfl .nil)))))) (List.sublist_cons_self _ _) (fun _ _ h => h)
                            | exact HQ_again (i + 1) (by omega) (by omega) (.cons rfl (.cons (by rw [foldC_take hp, if_neg (by omega)]; rfl) (.cons (by rw [foldC_take hp, if_neg (by omega)]; rfl) (.cons rfl (.cons rfl (.cons rfl .nil)))))) (List.sublist_cons_self _ _) (fun _ _ h => h)
                          skip)
                        skip)
                      skip)
                  · try exact Bool.noConfusion h11
                    all_goals try simp only [decide_eq_true_eq, decide_eq_false_iff_not, beq_iff_eq, beq_eq_false_iff_ne, bne_iff_ne, bne_eq_false_iff_eq, Bool.not_eq_true', Bool.not_eq_false', ne_eq, Int.not_lt, Int.not_le, ge_iff_le, gt_iff_lt] at h11
                    all_goals (
                      refine HC_skip ?_
                      refine HQ_blockN ?_
                      refine HQ_then ?_
                      refine hK8 _ _ _ _ ?_; clear hK8 K8
                      refine HC_region ?_
                      all_goals (refine HL_r rfl rfl rfl rfl (R_pure rfl rfl rfl) ?_; refine HL_wrap_i64 (by omega) (by omega) ?_)
                      all_goals refine HL_r rfl rfl rfl rfl (R_move rfl) ?_
                      all_goals refine HL_nil ?_
                      all_goals (
                        refine HQ_then ?_
                        first
                          | exact HQ_again (i + 1) (by omega) (by omega) (.cons rfl (.cons (by rw [foldC_take hp, if_pos (by omega)]; rfl) (.cons (by rw [foldC_take hp, if_pos (by omega)]; rfl) (.cons rfl (.cons rfl (.cons rfl .nil)))))) (List.sublist_cons_self _ _) (fun _ _ h => h)
                          | exact HQ_again (i + 1) (by omega) (by omega) (.cons rfl (.cons (by rw [foldC_take hp, if_neg (by omega)]; rfl) (.cons (by rw [foldC_take hp, if_neg (by omega)]; rfl) (.cons rfl (.cons rfl (.cons rfl .nil)))))) (List.sublist_cons_self _ _) (fun _ _ h => h)
                        skip)
                      skip)
                  skip)
                skip)
              skip)
          · try exact Bool.noConfusion h7
            all_goals try simp only [decide_eq_true_eq, decide_eq_false_iff_not, beq_iff_eq, beq_eq_false_iff_ne, bne_iff_ne, bne_eq_false_iff_eq, Bool.not_eq_true', Bool.not_eq_false', ne_eq, Int.not_lt, Int.not_le, ge_iff_le, gt_iff_lt] at h7
            all_goals (
              refine HC_exit ?_
              refine HQ_thenE ?_; clear hK6 K6
              refine HQ_thenE ?_
              refine HQ_blockE ?_
              refine HQ_then ?_
              refine hK3 _ _ _ _ ?_; clear hK3 K3
              refine HC_seq fun K12 hK12 => ?_
              refine HC_region ?_
              all_goals refine HL_r rfl rfl rfl rfl (R_move rfl) ?_
              all_goals refine HL_r rfl rfl rfl rfl (R_move rfl) ?_
              all_goals refine HL_r rfl rfl rfl rfl (R_assign rfl) ?_
              all_goals refine HL_r rfl rfl rfl rfl (R_assign rfl) ?_
              all_goals refine HL_nil ?_
              all_goals (
                refine HQ_then ?_
                refine hK12 _ _ _ _ ?_; clear hK12 K12
                refine HC_ret ?_
                refine HQ_post rfl rfl (.cons (res_tmp rfl) (.cons (res_tmp rfl) .nil)) (fun w1 hs1 => ?_)
                refine ⟨?_, hs1.keep⟩
                obtain rfl : i = 1 := by omega
                rw [← (foldC_codes hf).2]
                rfl
                skip)
              skip)
          skip)
        skip)
      skip)
    skip)
set_option maxRecDepth 10000 in
theorem P_Code (f g : Int) : Pure Try.prog 12 [.int .i64 f, .int .i64 g].toArray (.tuple #[strV (codeR f g).1, .bool (codeR f g).2.1, .int .i64 (codeR f g).2.2]) := by
  by_cases hf : Forked f
  · by_cases hg : g = 0 ∨ g = 1
    · have hE : Pure Try.prog 19 [.int .i64 f, .int .i64 g].toArray (.tuple #[strV (codeE f g).1, .bool (codeE f g).2]) := by
        rcases hg with rfl | rfl
        · exact P_of0 hf
        · exact P_of1 hf
      have e : codeR f g = ((codeE f g).1, (codeE f g).2, 0) := by unfold codeR; rw [if_neg (by simpa using hf), if_neg (by omega)]
      rw [e]
      refine pure_of_HC Try.func12 rfl rfl fun w => ?_
      refine HC_seq fun K1 hK1 => ?_
      refine HC_region ?_
      all_goals refine HL_r rfl rfl rfl rfl (R_assign rfl) ?_
      all_goals refine HL_r rfl rfl rfl rfl (R_assign rfl) ?_
      all_goals refine HL_r rfl rfl rfl rfl (R_assign rfl) ?_
      all_goals refine HL_nil ?_
      all_goals (
        refine HQ_then ?_
        refine hK1 _ _ _ _ ?_; clear hK1 K1
        refine HC_seq fun K2 hK2 => ?_
        refine HC_block ?_
        refine HC_seq fun K3 hK3 => ?_
        refine HC_region ?_
        all_goals refine HL_r rfl rfl rfl rfl (R_move rfl) ?_
        all_goals refine HL_callP rfl rfl rfl (enters_of Try.func30 (by kernel_rfl) rfl) (P_forked f) ?_
        all_goals refine HL_r rfl rfl rfl rfl (R_pure rfl rfl rfl) ?_
        all_goals refine HL_r rfl rfl rfl rfl (R_assign rfl) ?_
        all_goals refine HL_nil ?_
        all_goals (
          refine HQ_then ?_
          refine hK3 _ _ _ _ ?_; clear hK3 K3
          refine HC_cond rfl (fun h4 => ?_) (fun h4 => ?_)
          · try exact Bool.noConfusion h4
            all_goals try simp only [decide_eq_true_eq, decide_eq_false_iff_not, beq_iff_eq, beq_eq_false_iff_ne, bne_iff_ne, bne_eq_false_iff_eq, Bool.not_eq_true', Bool.not_eq_false', ne_eq, Int.not_lt, Int.not_le, ge_iff_le, gt_iff_lt] at h4
            all_goals (
              refine HC_seq fun K5 hK5 => ?_
              refine HC_region ?_
              all_goals refine HL_r rfl rfl rfl rfl (R_assign rfl) ?_
              all_goals refine HL_r rfl rfl rfl rfl (R_assign rfl) ?_
              all_goals refine HL_r rfl rfl rfl rfl (R_assign rfl) ?_
              all_goals refine HL_nil ?_
              all_goals (
                refine HQ_then ?_
                refine hK5 _ _ _ _ ?_; clear hK5 K5
                refine HC_ret ?_
                refine HQ_blockR ?_
                refine HQ_thenR ?_; clear hK2 K2
                refine HQ_post rfl rfl (.cons (res_tmp rfl) (.cons (res_tmp rfl) (.cons (res_tmp rfl) .nil))) (fun w1 hs1 => ?_)
                first
                  | exact ⟨rfl, hs1.keep⟩
                  | (exfalso; first | contradiction | omega | (simp_all; done) | (simp_all; omega))
                skip)
              skip)
          · try exact Bool.noConfusion h4
            all_goals try simp only [decide_eq_true_eq, decide_eq_false_iff_not, beq_iff_eq, beq_eq_false_iff_ne, bne_iff_ne, bne_eq_false_iff_eq, Bool.not_eq_true', Bool.not_eq_false', ne_eq, Int.not_lt, Int.not_le, ge_iff_le, gt_iff_lt] at h4
            all_goals (
              refine HC_seq fun K6 hK6 => ?_
              refine HC_region ?_
              all_goals refine HL_r rfl rfl rfl rfl (R_move rfl) ?_
              all_goals refine HL_r rfl rfl rfl rfl (R_pure rfl rfl rfl) ?_
              all_goals refine HL_r rfl rfl rfl rfl (R_move rfl) ?_
              all_goals (refine HL_case 16 rfl (fun hb7 => ?_) (fun hb7 => ?_) <;> (try simp only [decide_eq_true_eq, decide_eq_false_iff_not, beq_iff_eq, beq_eq_false_iff_ne, bne_iff_ne, bne_eq_false_iff_eq, Bool.not_eq_true', Bool.not_eq_false', ne_eq, Int.not_lt, Int.not_le, ge_iff_le, gt_iff_lt] at hb7) <;> first | (refine HL_r rfl rfl rfl rfl (R_move rfl) ?_) | (refine HL_skip rfl rfl rfl ?_))
              all_goals first
                | (refine HL_r rfl rfl rfl rfl (R_pure rfl rfl rfl) ?_)
                | (refine HL_skip rfl rfl rfl ?_)
              all_goals first
                | (refine HL_r rfl rfl rfl rfl (R_pickT rfl rfl) ?_)
                | (refine HL_r rfl rfl rfl rfl (R_pickF rfl rfl) ?_)
              all_goals refine HL_r rfl rfl rfl rfl (R_assign rfl) ?_
              all_goals refine HL_nil ?_
              all_goals (
                refine HQ_then ?_
                refine hK6 _ _ _ _ ?_; clear hK6 K6
                refine HC_cond rfl (fun h9 => ?_) (fun h9 => ?_)
                · try exact Bool.noConfusion h9
                  all_goals try simp only [decide_eq_true_eq, decide_eq_false_iff_not, beq_iff_eq, beq_eq_false_iff_ne, bne_iff_ne, bne_eq_false_iff_eq, Bool.not_eq_true', Bool.not_eq_false', ne_eq, Int.not_lt, Int.not_le, ge_iff_le, gt_iff_lt] at h9
                  all_goals (
                    refine HC_seq fun K10 hK10 => ?_
                    refine HC_region ?_
                    all_goals refine HL_r rfl rfl rfl rfl (R_assign rfl) ?_
                    all_goals refine HL_r rfl rfl rfl rfl (R_assign rfl) ?_
                    all_goals refine HL_r rfl rfl rfl rfl (R_assign rfl) ?_
                    all_goals refine HL_nil ?_
                    all_goals (
                      refine HQ_then ?_
                      refine hK10 _ _ _ _ ?_; clear hK10 K10
                      refine HC_ret ?_
                      refine HQ_blockR ?_
                      refine HQ_thenR ?_; clear hK2 K2
                      refine HQ_post rfl rfl (.cons (res_tmp rfl) (.cons (res_tmp rfl) (.cons (res_tmp rfl) .nil))) (fun w1 hs1 => ?_)
                      first
                        | exact ⟨rfl, hs1.keep⟩
                        | (exfalso; first | contradiction | omega | (simp_all; done) | (simp_all; omega))
                      skip)
                    skip)
                · try exact Bool.noConfusion h9
                  all_goals try simp only [decide_eq_true_eq, decide_eq_false_iff_not, beq_iff_eq, beq_eq_false_iff_ne, bne_iff_ne, bne_eq_false_iff_eq, Bool.not_eq_true', Bool.not_eq_false', ne_eq, Int.not_lt, Int.not_le, ge_iff_le, gt_iff_lt] at h9
                  all_goals (
                    refine HC_skip ?_
                    refine HQ_blockN ?_
                    refine HQ_then ?_
                    refine hK2 _ _ _ _ ?_; clear hK2 K2
                    refine HC_seq fun K11 hK11 => ?_
                    refine HC_region ?_
                    all_goals refine HL_r rfl rfl rfl rfl (R_move rfl) ?_
                    all_goals refine HL_r rfl rfl rfl rfl (R_move rfl) ?_
                    all_goals refine HL_callP rfl rfl rfl (enters_of Try.func19 (by kernel_rfl) rfl) hE ?_
                    all_goals refine HL_r rfl rfl rfl rfl (R_move rfl) ?_
                    all_goals refine HL_r rfl rfl rfl rfl (R_extract rfl rfl) ?_
                    all_goals refine HL_r rfl rfl rfl rfl (R_extract rfl rfl) ?_
                    all_goals refine HL_r rfl rfl rfl rfl (R_assign rfl) ?_
                    all_goals refine HL_r rfl rfl rfl rfl (R_assign rfl) ?_
                    all_goals refine HL_nil ?_
                    all_goals (
                      refine HQ_then ?_
                      refine hK11 _ _ _ _ ?_; clear hK11 K11
                      refine HC_seq fun K12 hK12 => ?_
                      refine HC_region ?_
                      all_goals refine HL_r rfl rfl rfl rfl (R_move rfl) ?_
                      all_goals refine HL_r rfl rfl rfl rfl (R_move rfl) ?_
                      all_goals refine HL_r rfl rfl rfl rfl (R_assign rfl) ?_
                      all_goals refine HL_r rfl rfl rfl rfl (R_assign rfl) ?_
                      all_goals refine HL_r rfl rfl rfl rfl (R_assign rfl) ?_
                      all_goals refine HL_nil ?_
                      all_goals (
                        refine HQ_then ?_
                        refine hK12 _ _ _ _ ?_; clear hK12 K12
                        refine HC_ret ?_
                        refine HQ_post rfl rfl (.cons (res_tmp rfl) (.cons (res_tmp rfl) (.cons (res_tmp rfl) .nil))) (fun w1 hs1 => ?_)
                        first
                          | exact ⟨rfl, hs1.keep⟩
                          | (exfalso; first | contradiction | omega | (simp_all; done) | (simp_all; omega))
                        skip)
                      skip)
                    skip)
                skip)
              skip)
          skip)
        skip)
    · have e : codeR f g = ([], false, 1) := by unfold codeR; rw [if_neg (by simpa using hf), if_pos (by omega)]
      rw [e]
      refine pure_of_HC Try.func12 rfl rfl fun w => ?_
      refine HC_seq fun K1 hK1 => ?_
      refine HC_region ?_
      all_goals refine HL_r rfl rfl rfl rfl (R_assign rfl) ?_
      all_goals refine HL_r rfl rfl rfl rfl (R_assign rfl) ?_
      all_goals refine HL_r rfl rfl rfl rfl (R_assign rfl) ?_
      all_goals refine HL_nil ?_
      all_goals (
        refine HQ_then ?_
        refine hK1 _ _ _ _ ?_; clear hK1 K1
        refine HC_seq fun K2 hK2 => ?_
        refine HC_block ?_
        refine HC_seq fun K3 hK3 => ?_
        refine HC_region ?_
        all_goals refine HL_r rfl rfl rfl rfl (R_move rfl) ?_
        all_goals refine HL_callP rfl rfl rfl (enters_of Try.func30 (by kernel_rfl) rfl) (P_forked f) ?_
        all_goals refine HL_r rfl rfl rfl rfl (R_pure rfl rfl rfl) ?_
        all_goals refine HL_r rfl rfl rfl rfl (R_assign rfl) ?_
        all_goals refine HL_nil ?_
        all_goals (
          refine HQ_then ?_
          refine hK3 _ _ _ _ ?_; clear hK3 K3
          refine HC_cond rfl (fun h4 => ?_) (fun h4 => ?_)
          · try exact Bool.noConfusion h4
            all_goals try simp only [decide_eq_true_eq, decide_eq_false_iff_not, beq_iff_eq, beq_eq_false_iff_ne, bne_iff_ne, bne_eq_false_iff_eq, Bool.not_eq_true', Bool.not_eq_false', ne_eq, Int.not_lt, Int.not_le, ge_iff_le, gt_iff_lt] at h4
            all_goals (
              refine HC_seq fun K5 hK5 => ?_
              refine HC_region ?_
              all_goals refine HL_r rfl rfl rfl rfl (R_assign rfl) ?_
              all_goals refine HL_r rfl rfl rfl rfl (R_assign rfl) ?_
              all_goals refine HL_r rfl rfl rfl rfl (R_assign rfl) ?_
              all_goals refine HL_nil ?_
              all_goals (
                refine HQ_then ?_
                refine hK5 _ _ _ _ ?_; clear hK5 K5
                refine HC_ret ?_
                refine HQ_blockR ?_
                refine HQ_thenR ?_; clear hK2 K2
                refine HQ_post rfl rfl (.cons (res_tmp rfl) (.cons (res_tmp rfl) (.cons (res_tmp rfl) .nil))) (fun w1 hs1 => ?_)
                first
                  | exact ⟨rfl, hs1.keep⟩
                  | (exfalso; first | contradiction | omega | (simp_all; done) | (simp_all; omega))
                skip)
              skip)
          · try exact Bool.noConfusion h4
            all_goals try simp only [decide_eq_true_eq, decide_eq_false_iff_not, beq_iff_eq, beq_eq_false_iff_ne, bne_iff_ne, bne_eq_false_iff_eq, Bool.not_eq_true', Bool.not_eq_false', ne_eq, Int.not_lt, Int.not_le, ge_iff_le, gt_iff_lt] at h4
            all_goals (
              refine HC_seq fun K6 hK6 => ?_
              refine HC_region ?_
              all_goals refine HL_r rfl rfl rfl rfl (R_move rfl) ?_
              all_goals refine HL_r rfl rfl rfl rfl (R_pure rfl rfl rfl) ?_
              all_goals refine HL_r rfl rfl rfl rfl (R_move rfl) ?_
              all_goals (refine HL_case 16 rfl (fun hb7 => ?_) (fun hb7 => ?_) <;> (try simp only [decide_eq_true_eq, decide_eq_false_iff_not, beq_iff_eq, beq_eq_false_iff_ne, bne_iff_ne, bne_eq_false_iff_eq, Bool.not_eq_true', Bool.not_eq_false', ne_eq, Int.not_lt, Int.not_le, ge_iff_le, gt_iff_lt] at hb7) <;> first | (refine HL_r rfl rfl rfl rfl (R_move rfl) ?_) | (refine HL_skip rfl rfl rfl ?_))
              all_goals first
                | (refine HL_r rfl rfl rfl rfl (R_pure rfl rfl rfl) ?_)
                | (refine HL_skip rfl rfl rfl ?_)
              all_goals first
                | (refine HL_r rfl rfl rfl rfl (R_pickT rfl rfl) ?_)
                | (refine HL_r rfl rfl rfl rfl (R_pickF rfl rfl) ?_)
              all_goals refine HL_r rfl rfl rfl rfl (R_assign rfl) ?_
              all_goals refine HL_nil ?_
              all_goals (
                refine HQ_then ?_
                refine hK6 _ _ _ _ ?_; clear hK6 K6
                refine HC_cond rfl (fun h9 => ?_) (fun h9 => ?_)
                · try exact Bool.noConfusion h9
                  all_goals try simp only [decide_eq_true_eq, decide_eq_false_iff_not, beq_iff_eq, beq_eq_false_iff_ne, bne_iff_ne, bne_eq_false_iff_eq, Bool.not_eq_true', Bool.not_eq_false', ne_eq, Int.not_lt, Int.not_le, ge_iff_le, gt_iff_lt] at h9
                  all_goals (
                    refine HC_seq fun K10 hK10 => ?_
                    refine HC_region ?_
                    all_goals refine HL_r rfl rfl rfl rfl (R_assign rfl) ?_
                    all_goals refine HL_r rfl rfl rfl rfl (R_assign rfl) ?_
                    all_goals refine HL_r rfl rfl rfl rfl (R_assign rfl) ?_
                    all_goals refine HL_nil ?_
                    all_goals (
                      refine HQ_then ?_
                      refine hK10 _ _ _ _ ?_; clear hK10 K10
                      refine HC_ret ?_
                      refine HQ_blockR ?_
                      refine HQ_thenR ?_; clear hK2 K2
                      refine HQ_post rfl rfl (.cons (res_tmp rfl) (.cons (res_tmp rfl) (.cons (res_tmp rfl) .nil))) (fun w1 hs1 => ?_)
                      first
                        | exact ⟨rfl, hs1.keep⟩
                        | (exfalso; first | contradiction | omega | (simp_all; done) | (simp_all; omega))
                      skip)
                    skip)
                · try exact Bool.noConfusion h9
                  all_goals try simp only [decide_eq_true_eq, decide_eq_false_iff_not, beq_iff_eq, beq_eq_false_iff_ne, bne_iff_ne, bne_eq_false_iff_eq, Bool.not_eq_true', Bool.not_eq_false', ne_eq, Int.not_lt, Int.not_le, ge_iff_le, gt_iff_lt] at h9
                  all_goals (
                    refine HC_skip ?_
                    refine HQ_blockN ?_
                    refine HQ_then ?_
                    refine hK2 _ _ _ _ ?_; clear hK2 K2
                    refine HC_seq fun K11 hK11 => ?_
                    refine HC_region ?_
                    all_goals refine HL_r rfl rfl rfl rfl (R_move rfl) ?_
                    all_goals refine HL_r rfl rfl rfl rfl (R_move rfl) ?_
                    all_goals exfalso; omega
                    all_goals refine HL_r rfl rfl rfl rfl (R_move rfl) ?_
                    all_goals refine HL_r rfl rfl rfl rfl (R_extract rfl rfl) ?_
                    all_goals refine HL_r rfl rfl rfl rfl (R_extract rfl rfl) ?_
                    all_goals refine HL_r rfl rfl rfl rfl (R_assign rfl) ?_
                    all_goals refine HL_r rfl rfl rfl rfl (R_assign rfl) ?_
                    all_goals refine HL_nil ?_
                    all_goals (
                      refine HQ_then ?_
                      refine hK11 _ _ _ _ ?_; clear hK11 K11
                      refine HC_seq fun K12 hK12 => ?_
                      refine HC_region ?_
                      all_goals refine HL_r rfl rfl rfl rfl (R_move rfl) ?_
                      all_goals refine HL_r rfl rfl rfl rfl (R_move rfl) ?_
                      all_goals refine HL_r rfl rfl rfl rfl (R_assign rfl) ?_
                      all_goals refine HL_r rfl rfl rfl rfl (R_assign rfl) ?_
                      all_goals refine HL_r rfl rfl rfl rfl (R_assign rfl) ?_
                      all_goals refine HL_nil ?_
                      all_goals (
                        refine HQ_then ?_
                        refine hK12 _ _ _ _ ?_; clear hK12 K12
                        refine HC_ret ?_
                        refine HQ_post rfl rfl (.cons (res_tmp rfl) (.cons (res_tmp rfl) (.cons (res_tmp rfl) .nil))) (fun w1 hs1 => ?_)
                        first
                          | exact ⟨rfl, hs1.keep⟩
                          | (exfalso; first | contradiction | omega | (simp_all; done) | (simp_all; omega))
                        skip)
                      skip)
                    skip)
                skip)
              skip)
          skip)
        skip)
  · have e : codeR f g = ([], false, 10) := by unfold codeR; rw [if_pos hf]
    rw [e]
    refine pure_of_HC Try.func12 rfl rfl fun w => ?_
    refine HC_seq fun K1 hK1 => ?_
    refine HC_region ?_
    all_goals refine HL_r rfl rfl rfl rfl (R_assign rfl) ?_
    all_goals refine HL_r rfl rfl rfl rfl (R_assign rfl) ?_
    all_goals refine HL_r rfl rfl rfl rfl (R_assign rfl) ?_
    all_goals refine HL_nil ?_
    all_goals (
      refine HQ_then ?_
      refine hK1 _ _ _ _ ?_; clear hK1 K1
      refine HC_seq fun K2 hK2 => ?_
      refine HC_block ?_
      refine HC_seq fun K3 hK3 => ?_
      refine HC_region ?_
      all_goals refine HL_r rfl rfl rfl rfl (R_move rfl) ?_
      all_goals refine HL_callP rfl rfl rfl (enters_of Try.func30 (by kernel_rfl) rfl) (P_forked f) ?_
      all_goals refine HL_r rfl rfl rfl rfl (R_pure rfl rfl rfl) ?_
      all_goals refine HL_r rfl rfl rfl rfl (R_assign rfl) ?_
      all_goals refine HL_nil ?_
      all_goals (
        refine HQ_then ?_
        refine hK3 _ _ _ _ ?_; clear hK3 K3
        refine HC_cond rfl (fun h4 => ?_) (fun h4 => ?_)
        · try exact Bool.noConfusion h4
          all_goals try simp only [decide_eq_true_eq, decide_eq_false_iff_not, beq_iff_eq, beq_eq_false_iff_ne, bne_iff_ne, bne_eq_false_iff_eq, Bool.not_eq_true', Bool.not_eq_false', ne_eq, Int.not_lt, Int.not_le, ge_iff_le, gt_iff_lt] at h4
          all_goals (
            refine HC_seq fun K5 hK5 => ?_
            refine HC_region ?_
            all_goals refine HL_r rfl rfl rfl rfl (R_assign rfl) ?_
            all_goals refine HL_r rfl rfl rfl rfl (R_assign rfl) ?_
            all_goals refine HL_r rfl rfl rfl rfl (R_assign rfl) ?_
            all_goals refine HL_nil ?_
            all_goals (
              refine HQ_then ?_
              refine hK5 _ _ _ _ ?_; clear hK5 K5
              refine HC_ret ?_
              refine HQ_blockR ?_
              refine HQ_thenR ?_; clear hK2 K2
              refine HQ_post rfl rfl (.cons (res_tmp rfl) (.cons (res_tmp rfl) (.cons (res_tmp rfl) .nil))) (fun w1 hs1 => ?_)
              first
                | exact ⟨rfl, hs1.keep⟩
                | (exfalso; first | contradiction | omega | (simp_all; done) | (simp_all; omega))
              skip)
            skip)
        · try exact Bool.noConfusion h4
          all_goals try simp only [decide_eq_true_eq, decide_eq_false_iff_not, beq_iff_eq, beq_eq_false_iff_ne, bne_iff_ne, bne_eq_false_iff_eq, Bool.not_eq_true', Bool.not_eq_false', ne_eq, Int.not_lt, Int.not_le, ge_iff_le, gt_iff_lt] at h4
          all_goals (
            refine HC_seq fun K6 hK6 => ?_
            refine HC_region ?_
            all_goals refine HL_r rfl rfl rfl rfl (R_move rfl) ?_
            all_goals refine HL_r rfl rfl rfl rfl (R_pure rfl rfl rfl) ?_
            all_goals refine HL_r rfl rfl rfl rfl (R_move rfl) ?_
            all_goals (refine HL_case 16 rfl (fun hb7 => ?_) (fun hb7 => ?_) <;> (try simp only [decide_eq_true_eq, decide_eq_false_iff_not, beq_iff_eq, beq_eq_false_iff_ne, bne_iff_ne, bne_eq_false_iff_eq, Bool.not_eq_true', Bool.not_eq_false', ne_eq, Int.not_lt, Int.not_le, ge_iff_le, gt_iff_lt] at hb7) <;> first | (refine HL_r rfl rfl rfl rfl (R_move rfl) ?_) | (refine HL_skip rfl rfl rfl ?_))
            all_goals first
              | (refine HL_r rfl rfl rfl rfl (R_pure rfl rfl rfl) ?_)
              | (refine HL_skip rfl rfl rfl ?_)
            all_goals first
              | (refine HL_r rfl rfl rfl rfl (R_pickT rfl rfl) ?_)
              | (refine HL_r rfl rfl rfl rfl (R_pickF rfl rfl) ?_)
            all_goals refine HL_r rfl rfl rfl rfl (R_assign rfl) ?_
            all_goals refine HL_nil ?_
            all_goals (
              refine HQ_then ?_
              refine hK6 _ _ _ _ ?_; clear hK6 K6
              refine HC_cond rfl (fun h9 => ?_) (fun h9 => ?_)
              · try exact Bool.noConfusion h9
                all_goals try simp only [decide_eq_true_eq, decide_eq_false_iff_not, beq_iff_eq, beq_eq_false_iff_ne, bne_iff_ne, bne_eq_false_iff_eq, Bool.not_eq_true', Bool.not_eq_false', ne_eq, Int.not_lt, Int.not_le, ge_iff_le, gt_iff_lt] at h9
                all_goals (
                  refine HC_seq fun K10 hK10 => ?_
                  refine HC_region ?_
                  all_goals refine HL_r rfl rfl rfl rfl (R_assign rfl) ?_
                  all_goals refine HL_r rfl rfl rfl rfl (R_assign rfl) ?_
                  all_goals refine HL_r rfl rfl rfl rfl (R_assign rfl) ?_
                  all_goals refine HL_nil ?_
                  all_goals (
                    refine HQ_then ?_
                    refine hK10 _ _ _ _ ?_; clear hK10 K10
                    refine HC_ret ?_
                    refine HQ_blockR ?_
                    refine HQ_thenR ?_; clear hK2 K2
                    refine HQ_post rfl rfl (.cons (res_tmp rfl) (.cons (res_tmp rfl) (.cons (res_tmp rfl) .nil))) (fun w1 hs1 => ?_)
                    first
                      | exact ⟨rfl, hs1.keep⟩
                      | (exfalso; first | contradiction | omega | (simp_all; done) | (simp_all; omega))
                    skip)
                  skip)
              · try exact Bool.noConfusion h9
                all_goals try simp only [decide_eq_true_eq, decide_eq_false_iff_not, beq_iff_eq, beq_eq_false_iff_ne, bne_iff_ne, bne_eq_false_iff_eq, Bool.not_eq_true', Bool.not_eq_false', ne_eq, Int.not_lt, Int.not_le, ge_iff_le, gt_iff_lt] at h9
                all_goals (
                  refine HC_skip ?_
                  refine HQ_blockN ?_
                  refine HQ_then ?_
                  refine hK2 _ _ _ _ ?_; clear hK2 K2
                  refine HC_seq fun K11 hK11 => ?_
                  refine HC_region ?_
                  all_goals refine HL_r rfl rfl rfl rfl (R_move rfl) ?_
                  all_goals refine HL_r rfl rfl rfl rfl (R_move rfl) ?_
                  all_goals exfalso; first | contradiction | omega | (simp_all; done)
                  all_goals refine HL_r rfl rfl rfl rfl (R_move rfl) ?_
                  all_goals refine HL_r rfl rfl rfl rfl (R_extract rfl rfl) ?_
                  all_goals refine HL_r rfl rfl rfl rfl (R_extract rfl rfl) ?_
                  all_goals refine HL_r rfl rfl rfl rfl (R_assign rfl) ?_
                  all_goals refine HL_r rfl rfl rfl rfl (R_assign rfl) ?_
                  all_goals refine HL_nil ?_
                  all_goals (
                    refine HQ_then ?_
                    refine hK11 _ _ _ _ ?_; clear hK11 K11
                    refine HC_seq fun K12 hK12 => ?_
                    refine HC_region ?_
                    all_goals refine HL_r rfl rfl rfl rfl (R_move rfl) ?_
                    all_goals refine HL_r rfl rfl rfl rfl (R_move rfl) ?_
                    all_goals refine HL_r rfl rfl rfl rfl (R_assign rfl) ?_
                    all_goals refine HL_r rfl rfl rfl rfl (R_assign rfl) ?_
                    all_goals refine HL_r rfl rfl rfl rfl (R_assign rfl) ?_
                    all_goals refine HL_nil ?_
                    all_goals (
                      refine HQ_then ?_
                      refine hK12 _ _ _ _ ?_; clear hK12 K12
                      refine HC_ret ?_
                      refine HQ_post rfl rfl (.cons (res_tmp rfl) (.cons (res_tmp rfl) (.cons (res_tmp rfl) .nil))) (fun w1 hs1 => ?_)
                      first
                        | exact ⟨rfl, hs1.keep⟩
                        | (exfalso; first | contradiction | omega | (simp_all; done) | (simp_all; omega))
                      skip)
                    skip)
                  skip)
              skip)
            skip)
        skip)
      skip)
end Go.Proofs.Ytnkmbkndpoghdaa
namespace Go.Proofs.Ytnkmbkndpoghdaa
set_option linter.all false
open Go.SL Go.RowKit Go.Shelf
def ptV (r o : Nat) : Value := .pointer (some ⟨r, o, none⟩)
set_option maxRecDepth 10000 in
theorem P_ptr1 (r : Nat) : Pure Try.prog 60 [ptV r 0].toArray (ptV r 14) := by
  refine pure_of_HC Try.func60 rfl rfl fun w => ?_
  refine HC_seq fun K1 hK1 => ?_
  refine HC_region ?_
  all_goals refine HL_r rfl rfl rfl rfl (R_assign rfl) ?_
  all_goals refine HL_nil ?_
  all_goals (
    refine HQ_then ?_
    refine hK1 _ _ _ _ ?_; clear hK1 K1
    refine HC_seq fun K2 hK2 => ?_
    refine HC_region ?_
    all_goals refine HL_r rfl rfl rfl rfl (R_move rfl) ?_
    all_goals refine HL_r rfl rfl rfl rfl (R_pure rfl rfl rfl) ?_
    all_goals refine HL_r rfl rfl rfl rfl (R_fieldAddr rfl rfl (by first | (simp only [Nat.zero_add, Nat.reduceAdd, Nat.reduceMul, Nat.zero_mul, Nat.mul_one, Nat.add_zero]; exact rfl) | exact rfl)) ?_
    all_goals refine HL_r rfl rfl rfl rfl (R_assign rfl) ?_
    all_goals refine HL_nil ?_
    all_goals (
      refine HQ_then ?_
      refine hK2 _ _ _ _ ?_; clear hK2 K2
      refine HC_ret ?_
      refine HQ_post rfl rfl (.cons (res_tmp rfl) .nil) (fun w1 hs1 => ?_)
      exact ⟨rfl, hs1.keep⟩
      skip)
    skip)
set_option maxRecDepth 10000 in
theorem P_ptr2 (r : Nat) : Pure Try.prog 62 [ptV r 0].toArray (ptV r 0) := by
  refine pure_of_HC Try.func62 rfl rfl fun w => ?_
  refine HC_seq fun K1 hK1 => ?_
  refine HC_region ?_
  all_goals refine HL_r rfl rfl rfl rfl (R_assign rfl) ?_
  all_goals refine HL_nil ?_
  all_goals (
    refine HQ_then ?_
    refine hK1 _ _ _ _ ?_; clear hK1 K1
    refine HC_seq fun K2 hK2 => ?_
    refine HC_region ?_
    all_goals refine HL_r rfl rfl rfl rfl (R_move rfl) ?_
    all_goals refine HL_r rfl rfl rfl rfl (R_pure rfl rfl rfl) ?_
    all_goals refine HL_r rfl rfl rfl rfl (R_fieldAddr rfl rfl (by first | (simp only [Nat.zero_add, Nat.reduceAdd, Nat.reduceMul, Nat.zero_mul, Nat.mul_one, Nat.add_zero]; exact rfl) | exact rfl)) ?_
    all_goals refine HL_r rfl rfl rfl rfl (R_assign rfl) ?_
    all_goals refine HL_nil ?_
    all_goals (
      refine HQ_then ?_
      refine hK2 _ _ _ _ ?_; clear hK2 K2
      refine HC_ret ?_
      refine HQ_post rfl rfl (.cons (res_tmp rfl) .nil) (fun w1 hs1 => ?_)
      exact ⟨rfl, hs1.keep⟩
      skip)
    skip)
set_option maxRecDepth 10000 in
theorem P_ptr3 (r : Nat) : Pure Try.prog 63 [ptV r 0].toArray (ptV r 1) := by
  refine pure_of_HC Try.func63 rfl rfl fun w => ?_
  refine HC_seq fun K1 hK1 => ?_
  refine HC_region ?_
  all_goals refine HL_r rfl rfl rfl rfl (R_assign rfl) ?_
  all_goals refine HL_nil ?_
  all_goals (
    refine HQ_then ?_
    refine hK1 _ _ _ _ ?_; clear hK1 K1
    refine HC_seq fun K2 hK2 => ?_
    refine HC_region ?_
    all_goals refine HL_r rfl rfl rfl rfl (R_move rfl) ?_
    all_goals refine HL_r rfl rfl rfl rfl (R_pure rfl rfl rfl) ?_
    all_goals refine HL_r rfl rfl rfl rfl (R_fieldAddr rfl rfl (by first | (simp only [Nat.zero_add, Nat.reduceAdd, Nat.reduceMul, Nat.zero_mul, Nat.mul_one, Nat.add_zero]; exact rfl) | exact rfl)) ?_
    all_goals refine HL_r rfl rfl rfl rfl (R_assign rfl) ?_
    all_goals refine HL_nil ?_
    all_goals (
      refine HQ_then ?_
      refine hK2 _ _ _ _ ?_; clear hK2 K2
      refine HC_ret ?_
      refine HQ_post rfl rfl (.cons (res_tmp rfl) .nil) (fun w1 hs1 => ?_)
      exact ⟨rfl, hs1.keep⟩
      skip)
    skip)
set_option maxRecDepth 10000 in
theorem P_ptr4 (r : Nat) : Pure Try.prog 65 [ptV r 0].toArray (ptV r 2) := by
  refine pure_of_HC Try.func65 rfl rfl fun w => ?_
  refine HC_seq fun K1 hK1 => ?_
  refine HC_region ?_
  all_goals refine HL_r rfl rfl rfl rfl (R_assign rfl) ?_
  all_goals refine HL_nil ?_
  all_goals (
    refine HQ_then ?_
    refine hK1 _ _ _ _ ?_; clear hK1 K1
    refine HC_seq fun K2 hK2 => ?_
    refine HC_region ?_
    all_goals refine HL_r rfl rfl rfl rfl (R_move rfl) ?_
    all_goals refine HL_r rfl rfl rfl rfl (R_pure rfl rfl rfl) ?_
    all_goals refine HL_r rfl rfl rfl rfl (R_fieldAddr rfl rfl (by first | (simp only [Nat.zero_add, Nat.reduceAdd, Nat.reduceMul, Nat.zero_mul, Nat.mul_one, Nat.add_zero]; exact rfl) | exact rfl)) ?_
    all_goals refine HL_r rfl rfl rfl rfl (R_assign rfl) ?_
    all_goals refine HL_nil ?_
    all_goals (
      refine HQ_then ?_
      refine hK2 _ _ _ _ ?_; clear hK2 K2
      refine HC_ret ?_
      refine HQ_post rfl rfl (.cons (res_tmp rfl) .nil) (fun w1 hs1 => ?_)
      exact ⟨rfl, hs1.keep⟩
      skip)
    skip)
set_option maxRecDepth 10000 in
theorem P_ptr5 (r : Nat) : Pure Try.prog 66 [ptV r 0].toArray (ptV r 10) := by
  refine pure_of_HC Try.func66 rfl rfl fun w => ?_
  refine HC_seq fun K1 hK1 => ?_
  refine HC_region ?_
  all_goals refine HL_r rfl rfl rfl rfl (R_assign rfl) ?_
  all_goals refine HL_nil ?_
  all_goals (
    refine HQ_then ?_
    refine hK1 _ _ _ _ ?_; clear hK1 K1
    refine HC_seq fun K2 hK2 => ?_
    refine HC_region ?_
    all_goals refine HL_r rfl rfl rfl rfl (R_move rfl) ?_
    all_goals refine HL_r rfl rfl rfl rfl (R_pure rfl rfl rfl) ?_
    all_goals refine HL_r rfl rfl rfl rfl (R_fieldAddr rfl rfl (by first | (simp only [Nat.zero_add, Nat.reduceAdd, Nat.reduceMul, Nat.zero_mul, Nat.mul_one, Nat.add_zero]; exact rfl) | exact rfl)) ?_
    all_goals refine HL_r rfl rfl rfl rfl (R_assign rfl) ?_
    all_goals refine HL_nil ?_
    all_goals (
      refine HQ_then ?_
      refine hK2 _ _ _ _ ?_; clear hK2 K2
      refine HC_ret ?_
      refine HQ_post rfl rfl (.cons (res_tmp rfl) .nil) (fun w1 hs1 => ?_)
      exact ⟨rfl, hs1.keep⟩
      skip)
    skip)
set_option maxRecDepth 10000 in
theorem P_ptr6 (r : Nat) : Pure Try.prog 67 [ptV r 0].toArray (ptV r 15) := by
  refine pure_of_HC Try.func67 rfl rfl fun w => ?_
  refine HC_seq fun K1 hK1 => ?_
  refine HC_region ?_
  all_goals refine HL_r rfl rfl rfl rfl (R_assign rfl) ?_
  all_goals refine HL_nil ?_
  all_goals (
    refine HQ_then ?_
    refine hK1 _ _ _ _ ?_; clear hK1 K1
    refine HC_seq fun K2 hK2 => ?_
    refine HC_region ?_
    all_goals refine HL_r rfl rfl rfl rfl (R_move rfl) ?_
    all_goals refine HL_r rfl rfl rfl rfl (R_pure rfl rfl rfl) ?_
    all_goals refine HL_r rfl rfl rfl rfl (R_fieldAddr rfl rfl (by first | (simp only [Nat.zero_add, Nat.reduceAdd, Nat.reduceMul, Nat.zero_mul, Nat.mul_one, Nat.add_zero]; exact rfl) | exact rfl)) ?_
    all_goals refine HL_r rfl rfl rfl rfl (R_assign rfl) ?_
    all_goals refine HL_nil ?_
    all_goals (
      refine HQ_then ?_
      refine hK2 _ _ _ _ ?_; clear hK2 K2
      refine HC_ret ?_
      refine HQ_post rfl rfl (.cons (res_tmp rfl) .nil) (fun w1 hs1 => ?_)
      exact ⟨rfl, hs1.keep⟩
      skip)
    skip)
set_option maxRecDepth 10000 in
theorem P_ptr7 (r : Nat) : Pure Try.prog 68 [ptV r 0].toArray (ptV r 6) := by
  refine pure_of_HC Try.func68 rfl rfl fun w => ?_
  refine HC_seq fun K1 hK1 => ?_
  refine HC_region ?_
  all_goals refine HL_r rfl rfl rfl rfl (R_assign rfl) ?_
  all_goals refine HL_nil ?_
  all_goals (
    refine HQ_then ?_
    refine hK1 _ _ _ _ ?_; clear hK1 K1
    refine HC_seq fun K2 hK2 => ?_
    refine HC_region ?_
    all_goals refine HL_r rfl rfl rfl rfl (R_move rfl) ?_
    all_goals refine HL_r rfl rfl rfl rfl (R_pure rfl rfl rfl) ?_
    all_goals refine HL_r rfl rfl rfl rfl (R_fieldAddr rfl rfl (by first | (simp only [Nat.zero_add, Nat.reduceAdd, Nat.reduceMul, Nat.zero_mul, Nat.mul_one, Nat.add_zero]; exact rfl) | exact rfl)) ?_
    all_goals refine HL_r rfl rfl rfl rfl (R_assign rfl) ?_
    all_goals refine HL_nil ?_
    all_goals (
      refine HQ_then ?_
      refine hK2 _ _ _ _ ?_; clear hK2 K2
      refine HC_ret ?_
      refine HQ_post rfl rfl (.cons (res_tmp rfl) .nil) (fun w1 hs1 => ?_)
      exact ⟨rfl, hs1.keep⟩
      skip)
    skip)
set_option maxRecDepth 10000 in
theorem P_ptr8 (r : Nat) : Pure Try.prog 69 [ptV r 0].toArray (ptV r 16) := by
  refine pure_of_HC Try.func69 rfl rfl fun w => ?_
  refine HC_seq fun K1 hK1 => ?_
  refine HC_region ?_
  all_goals refine HL_r rfl rfl rfl rfl (R_assign rfl) ?_
  all_goals refine HL_nil ?_
  all_goals (
    refine HQ_then ?_
    refine hK1 _ _ _ _ ?_; clear hK1 K1
    refine HC_seq fun K2 hK2 => ?_
    refine HC_region ?_
    all_goals refine HL_r rfl rfl rfl rfl (R_move rfl) ?_
    all_goals refine HL_r rfl rfl rfl rfl (R_pure rfl rfl rfl) ?_
    all_goals refine HL_r rfl rfl rfl rfl (R_fieldAddr rfl rfl (by first | (simp only [Nat.zero_add, Nat.reduceAdd, Nat.reduceMul, Nat.zero_mul, Nat.mul_one, Nat.add_zero]; exact rfl) | exact rfl)) ?_
    all_goals refine HL_r rfl rfl rfl rfl (R_assign rfl) ?_
    all_goals refine HL_nil ?_
    all_goals (
      refine HQ_then ?_
      refine hK2 _ _ _ _ ?_; clear hK2 K2
      refine HC_ret ?_
      refine HQ_post rfl rfl (.cons (res_tmp rfl) .nil) (fun w1 hs1 => ?_)
      exact ⟨rfl, hs1.keep⟩
      skip)
    skip)
set_option maxRecDepth 10000 in
theorem S_hold2 {R : List (Nat × Obj)} {b1 b2 e1 e2 : Nat} {gl gh : FuncId} {ol oh x y : Nat} (egl : Enters Try.prog gl) (egh : Enters Try.prog gh) (hgl : ∀ ρ, Pure Try.prog gl [ptV ρ 0].toArray (ptV ρ ol)) (hgh : ∀ ρ, Pure Try.prog gh [ptV ρ 0].toArray (ptV ρ oh))
    (h1 : (b1, Obj.cells #[fV gl] e1 (0, 0)) ∈ R) (h2 : (b2, Obj.cells #[fV gh] e2 (0, 0)) ∈ R) (r : Rec) (hx : nth r.cells ol = some (uV x)) (hy : nth r.cells oh = some (uV y)) : PureR Try.prog 81 [r.val, ptV b1 0, ptV b2 0].toArray (wV [x, y, 0, 0]) R := by
  refine pureR_of_HC Try.func81 rfl rfl fun w => ?_
  refine HC_seq fun K1 hK1 => ?_
  refine HC_region ?_
  all_goals refine HL_box (cs := r.cells.toArray) rfl rfl rfl rfl fun rb => ?_
  all_goals refine HL_alloc (cs := #[_, _, _, _]) rfl rfl rfl rfl fun r1 => ?_
  all_goals refine HL_nil ?_
  all_goals (
    refine HQ_then ?_
    refine hK1 _ _ _ _ ?_; clear hK1 K1
    refine HC_seq fun K2 hK2 => ?_
    refine HC_region ?_
    all_goals refine HL_r rfl rfl rfl rfl (R_load rfl (Or.inr h1) rfl rfl) ?_
    all_goals refine HL_callP rfl rfl rfl egl (hgl rb) ?_
    all_goals refine HL_r rfl rfl rfl rfl (R_pure rfl rfl rfl) ?_
    all_goals refine HL_r rfl rfl rfl rfl (R_load rfl (known_L (k := 1) rfl) rfl hx) ?_
    all_goals refine HL_callP rfl rfl rfl (enters_of Try.func44 (by kernel_rfl) rfl) (P_word_Of x) ?_
    all_goals refine HL_alloc (cs := #[_, _, _, _]) rfl rfl rfl rfl fun r2 => ?_
    all_goals (refine HL_storeA (k := 0) (n := 4) (cs' := #[_, _, _, _]) (vs := #[_, _, _, _]) rfl rfl rfl rfl rfl rfl rfl (by exact Nat.le_of_ble_eq_true rfl) rfl (by first | (simp only [List.set_cons_zero, List.set_cons_succ]; exact rfl) | exact rfl) ?_)
    all_goals refine HL_nil ?_
    all_goals (
      refine HQ_then ?_
      refine hK2 _ _ _ _ ?_; clear hK2 K2
      refine HC_seq fun K3 hK3 => ?_
      refine HC_seq fun K4 hK4 => ?_
      refine HC_region ?_
      all_goals refine HL_r rfl rfl rfl rfl (R_load rfl (Or.inr h2) rfl rfl) ?_
      all_goals refine HL_r rfl rfl rfl rfl (R_pure rfl rfl rfl) ?_
      all_goals refine HL_nil ?_
      all_goals (
        refine HQ_then ?_
        refine hK4 _ _ _ _ ?_; clear hK4 K4
        refine HC_cond rfl (fun h5 => ?_) (fun h5 => ?_)
        · try exact Bool.noConfusion h5
          all_goals try simp only [decide_eq_true_eq, decide_eq_false_iff_not, beq_iff_eq, beq_eq_false_iff_ne, bne_iff_ne, bne_eq_false_iff_eq, Bool.not_eq_true', Bool.not_eq_false', ne_eq, Int.not_lt, Int.not_le, ge_iff_le, gt_iff_lt] at h5
          all_goals (
            refine HC_region ?_
            all_goals refine HL_r rfl rfl rfl rfl (R_load rfl (Or.inr h2) rfl rfl) ?_
            all_goals refine HL_callP rfl rfl rfl egh (hgh rb) ?_
            all_goals refine HL_r rfl rfl rfl rfl (R_pure rfl rfl rfl) ?_
            all_goals refine HL_r rfl rfl rfl rfl (R_load rfl (known_L (k := 2) rfl) rfl hy) ?_
            all_goals refine HL_r rfl rfl rfl rfl (R_indexA (j := 1) rfl rfl rfl rfl rfl (by first | decide | omega) (by first | (simp only [Nat.zero_add, Nat.reduceAdd, Nat.reduceMul, Nat.zero_mul, Nat.mul_one, Nat.add_zero]; exact rfl) | exact rfl)) ?_
            all_goals (refine HL_store (k := 0) rfl rfl rfl rfl rfl rfl rfl rfl (by first | (simp only [List.setIfInBounds_toArray, List.set_cons_zero, List.set_cons_succ]; exact rfl) | exact rfl) (by first | (simp only [List.set_cons_zero, List.set_cons_succ]; exact rfl) | exact rfl) ?_)
            all_goals refine HL_nil ?_
            all_goals (
              refine HQ_then ?_
              refine hK3 _ _ _ _ ?_; clear hK3 K3
              refine HC_seq fun K6 hK6 => ?_
              refine HC_region ?_
              all_goals (refine HL_r rfl rfl rfl rfl (R_loadA (vs := [_, _, _, _]) rfl (known_L (k := 0) rfl) rfl rfl rfl rfl) ?_)
              all_goals (refine HL_storeA (k := 1) (n := 4) (cs' := #[_, _, _, _]) (vs := #[_, _, _, _]) rfl rfl rfl rfl rfl rfl rfl (by exact Nat.le_of_ble_eq_true rfl) rfl (by first | (simp only [List.set_cons_zero, List.set_cons_succ]; exact rfl) | exact rfl) ?_)
              all_goals refine HL_nil ?_
              all_goals (
                refine HQ_then ?_
                refine hK6 _ _ _ _ ?_; clear hK6 K6
                refine HC_ret ?_
                first
                  | refine HQ_post rfl rfl (.cons (res_cellA (vs := [_, _, _, _]) rfl (known_L (k := 0) rfl) rfl rfl) .nil) (fun w1 hs1 => ?_)
                  | refine HQ_post rfl rfl (.cons (res_cellA (vs := [_, _, _, _]) rfl (known_L (k := 1) rfl) rfl rfl) .nil) (fun w1 hs1 => ?_)
                  | refine HQ_post rfl rfl (.cons (res_cellA (vs := [_, _, _, _]) rfl (known_L (k := 2) rfl) rfl rfl) .nil) (fun w1 hs1 => ?_)
                exact ⟨rfl, hs1.keep⟩
                skip)
              skip)
            skip)
        · try exact Bool.noConfusion h5
          all_goals try simp only [decide_eq_true_eq, decide_eq_false_iff_not, beq_iff_eq, beq_eq_false_iff_ne, bne_iff_ne, bne_eq_false_iff_eq, Bool.not_eq_true', Bool.not_eq_false', ne_eq, Int.not_lt, Int.not_le, ge_iff_le, gt_iff_lt] at h5
          all_goals (
            refine HC_skip ?_
            refine HQ_then ?_
            refine hK3 _ _ _ _ ?_; clear hK3 K3
            refine HC_seq fun K7 hK7 => ?_
            refine HC_region ?_
            all_goals refine HL_nil ?_
            all_goals (
              refine HQ_then ?_
              refine hK7 _ _ _ _ ?_; clear hK7 K7
              refine HC_ret ?_
              first
                | refine HQ_post rfl rfl (.cons (res_cellA (vs := [_, _, _, _]) rfl (known_L (k := 0) rfl) rfl rfl) .nil) (fun w1 hs1 => ?_)
                | refine HQ_post rfl rfl (.cons (res_cellA (vs := [_, _, _, _]) rfl (known_L (k := 1) rfl) rfl rfl) .nil) (fun w1 hs1 => ?_)
                | refine HQ_post rfl rfl (.cons (res_cellA (vs := [_, _, _, _]) rfl (known_L (k := 2) rfl) rfl rfl) .nil) (fun w1 hs1 => ?_)
              exact ⟨rfl, hs1.keep⟩
              skip)
            skip)
        skip)
      skip)
    skip)
set_option maxRecDepth 10000 in
theorem S_hold1 {R : List (Nat × Obj)} {b1 b2 e1 e2 : Nat} {gl gh : FuncId} {ol oh x y : Nat} (egl : Enters Try.prog gl) (egh : Enters Try.prog gh) (hgl : ∀ ρ, Pure Try.prog gl [ptV ρ 0].toArray (ptV ρ ol)) (hgh : ∀ ρ, Pure Try.prog gh [ptV ρ 0].toArray (ptV ρ oh))
    (h1 : (b1, Obj.cells #[fV gl] e1 (0, 0)) ∈ R) (h2 : (b2, Obj.cells #[.nilFunc] e2 (0, 0)) ∈ R) (r : Rec) (hx : nth r.cells ol = some (uV x)) (hy : nth r.cells oh = some (uV y)) : PureR Try.prog 81 [r.val, ptV b1 0, ptV b2 0].toArray (wV [x, 0, 0, 0]) R := by
  refine pureR_of_HC Try.func81 rfl rfl fun w => ?_
  refine HC_seq fun K1 hK1 => ?_
  refine HC_region ?_
  all_goals refine HL_box (cs := r.cells.toArray) rfl rfl rfl rfl fun rb => ?_
  all_goals refine HL_alloc (cs := #[_, _, _, _]) rfl rfl rfl rfl fun r1 => ?_
  all_goals refine HL_nil ?_
  all_goals (
    refine HQ_then ?_
    refine hK1 _ _ _ _ ?_; clear hK1 K1
    refine HC_seq fun K2 hK2 => ?_
    refine HC_region ?_
    all_goals refine HL_r rfl rfl rfl rfl (R_load rfl (Or.inr h1) rfl rfl) ?_
    all_goals refine HL_callP rfl rfl rfl egl (hgl rb) ?_
    all_goals refine HL_r rfl rfl rfl rfl (R_pure rfl rfl rfl) ?_
    all_goals refine HL_r rfl rfl rfl rfl (R_load rfl (known_L (k := 1) rfl) rfl hx) ?_
    all_goals refine HL_callP rfl rfl rfl (enters_of Try.func44 (by kernel_rfl) rfl) (P_word_Of x) ?_
    all_goals refine HL_alloc (cs := #[_, _, _, _]) rfl rfl rfl rfl fun r2 => ?_
    all_goals (refine HL_storeA (k := 0) (n := 4) (cs' := #[_, _, _, _]) (vs := #[_, _, _, _]) rfl rfl rfl rfl rfl rfl rfl (by exact Nat.le_of_ble_eq_true rfl) rfl (by first | (simp only [List.set_cons_zero, List.set_cons_succ]; exact rfl) | exact rfl) ?_)
    all_goals refine HL_nil ?_
    all_goals (
      refine HQ_then ?_
      refine hK2 _ _ _ _ ?_; clear hK2 K2
      refine HC_seq fun K3 hK3 => ?_
      refine HC_seq fun K4 hK4 => ?_
      refine HC_region ?_
      all_goals refine HL_r rfl rfl rfl rfl (R_load rfl (Or.inr h2) rfl rfl) ?_
      all_goals refine HL_r rfl rfl rfl rfl (R_pure rfl rfl rfl) ?_
      all_goals refine HL_nil ?_
      all_goals (
        refine HQ_then ?_
        refine hK4 _ _ _ _ ?_; clear hK4 K4
        refine HC_cond rfl (fun h5 => ?_) (fun h5 => ?_)
        · try exact Bool.noConfusion h5
          all_goals try simp only [decide_eq_true_eq, decide_eq_false_iff_not, beq_iff_eq, beq_eq_false_iff_ne, bne_iff_ne, bne_eq_false_iff_eq, Bool.not_eq_true', Bool.not_eq_false', ne_eq, Int.not_lt, Int.not_le, ge_iff_le, gt_iff_lt] at h5
          all_goals (
            refine HC_region ?_
            all_goals refine HL_r rfl rfl rfl rfl (R_load rfl (Or.inr h2) rfl rfl) ?_
            all_goals refine HL_callP rfl rfl rfl egh (hgh rb) ?_
            all_goals refine HL_r rfl rfl rfl rfl (R_pure rfl rfl rfl) ?_
            all_goals refine HL_r rfl rfl rfl rfl (R_load rfl (known_L (k := 2) rfl) rfl hy) ?_
            all_goals refine HL_r rfl rfl rfl rfl (R_indexA (j := 1) rfl rfl rfl rfl rfl (by first | decide | omega) (by first | (simp only [Nat.zero_add, Nat.reduceAdd, Nat.reduceMul, Nat.zero_mul, Nat.mul_one, Nat.add_zero]; exact rfl) | exact rfl)) ?_
            all_goals refine HL_nil ?_
            all_goals (
              refine HQ_then ?_
              refine hK3 _ _ _ _ ?_; clear hK3 K3
              refine HC_seq fun K6 hK6 => ?_
              refine HC_region ?_
              all_goals refine HL_nil ?_
              all_goals (
                refine HQ_then ?_
                refine hK6 _ _ _ _ ?_; clear hK6 K6
                refine HC_ret ?_
                first
                  | refine HQ_post rfl rfl (.cons (res_cellA (vs := [_, _, _, _]) rfl (known_L (k := 0) rfl) rfl rfl) .nil) (fun w1 hs1 => ?_)
                  | refine HQ_post rfl rfl (.cons (res_cellA (vs := [_, _, _, _]) rfl (known_L (k := 1) rfl) rfl rfl) .nil) (fun w1 hs1 => ?_)
                  | refine HQ_post rfl rfl (.cons (res_cellA (vs := [_, _, _, _]) rfl (known_L (k := 2) rfl) rfl rfl) .nil) (fun w1 hs1 => ?_)
                exact ⟨rfl, hs1.keep⟩
                skip)
              skip)
            skip)
        · try exact Bool.noConfusion h5
          all_goals try simp only [decide_eq_true_eq, decide_eq_false_iff_not, beq_iff_eq, beq_eq_false_iff_ne, bne_iff_ne, bne_eq_false_iff_eq, Bool.not_eq_true', Bool.not_eq_false', ne_eq, Int.not_lt, Int.not_le, ge_iff_le, gt_iff_lt] at h5
          all_goals (
            refine HC_skip ?_
            refine HQ_then ?_
            refine hK3 _ _ _ _ ?_; clear hK3 K3
            refine HC_seq fun K7 hK7 => ?_
            refine HC_region ?_
            all_goals (refine HL_r rfl rfl rfl rfl (R_loadA (vs := [_, _, _, _]) rfl (known_L (k := 0) rfl) rfl rfl rfl rfl) ?_)
            all_goals (refine HL_storeA (k := 1) (n := 4) (cs' := #[_, _, _, _]) (vs := #[_, _, _, _]) rfl rfl rfl rfl rfl rfl rfl (by exact Nat.le_of_ble_eq_true rfl) rfl (by first | (simp only [List.set_cons_zero, List.set_cons_succ]; exact rfl) | exact rfl) ?_)
            all_goals refine HL_nil ?_
            all_goals (
              refine HQ_then ?_
              refine hK7 _ _ _ _ ?_; clear hK7 K7
              refine HC_ret ?_
              first
                | refine HQ_post rfl rfl (.cons (res_cellA (vs := [_, _, _, _]) rfl (known_L (k := 0) rfl) rfl rfl) .nil) (fun w1 hs1 => ?_)
                | refine HQ_post rfl rfl (.cons (res_cellA (vs := [_, _, _, _]) rfl (known_L (k := 1) rfl) rfl rfl) .nil) (fun w1 hs1 => ?_)
                | refine HQ_post rfl rfl (.cons (res_cellA (vs := [_, _, _, _]) rfl (known_L (k := 2) rfl) rfl rfl) .nil) (fun w1 hs1 => ?_)
              exact ⟨rfl, hs1.keep⟩
              skip)
            skip)
        skip)
      skip)
    skip)
set_option maxRecDepth 10000 in
theorem S_holdW {R : List (Nat × Obj)} {b1 e1 : Nat} {g : FuncId} {o : Nat} {x : W4} (eg : Enters Try.prog g) (hg : ∀ ρ, Pure Try.prog g [ptV ρ 0].toArray (ptV ρ o)) (h1 : (b1, Obj.cells #[fV g] e1 (0, 0)) ∈ R) (r : Rec) (hx : (r.cells.drop o).take 4 = x.l.map uV) : PureR Try.prog 83 [r.val, ptV b1 0].toArray (wV x.l) R := by
  refine pureR_of_HC Try.func83 rfl rfl fun w => ?_
  refine HC_seq fun K1 hK1 => ?_
  refine HC_region ?_
  all_goals refine HL_box (cs := r.cells.toArray) rfl rfl rfl rfl fun rb => ?_
  all_goals refine HL_alloc (cs := #[_, _, _, _]) rfl rfl rfl rfl fun r1 => ?_
  all_goals refine HL_nil ?_
  all_goals (
    refine HQ_then ?_
    refine hK1 _ _ _ _ ?_; clear hK1 K1
    refine HC_seq fun K2 hK2 => ?_
    refine HC_region ?_
    all_goals refine HL_r rfl rfl rfl rfl (R_load rfl (Or.inr h1) rfl rfl) ?_
    all_goals refine HL_callP rfl rfl rfl eg (hg rb) ?_
    all_goals refine HL_r rfl rfl rfl rfl (R_pure rfl rfl rfl) ?_
    all_goals refine HL_r rfl rfl rfl rfl (R_loadA (n := 4) (vs := x.l.map uV) rfl (known_L (k := 1) rfl) rfl rfl hx rfl) ?_
    all_goals (refine HL_storeA (k := 0) (n := 4) (cs' := #[_, _, _, _]) (vs := #[_, _, _, _]) rfl rfl rfl rfl rfl rfl rfl (by exact Nat.le_of_ble_eq_true rfl) rfl (by first | (simp only [List.set_cons_zero, List.set_cons_succ]; exact rfl) | exact rfl) ?_)
    all_goals refine HL_nil ?_
    all_goals (
      refine HQ_then ?_
      refine hK2 _ _ _ _ ?_; clear hK2 K2
      refine HC_ret ?_
      first
        | refine HQ_post rfl rfl (.cons (res_cellA (vs := [_, _, _, _]) rfl (known_L (k := 0) rfl) rfl rfl) .nil) (fun w1 hs1 => ?_)
        | refine HQ_post rfl rfl (.cons (res_cellA (vs := [_, _, _, _]) rfl (known_L (k := 1) rfl) rfl rfl) .nil) (fun w1 hs1 => ?_)
      exact ⟨rfl, hs1.keep⟩
      skip)
    skip)
set_option maxRecDepth 10000 in
theorem S_take2 {R : List (Nat × Obj)} {ρ b1 b2 e1 e2 : Nat} {gl gh : FuncId} {ol oh : Nat} (egl : Enters Try.prog gl) (egh : Enters Try.prog gh) (hgl : ∀ ρ, Pure Try.prog gl [ptV ρ 0].toArray (ptV ρ ol)) (hgh : ∀ ρ, Pure Try.prog gh [ptV ρ 0].toArray (ptV ρ oh))
    (h1 : (b1, Obj.cells #[fV gl] e1 (0, 0)) ∈ R) (h2 : (b2, Obj.cells #[fV gh] e2 (0, 0)) ∈ R) (r : Rec) (w4 : W4) (ho : ol < 17) (ho2 : oh < 17) : PureT (α := Unit) Try.prog 82 [ptV ρ 0, wV w4.l, ptV b1 0, ptV b2 0].toArray (fun _ => .tuple #[]) [(ρ, .cells r.cells.toArray 29 (0, 0))] (fun _ => [(ρ, .cells ((r.cells.set ol (uV w4.a)).set oh (uV w4.b)).toArray 29 (0, 0))]) R := by
  refine pureT_of_HC Try.func82 rfl rfl fun w => ?_
  refine HC_seq fun K1 hK1 => ?_
  refine HC_region ?_
  all_goals refine HL_box (cs := #[_, _, _, _]) rfl rfl rfl rfl fun r1 => ?_
  all_goals refine HL_nil ?_
  all_goals (
    refine HQ_then ?_
    refine hK1 _ _ _ _ ?_; clear hK1 K1
    refine HC_seq fun K2 hK2 => ?_
    refine HC_draw 5 (by kernel_rfl) (by kernel_rfl) ?_
    all_goals refine HD_r rfl rfl rfl (R_load rfl (Or.inr h1) rfl rfl) ?_
    all_goals refine HD_r rfl rfl rfl (R_move rfl) ?_
    all_goals refine HD_callP rfl rfl rfl egl (hgl ρ) ?_
    all_goals refine HD_r rfl rfl rfl (R_indexA (j := 0) rfl rfl rfl rfl rfl (by first | decide | omega) (by first | (simp only [Nat.zero_add, Nat.reduceAdd, Nat.reduceMul, Nat.zero_mul, Nat.mul_one, Nat.add_zero]; exact rfl) | exact rfl)) ?_
    all_goals refine HD_r rfl rfl rfl (R_load rfl (known_L (k := 0) rfl) rfl rfl) ?_
    all_goals refine HD_end ?_
    all_goals refine HL_r rfl rfl rfl rfl (R_pure rfl rfl rfl) ?_
    all_goals refine HL_store (k := 1) (cs' := (r.cells.set ol (uV w4.a)).toArray) rfl rfl rfl rfl rfl rfl (by rw [List.getElem?_toArray, List.getElem?_eq_getElem (show ol < r.cells.length from ho)]; rfl) rfl (by simp) rfl ?_
    all_goals refine HL_nil ?_
    all_goals (
      refine HQ_then ?_
      refine hK2 _ _ _ _ ?_; clear hK2 K2
      refine HC_seq fun K3 hK3 => ?_
      refine HC_region ?_
      all_goals refine HL_r rfl rfl rfl rfl (R_load rfl (Or.inr h2) rfl rfl) ?_
      all_goals refine HL_r rfl rfl rfl rfl (R_pure rfl rfl rfl) ?_
      all_goals refine HL_nil ?_
      all_goals (
        refine HQ_then ?_
        refine hK3 _ _ _ _ ?_; clear hK3 K3
        refine HC_cond rfl (fun h4 => ?_) (fun h4 => ?_)
        · try exact Bool.noConfusion h4
          all_goals try simp only [decide_eq_true_eq, decide_eq_false_iff_not, beq_iff_eq, beq_eq_false_iff_ne, bne_iff_ne, bne_eq_false_iff_eq, Bool.not_eq_true', Bool.not_eq_false', ne_eq, Int.not_lt, Int.not_le, ge_iff_le, gt_iff_lt] at h4
          all_goals (
            refine HC_draw 5 (by kernel_rfl) (by kernel_rfl) ?_
            all_goals refine HD_r rfl rfl rfl (R_load rfl (Or.inr h2) rfl rfl) ?_
            all_goals refine HD_r rfl rfl rfl (R_move rfl) ?_
            all_goals refine HD_callP rfl rfl rfl egh (hgh ρ) ?_
            all_goals refine HD_r rfl rfl rfl (R_indexA (j := 1) rfl rfl rfl rfl rfl (by first | decide | omega) (by first | (simp only [Nat.zero_add, Nat.reduceAdd, Nat.reduceMul, Nat.zero_mul, Nat.mul_one, Nat.add_zero]; exact rfl) | exact rfl)) ?_
            all_goals refine HD_r rfl rfl rfl (R_load rfl (known_L (k := 0) rfl) rfl rfl) ?_
            all_goals refine HD_end ?_
            all_goals refine HL_r rfl rfl rfl rfl (R_pure rfl rfl rfl) ?_
            all_goals refine HL_store (k := 1) (cs' := ((r.cells.set ol (uV w4.a)).set oh (uV w4.b)).toArray) rfl rfl rfl rfl rfl rfl (by rw [List.getElem?_toArray, List.getElem?_eq_getElem (show oh < (r.cells.set ol (uV w4.a)).length from by rw [List.length_set]; exact ho2)]; rfl) rfl (by simp) rfl ?_
            all_goals refine HL_nil ?_
            all_goals (
              refine HQ_postN rfl rfl .nil (fun w1 hs1 => ?_)
              exact ⟨(), rfl, hs1.weakL (List.sublist_cons_self _ _)⟩
              skip)
            skip)
        · try exact Bool.noConfusion h4
          all_goals try simp only [decide_eq_true_eq, decide_eq_false_iff_not, beq_iff_eq, beq_eq_false_iff_ne, bne_iff_ne, bne_eq_false_iff_eq, Bool.not_eq_true', Bool.not_eq_false', ne_eq, Int.not_lt, Int.not_le, ge_iff_le, gt_iff_lt] at h4
          all_goals (
            refine HC_skip ?_
            refine HQ_postN rfl rfl .nil (fun w1 hs1 => ?_)
            exact ⟨(), rfl, hs1.weakL (List.sublist_cons_self _ _)⟩
            skip)
        skip)
      skip)
    skip)
set_option maxRecDepth 10000 in
theorem S_take1 {R : List (Nat × Obj)} {ρ b1 b2 e1 e2 : Nat} {gl gh : FuncId} {ol oh : Nat} (egl : Enters Try.prog gl) (egh : Enters Try.prog gh) (hgl : ∀ ρ, Pure Try.prog gl [ptV ρ 0].toArray (ptV ρ ol)) (hgh : ∀ ρ, Pure Try.prog gh [ptV ρ 0].toArray (ptV ρ oh))
    (h1 : (b1, Obj.cells #[fV gl] e1 (0, 0)) ∈ R) (h2 : (b2, Obj.cells #[.nilFunc] e2 (0, 0)) ∈ R) (r : Rec) (w4 : W4) (ho : ol < 17) (ho2 : oh < 17) : PureT (α := Unit) Try.prog 82 [ptV ρ 0, wV w4.l, ptV b1 0, ptV b2 0].toArray (fun _ => .tuple #[]) [(ρ, .cells r.cells.toArray 29 (0, 0))] (fun _ => [(ρ, .cells (r.cells.set ol (uV w4.a)).toArray 29 (0, 0))]) R := by
  refine pureT_of_HC Try.func82 rfl rfl fun w => ?_
  refine HC_seq fun K1 hK1 => ?_
  refine HC_region ?_
  all_goals refine HL_box (cs := #[_, _, _, _]) rfl rfl rfl rfl fun r1 => ?_
  all_goals refine HL_nil ?_
  all_goals (
    refine HQ_then ?_
    refine hK1 _ _ _ _ ?_; clear hK1 K1
    refine HC_seq fun K2 hK2 => ?_
    refine HC_draw 5 (by kernel_rfl) (by kernel_rfl) ?_
    all_goals refine HD_r rfl rfl rfl (R_load rfl (Or.inr h1) rfl rfl) ?_
    all_goals refine HD_r rfl rfl rfl (R_move rfl) ?_
    all_goals refine HD_callP rfl rfl rfl egl (hgl ρ) ?_
    all_goals refine HD_r rfl rfl rfl (R_indexA (j := 0) rfl rfl rfl rfl rfl (by first | decide | omega) (by first | (simp only [Nat.zero_add, Nat.reduceAdd, Nat.reduceMul, Nat.zero_mul, Nat.mul_one, Nat.add_zero]; exact rfl) | exact rfl)) ?_
    all_goals refine HD_r rfl rfl rfl (R_load rfl (known_L (k := 0) rfl) rfl rfl) ?_
    all_goals refine HD_end ?_
    all_goals refine HL_r rfl rfl rfl rfl (R_pure rfl rfl rfl) ?_
    all_goals refine HL_store (k := 1) (cs' := (r.cells.set ol (uV w4.a)).toArray) rfl rfl rfl rfl rfl rfl (by rw [List.getElem?_toArray, List.getElem?_eq_getElem (show ol < r.cells.length from ho)]; rfl) rfl (by simp) rfl ?_
    all_goals refine HL_nil ?_
    all_goals (
      refine HQ_then ?_
      refine hK2 _ _ _ _ ?_; clear hK2 K2
      refine HC_seq fun K3 hK3 => ?_
      refine HC_region ?_
      all_goals refine HL_r rfl rfl rfl rfl (R_load rfl (Or.inr h2) rfl rfl) ?_
      all_goals refine HL_r rfl rfl rfl rfl (R_pure rfl rfl rfl) ?_
      all_goals refine HL_nil ?_
      all_goals (
        refine HQ_then ?_
        refine hK3 _ _ _ _ ?_; clear hK3 K3
        refine HC_cond rfl (fun h4 => ?_) (fun h4 => ?_)
        · try exact Bool.noConfusion h4
          all_goals try simp only [decide_eq_true_eq, decide_eq_false_iff_not, beq_iff_eq, beq_eq_false_iff_ne, bne_iff_ne, bne_eq_false_iff_eq, Bool.not_eq_true', Bool.not_eq_false', ne_eq, Int.not_lt, Int.not_le, ge_iff_le, gt_iff_lt] at h4
          all_goals (
            refine HC_draw 5 (by kernel_rfl) (by kernel_rfl) ?_
            all_goals refine HD_r rfl rfl rfl (R_load rfl (Or.inr h2) rfl rfl) ?_
            all_goals refine HD_r rfl rfl rfl (R_move rfl) ?_
            all_goals refine HD_callP rfl rfl rfl egh (hgh ρ) ?_
            all_goals refine HD_r rfl rfl rfl (R_indexA (j := 1) rfl rfl rfl rfl rfl (by first | decide | omega) (by first | (simp only [Nat.zero_add, Nat.reduceAdd, Nat.reduceMul, Nat.zero_mul, Nat.mul_one, Nat.add_zero]; exact rfl) | exact rfl)) ?_
            all_goals refine HD_r rfl rfl rfl (R_load rfl (known_L (k := 0) rfl) rfl rfl) ?_
            all_goals refine HD_end ?_
            all_goals refine HL_r rfl rfl rfl rfl (R_pure rfl rfl rfl) ?_
            all_goals refine HL_store (k := 1) (cs' := (r.cells.set ol (uV w4.a)).toArray) rfl rfl rfl rfl rfl rfl (by rw [List.getElem?_toArray, List.getElem?_eq_getElem (show oh < (r.cells.set ol (uV w4.a)).length from by rw [List.length_set]; exact ho2)]; rfl) rfl (by simp) rfl ?_
            all_goals refine HL_nil ?_
            all_goals (
              refine HQ_postN rfl rfl .nil (fun w1 hs1 => ?_)
              exact ⟨(), rfl, hs1.weakL (List.sublist_cons_self _ _)⟩
              skip)
            skip)
        · try exact Bool.noConfusion h4
          all_goals try simp only [decide_eq_true_eq, decide_eq_false_iff_not, beq_iff_eq, beq_eq_false_iff_ne, bne_iff_ne, bne_eq_false_iff_eq, Bool.not_eq_true', Bool.not_eq_false', ne_eq, Int.not_lt, Int.not_le, ge_iff_le, gt_iff_lt] at h4
          all_goals (
            refine HC_skip ?_
            refine HQ_postN rfl rfl .nil (fun w1 hs1 => ?_)
            exact ⟨(), rfl, hs1.weakL (List.sublist_cons_self _ _)⟩
            skip)
        skip)
      skip)
    skip)
set_option maxRecDepth 10000 in
theorem S_takeW {R : List (Nat × Obj)} {ρ b1 e1 : Nat} {g : FuncId} {o : Nat} {cs : List Value} (eg : Enters Try.prog g) (hg : ∀ ρ, Pure Try.prog g [ptV ρ 0].toArray (ptV ρ o)) (h1 : (b1, Obj.cells #[fV g] e1 (0, 0)) ∈ R) (r : Rec) (w4 : W4) (ho : o + 4 ≤ 17) (hcs : r.cells.take o ++ w4.l.map uV ++ r.cells.drop (o + 4) = cs) : PureT (α := Unit) Try.prog 84 [ptV ρ 0, wV w4.l, ptV b1 0].toArray (fun _ => .tuple #[]) [(ρ, .cells r.cells.toArray 29 (0, 0))] (fun _ => [(ρ, .cells cs.toArray 29 (0, 0))]) R := by
  refine pureT_of_HC Try.func84 rfl rfl fun w => ?_
  refine HC_seq fun K1 hK1 => ?_
  refine HC_region ?_
  all_goals refine HL_box (cs := #[_, _, _, _]) rfl rfl rfl rfl fun r1 => ?_
  all_goals refine HL_nil ?_
  all_goals (
    refine HQ_then ?_
    refine hK1 _ _ _ _ ?_; clear hK1 K1
    refine HC_draw 4 (by kernel_rfl) (by kernel_rfl) ?_
    all_goals refine HD_r rfl rfl rfl (R_load rfl (Or.inr h1) rfl rfl) ?_
    all_goals refine HD_r rfl rfl rfl (R_move rfl) ?_
    all_goals refine HD_callP rfl rfl rfl eg (hg ρ) ?_
    all_goals refine HD_r rfl rfl rfl (R_loadA (vs := [_, _, _, _]) rfl (known_L (k := 0) rfl) rfl rfl rfl rfl) ?_
    all_goals refine HD_end ?_
    all_goals refine HL_r rfl rfl rfl rfl (R_pure rfl rfl rfl) ?_
    all_goals refine HL_storeA (k := 1) (n := 4) (vs := (w4.l.map uV).toArray) (cs' := cs.toArray) rfl rfl rfl rfl rfl rfl rfl ho (by rw [← hcs]) rfl ?_
    all_goals refine HL_nil ?_
    all_goals (
      refine HQ_postN rfl rfl .nil (fun w1 hs1 => ?_)
      exact ⟨(), rfl, hs1.weakL (List.sublist_cons_self _ _)⟩
      skip)
    skip)
end Go.Proofs.Ytnkmbkndpoghdaa
namespace Go.Proofs.Ytnkmbkndpoghdaa
set_option linter.all false
open Go.SL Go.RowKit Go.Shelf
def frN : Nat → Int
  | 0 => 0
  | 1 => 0
  | 2 => 0
  | 3 => 0
  | 4 => 3
  | 5 => 3
  | _ => 5
def toN : Nat → Int
  | 0 => 5
  | 1 => 5
  | 2 => 2
  | 3 => 2
  | 4 => 5
  | 5 => 5
  | _ => 5
def holdF : Nat → FuncId
  | 0 => 81
  | 1 => 83
  | 2 => 83
  | 3 => 81
  | 4 => 81
  | 5 => 83
  | _ => 81
def takeF : Nat → FuncId
  | 0 => 82
  | 1 => 84
  | 2 => 84
  | 3 => 82
  | 4 => 82
  | 5 => 84
  | _ => 82
def capsR (p : Nat → Nat) : Nat → List Value
  | 0 => [ptV (p 1) 0, ptV (p 2) 0]
  | 1 => [ptV (p 3) 0]
  | 2 => [ptV (p 4) 0]
  | 3 => [ptV (p 5) 0, ptV (p 6) 0]
  | 4 => [ptV (p 7) 0, ptV (p 8) 0]
  | 5 => [ptV (p 9) 0]
  | _ => [ptV (p 10) 0, ptV (p 11) 0]
def rowB (p : Nat → Nat) : Nat → List (Nat × Obj)
  | 0 => [(p 2, .cells #[fV 63] 115 (0, 0)), (p 1, .cells #[fV 62] 115 (0, 0))]
  | 1 => [(p 3, .cells #[fV 65] 119 (0, 0))]
  | 2 => [(p 4, .cells #[fV 66] 119 (0, 0))]
  | 3 => [(p 6, .cells #[.nilFunc] 115 (0, 0)), (p 5, .cells #[fV 60] 115 (0, 0))]
  | 4 => [(p 8, .cells #[fV 67] 115 (0, 0)), (p 7, .cells #[fV 60] 115 (0, 0))]
  | 5 => [(p 9, .cells #[fV 68] 119 (0, 0))]
  | _ => [(p 11, .cells #[.nilFunc] 115 (0, 0)), (p 10, .cells #[fV 69] 115 (0, 0))]
def rowC (p : Nat → Nat) (i : Nat) : List Value := [uV (keyN i), .int .i64 (frN i), .int .i64 (toN i), .func (.func (holdF i)) #[] (capsR p i).toArray, .func (.func (takeF i)) #[] (capsR p i).toArray]
theorem rowC_len (p : Nat → Nat) (i : Nat) : (rowC p i).length = 5 := rfl
theorem tab_get {i : Nat} (h : i < 7) : tab[i]? = some i := by
  have : i = 0 ∨ i = 1 ∨ i = 2 ∨ i = 3 ∨ i = 4 ∨ i = 5 ∨ i = 6 := by omega
  rcases this with rfl | rfl | rfl | rfl | rfl | rfl | rfl <;> rfl
theorem lt7 {i : Nat} (h : i < 7) : i = 0 ∨ i = 1 ∨ i = 2 ∨ i = 3 ∨ i = 4 ∨ i = 5 ∨ i = 6 := by omega
theorem has_eq {f : Int} (hf : Forked f) {i : Nat} (hi : i < 7) : hasE f i = (decide (f ≥ frN i) && decide (f ≤ toN i)) := by
  rcases forked_cases hf with rfl | rfl | rfl | rfl | rfl | rfl <;> rcases lt7 hi with rfl | rfl | rfl | rfl | rfl | rfl | rfl <;> rfl
theorem enters_hold {i : Nat} (h : i < 7) : Enters Try.prog (holdF i) := by
  rcases lt7 h with rfl | rfl | rfl | rfl | rfl | rfl | rfl
  · exact (enters_of Try.func81 (by kernel_rfl) rfl)
  · exact (enters_of Try.func83 (by kernel_rfl) rfl)
  · exact (enters_of Try.func83 (by kernel_rfl) rfl)
  · exact (enters_of Try.func81 (by kernel_rfl) rfl)
  · exact (enters_of Try.func81 (by kernel_rfl) rfl)
  · exact (enters_of Try.func83 (by kernel_rfl) rfl)
  · exact (enters_of Try.func81 (by kernel_rfl) rfl)
theorem enters_take {i : Nat} (h : i < 7) : Enters Try.prog (takeF i) := by
  rcases lt7 h with rfl | rfl | rfl | rfl | rfl | rfl | rfl
  · exact (enters_of Try.func82 (by kernel_rfl) rfl)
  · exact (enters_of Try.func84 (by kernel_rfl) rfl)
  · exact (enters_of Try.func84 (by kernel_rfl) rfl)
  · exact (enters_of Try.func82 (by kernel_rfl) rfl)
  · exact (enters_of Try.func82 (by kernel_rfl) rfl)
  · exact (enters_of Try.func84 (by kernel_rfl) rfl)
  · exact (enters_of Try.func82 (by kernel_rfl) rfl)
theorem S_holdR {R : List (Nat × Obj)} {p : Nat → Nat} {i : Nat} (hi : i < 7) (hR : ∀ q ∈ rowB p i, q ∈ R) (r : Rec) : PureR Try.prog (holdF i) (r.val :: capsR p i).toArray (wV (holdsE r i).l) R := by
  rcases lt7 hi with rfl | rfl | rfl | rfl | rfl | rfl | rfl
  · exact S_hold2 (enters_of Try.func62 (by kernel_rfl) rfl) (enters_of Try.func63 (by kernel_rfl) rfl) P_ptr2 P_ptr3 (hR _ (List.mem_cons_of_mem _ List.mem_cons_self)) (hR _ List.mem_cons_self) r rfl rfl
  · exact S_holdW (enters_of Try.func65 (by kernel_rfl) rfl) P_ptr4 (hR _ List.mem_cons_self) r rfl
  · exact S_holdW (enters_of Try.func66 (by kernel_rfl) rfl) P_ptr5 (hR _ List.mem_cons_self) r rfl
  · exact S_hold1 (enters_of Try.func60 (by kernel_rfl) rfl) (enters_of Try.func60 (by kernel_rfl) rfl) P_ptr1 P_ptr1 (hR _ (List.mem_cons_of_mem _ List.mem_cons_self)) (hR _ List.mem_cons_self) r rfl rfl
  · exact S_hold2 (enters_of Try.func60 (by kernel_rfl) rfl) (enters_of Try.func67 (by kernel_rfl) rfl) P_ptr1 P_ptr6 (hR _ (List.mem_cons_of_mem _ List.mem_cons_self)) (hR _ List.mem_cons_self) r rfl rfl
  · exact S_holdW (enters_of Try.func68 (by kernel_rfl) rfl) P_ptr7 (hR _ List.mem_cons_self) r rfl
  · exact S_hold1 (enters_of Try.func69 (by kernel_rfl) rfl) (enters_of Try.func69 (by kernel_rfl) rfl) P_ptr8 P_ptr8 (hR _ (List.mem_cons_of_mem _ List.mem_cons_self)) (hR _ List.mem_cons_self) r rfl rfl
theorem S_takeR {R : List (Nat × Obj)} {p : Nat → Nat} {i ρ : Nat} (hi : i < 7) (hR : ∀ q ∈ rowB p i, q ∈ R) (r : Rec) (w4 : W4) : PureT (α := Unit) Try.prog (takeF i) (ptV ρ 0 :: wV w4.l :: capsR p i).toArray (fun _ => .tuple #[]) [(ρ, .cells r.cells.toArray 29 (0, 0))] (fun _ => [(ρ, .cells (takeE r w4 i).cells.toArray 29 (0, 0))]) R := by
  rcases lt7 hi with rfl | rfl | rfl | rfl | rfl | rfl | rfl
  · exact S_take2 (enters_of Try.func62 (by kernel_rfl) rfl) (enters_of Try.func63 (by kernel_rfl) rfl) P_ptr2 P_ptr3 (hR _ (List.mem_cons_of_mem _ List.mem_cons_self)) (hR _ List.mem_cons_self) r w4 (by decide) (by decide)
  · exact S_takeW (enters_of Try.func65 (by kernel_rfl) rfl) P_ptr4 (hR _ List.mem_cons_self) r w4 (by decide) rfl
  · exact S_takeW (enters_of Try.func66 (by kernel_rfl) rfl) P_ptr5 (hR _ List.mem_cons_self) r w4 (by decide) rfl
  · exact S_take1 (enters_of Try.func60 (by kernel_rfl) rfl) (enters_of Try.func60 (by kernel_rfl) rfl) P_ptr1 P_ptr1 (hR _ (List.mem_cons_of_mem _ List.mem_cons_self)) (hR _ List.mem_cons_self) r w4 (by decide) (by decide)
  · exact S_take2 (enters_of Try.func60 (by kernel_rfl) rfl) (enters_of Try.func67 (by kernel_rfl) rfl) P_ptr1 P_ptr6 (hR _ (List.mem_cons_of_mem _ List.mem_cons_self)) (hR _ List.mem_cons_self) r w4 (by decide) (by decide)
  · exact S_takeW (enters_of Try.func68 (by kernel_rfl) rfl) P_ptr7 (hR _ List.mem_cons_self) r w4 (by decide) rfl
  · exact S_take1 (enters_of Try.func69 (by kernel_rfl) rfl) (enters_of Try.func69 (by kernel_rfl) rfl) P_ptr8 P_ptr8 (hR _ (List.mem_cons_of_mem _ List.mem_cons_self)) (hR _ List.mem_cons_self) r w4 (by decide) (by decide)
set_option maxRecDepth 10000 in
theorem E_packed2 (k : Nat) (a b : Int) (gl gh : FuncId) : PureE (α := Nat × Nat) Try.prog 61 [uV k, .int .i64 a, .int .i64 b, fV gl, fV gh].toArray (fun p => .agg #[uV k, .int .i64 a, .int .i64 b, .func (.func 81) #[] #[ptV p.1 0, ptV p.2 0], .func (.func 82) #[] #[ptV p.1 0, ptV p.2 0]]) (fun p => [(p.2, .cells #[fV gh] 115 (0, 0)), (p.1, .cells #[fV gl] 115 (0, 0))]) := by
  refine pureE_of_HC Try.func61 rfl rfl fun w => ?_
  refine HC_seq fun K1 hK1 => ?_
  refine HC_region ?_
  all_goals refine HL_box (cs := #[_]) rfl rfl rfl rfl fun r1 => ?_
  all_goals refine HL_box (cs := #[_]) rfl rfl rfl rfl fun r2 => ?_
  all_goals refine HL_alloc (cs := #[_, _, _, _, _]) rfl rfl rfl rfl fun r3 => ?_
  all_goals refine HL_nil ?_
  all_goals (
    refine HQ_then ?_
    refine hK1 _ _ _ _ ?_; clear hK1 K1
    refine HC_seq fun K2 hK2 => ?_
    refine HC_region ?_
    all_goals refine HL_r rfl rfl rfl rfl (R_makeFunc rfl rfl) ?_
    all_goals refine HL_r rfl rfl rfl rfl (R_assign rfl) ?_
    all_goals refine HL_nil ?_
    all_goals (
      refine HQ_then ?_
      refine hK2 _ _ _ _ ?_; clear hK2 K2
      refine HC_seq fun K3 hK3 => ?_
      refine HC_region ?_
      all_goals refine HL_r rfl rfl rfl rfl (R_makeFunc rfl rfl) ?_
      all_goals refine HL_r rfl rfl rfl rfl (R_assign rfl) ?_
      all_goals refine HL_nil ?_
      all_goals (
        refine HQ_then ?_
        refine hK3 _ _ _ _ ?_; clear hK3 K3
        refine HC_seq fun K4 hK4 => ?_
        refine HC_region ?_
        all_goals refine HL_r rfl rfl rfl rfl (R_move rfl) ?_
        all_goals refine HL_r rfl rfl rfl rfl (R_move rfl) ?_
        all_goals refine HL_r rfl rfl rfl rfl (R_move rfl) ?_
        all_goals refine HL_r rfl rfl rfl rfl (R_move rfl) ?_
        all_goals refine HL_r rfl rfl rfl rfl (R_move rfl) ?_
        all_goals refine HL_r rfl rfl rfl rfl (R_build (r := [_, _, _, _, _]) rfl rfl) ?_
        all_goals first
          | (refine HL_storeA (k := 0) (n := 5) (cs' := #[_, _, _, _, _]) (vs := #[_, _, _, _, _]) rfl rfl rfl rfl rfl rfl rfl (by exact Nat.le_of_ble_eq_true rfl) rfl (by first | (simp only [List.set_cons_zero, List.set_cons_succ]; exact rfl) | exact rfl) ?_)
          | (refine HL_storeA (k := 1) (n := 5) (cs' := #[_, _, _, _, _]) (vs := #[_, _, _, _, _]) rfl rfl rfl rfl rfl rfl rfl (by exact Nat.le_of_ble_eq_true rfl) rfl (by first | (simp only [List.set_cons_zero, List.set_cons_succ]; exact rfl) | exact rfl) ?_)
          | (refine HL_storeA (k := 2) (n := 5) (cs' := #[_, _, _, _, _]) (vs := #[_, _, _, _, _]) rfl rfl rfl rfl rfl rfl rfl (by exact Nat.le_of_ble_eq_true rfl) rfl (by first | (simp only [List.set_cons_zero, List.set_cons_succ]; exact rfl) | exact rfl) ?_)
          | (refine HL_storeA (k := 0) (n := 5) (vs := #[_, _, _, _, _]) rfl rfl rfl rfl rfl rfl rfl (by exact Nat.le_of_ble_eq_true rfl) (by first | (simp only [List.take_zero, List.nil_append, Array.toList_toArray, List.drop_succ_cons, List.drop_zero, List.take_succ_cons, List.cons_append, Nat.zero_add, Nat.reduceAdd, List.append_nil, List.drop_nil]; exact rfl) | exact rfl) (by first | (simp only [List.set_cons_zero, List.set_cons_succ]; exact rfl) | exact rfl) ?_)
          | (refine HL_storeA (k := 1) (n := 5) (vs := #[_, _, _, _, _]) rfl rfl rfl rfl rfl rfl rfl (by exact Nat.le_of_ble_eq_true rfl) (by first | (simp only [List.take_zero, List.nil_append, Array.toList_toArray, List.drop_succ_cons, List.drop_zero, List.take_succ_cons, List.cons_append, Nat.zero_add, Nat.reduceAdd, List.append_nil, List.drop_nil]; exact rfl) | exact rfl) (by first | (simp only [List.set_cons_zero, List.set_cons_succ]; exact rfl) | exact rfl) ?_)
          | (refine HL_storeA (k := 2) (n := 5) (vs := #[_, _, _, _, _]) rfl rfl rfl rfl rfl rfl rfl (by exact Nat.le_of_ble_eq_true rfl) (by first | (simp only [List.take_zero, List.nil_append, Array.toList_toArray, List.drop_succ_cons, List.drop_zero, List.take_succ_cons, List.cons_append, Nat.zero_add, Nat.reduceAdd, List.append_nil, List.drop_nil]; exact rfl) | exact rfl) (by first | (simp only [List.set_cons_zero, List.set_cons_succ]; exact rfl) | exact rfl) ?_)
        all_goals refine HL_nil ?_
        all_goals (
          refine HQ_then ?_
          refine hK4 _ _ _ _ ?_; clear hK4 K4
          refine HC_ret ?_
          first
            | refine HQ_post rfl rfl (.cons (res_cellA (vs := [_, _, _, _, _]) rfl (known_L (k := 0) rfl) rfl rfl) .nil) (fun w1 hs1 => ?_)
            | refine HQ_post rfl rfl (.cons (res_cellA (vs := [_, _, _, _, _]) rfl (known_L (k := 1) rfl) rfl rfl) .nil) (fun w1 hs1 => ?_)
            | refine HQ_post rfl rfl (.cons (res_cellA (vs := [_, _, _, _, _]) rfl (known_L (k := 2) rfl) rfl rfl) .nil) (fun w1 hs1 => ?_)
          exact ⟨(r1, r2), rfl, hs1.weakL (List.sublist_cons_self _ _)⟩
          skip)
        skip)
      skip)
    skip)
set_option maxRecDepth 10000 in
theorem E_packed1 (k : Nat) (a b : Int) (gl gh : FuncId) : PureE (α := Nat × Nat) Try.prog 61 [uV k, .int .i64 a, .int .i64 b, fV gl, .nilFunc].toArray (fun p => .agg #[uV k, .int .i64 a, .int .i64 b, .func (.func 81) #[] #[ptV p.1 0, ptV p.2 0], .func (.func 82) #[] #[ptV p.1 0, ptV p.2 0]]) (fun p => [(p.2, .cells #[.nilFunc] 115 (0, 0)), (p.1, .cells #[fV gl] 115 (0, 0))]) := by
  refine pureE_of_HC Try.func61 rfl rfl fun w => ?_
  refine HC_seq fun K1 hK1 => ?_
  refine HC_region ?_
  all_goals refine HL_box (cs := #[_]) rfl rfl rfl rfl fun r1 => ?_
  all_goals refine HL_box (cs := #[_]) rfl rfl rfl rfl fun r2 => ?_
  all_goals refine HL_alloc (cs := #[_, _, _, _, _]) rfl rfl rfl rfl fun r3 => ?_
  all_goals refine HL_nil ?_
  all_goals (
    refine HQ_then ?_
    refine hK1 _ _ _ _ ?_; clear hK1 K1
    refine HC_seq fun K2 hK2 => ?_
    refine HC_region ?_
    all_goals refine HL_r rfl rfl rfl rfl (R_makeFunc rfl rfl) ?_
    all_goals refine HL_r rfl rfl rfl rfl (R_assign rfl) ?_
    all_goals refine HL_nil ?_
    all_goals (
      refine HQ_then ?_
      refine hK2 _ _ _ _ ?_; clear hK2 K2
      refine HC_seq fun K3 hK3 => ?_
      refine HC_region ?_
      all_goals refine HL_r rfl rfl rfl rfl (R_makeFunc rfl rfl) ?_
      all_goals refine HL_r rfl rfl rfl rfl (R_assign rfl) ?_
      all_goals refine HL_nil ?_
      all_goals (
        refine HQ_then ?_
        refine hK3 _ _ _ _ ?_; clear hK3 K3
        refine HC_seq fun K4 hK4 => ?_
        refine HC_region ?_
        all_goals refine HL_r rfl rfl rfl rfl (R_move rfl) ?_
        all_goals refine HL_r rfl rfl rfl rfl (R_move rfl) ?_
        all_goals refine HL_r rfl rfl rfl rfl (R_move rfl) ?_
        all_goals refine HL_r rfl rfl rfl rfl (R_move rfl) ?_
        all_goals refine HL_r rfl rfl rfl rfl (R_move rfl) ?_
        all_goals refine HL_r rfl rfl rfl rfl (R_build (r := [_, _, _, _, _]) rfl rfl) ?_
        all_goals first
          | (refine HL_storeA (k := 0) (n := 5) (cs' := #[_, _, _, _, _]) (vs := #[_, _, _, _, _]) rfl rfl rfl rfl rfl rfl rfl (by exact Nat.le_of_ble_eq_true rfl) rfl (by first | (simp only [List.set_cons_zero, List.set_cons_succ]; exact rfl) | exact rfl) ?_)
          | (refine HL_storeA (k := 1) (n := 5) (cs' := #[_, _, _, _, _]) (vs := #[_, _, _, _, _]) rfl rfl rfl rfl rfl rfl rfl (by exact Nat.le_of_ble_eq_true rfl) rfl (by first | (simp only [List.set_cons_zero, List.set_cons_succ]; exact rfl) | exact rfl) ?_)
          | (refine HL_storeA (k := 2) (n := 5) (cs' := #[_, _, _, _, _]) (vs := #[_, _, _, _, _]) rfl rfl rfl rfl rfl rfl rfl (by exact Nat.le_of_ble_eq_true rfl) rfl (by first | (simp only [List.set_cons_zero, List.set_cons_succ]; exact rfl) | exact rfl) ?_)
          | (refine HL_storeA (k := 0) (n := 5) (vs := #[_, _, _, _, _]) rfl rfl rfl rfl rfl rfl rfl (by exact Nat.le_of_ble_eq_true rfl) (by first | (simp only [List.take_zero, List.nil_append, Array.toList_toArray, List.drop_succ_cons, List.drop_zero, List.take_succ_cons, List.cons_append, Nat.zero_add, Nat.reduceAdd, List.append_nil, List.drop_nil]; exact rfl) | exact rfl) (by first | (simp only [List.set_cons_zero, List.set_cons_succ]; exact rfl) | exact rfl) ?_)
          | (refine HL_storeA (k := 1) (n := 5) (vs := #[_, _, _, _, _]) rfl rfl rfl rfl rfl rfl rfl (by exact Nat.le_of_ble_eq_true rfl) (by first | (simp only [List.take_zero, List.nil_append, Array.toList_toArray, List.drop_succ_cons, List.drop_zero, List.take_succ_cons, List.cons_append, Nat.zero_add, Nat.reduceAdd, List.append_nil, List.drop_nil]; exact rfl) | exact rfl) (by first | (simp only [List.set_cons_zero, List.set_cons_succ]; exact rfl) | exact rfl) ?_)
          | (refine HL_storeA (k := 2) (n := 5) (vs := #[_, _, _, _, _]) rfl rfl rfl rfl rfl rfl rfl (by exact Nat.le_of_ble_eq_true rfl) (by first | (simp only [List.take_zero, List.nil_append, Array.toList_toArray, List.drop_succ_cons, List.drop_zero, List.take_succ_cons, List.cons_append, Nat.zero_add, Nat.reduceAdd, List.append_nil, List.drop_nil]; exact rfl) | exact rfl) (by first | (simp only [List.set_cons_zero, List.set_cons_succ]; exact rfl) | exact rfl) ?_)
        all_goals refine HL_nil ?_
        all_goals (
          refine HQ_then ?_
          refine hK4 _ _ _ _ ?_; clear hK4 K4
          refine HC_ret ?_
          first
            | refine HQ_post rfl rfl (.cons (res_cellA (vs := [_, _, _, _, _]) rfl (known_L (k := 0) rfl) rfl rfl) .nil) (fun w1 hs1 => ?_)
            | refine HQ_post rfl rfl (.cons (res_cellA (vs := [_, _, _, _, _]) rfl (known_L (k := 1) rfl) rfl rfl) .nil) (fun w1 hs1 => ?_)
            | refine HQ_post rfl rfl (.cons (res_cellA (vs := [_, _, _, _, _]) rfl (known_L (k := 2) rfl) rfl rfl) .nil) (fun w1 hs1 => ?_)
          exact ⟨(r1, r2), rfl, hs1.weakL (List.sublist_cons_self _ _)⟩
          skip)
        skip)
      skip)
    skip)
set_option maxRecDepth 10000 in
theorem E_plain (k : Nat) (a b : Int) (g : FuncId) : PureE (α := Nat) Try.prog 64 [uV k, .int .i64 a, .int .i64 b, fV g].toArray (fun p => .agg #[uV k, .int .i64 a, .int .i64 b, .func (.func 83) #[] #[ptV p 0], .func (.func 84) #[] #[ptV p 0]]) (fun p => [(p, .cells #[fV g] 119 (0, 0))]) := by
  refine pureE_of_HC Try.func64 rfl rfl fun w => ?_
  refine HC_seq fun K1 hK1 => ?_
  refine HC_region ?_
  all_goals refine HL_box (cs := #[_]) rfl rfl rfl rfl fun r1 => ?_
  all_goals refine HL_alloc (cs := #[_, _, _, _, _]) rfl rfl rfl rfl fun r2 => ?_
  all_goals refine HL_nil ?_
  all_goals (
    refine HQ_then ?_
    refine hK1 _ _ _ _ ?_; clear hK1 K1
    refine HC_seq fun K2 hK2 => ?_
    refine HC_region ?_
    all_goals refine HL_r rfl rfl rfl rfl (R_move rfl) ?_
    all_goals refine HL_r rfl rfl rfl rfl (R_move rfl) ?_
    all_goals refine HL_r rfl rfl rfl rfl (R_move rfl) ?_
    all_goals refine HL_r rfl rfl rfl rfl (R_makeFunc rfl rfl) ?_
    all_goals refine HL_r rfl rfl rfl rfl (R_makeFunc rfl rfl) ?_
    all_goals refine HL_r rfl rfl rfl rfl (R_build (r := [_, _, _, _, _]) rfl rfl) ?_
    all_goals first
      | (refine HL_storeA (k := 0) (n := 5) (cs' := #[_, _, _, _, _]) (vs := #[_, _, _, _, _]) rfl rfl rfl rfl rfl rfl rfl (by exact Nat.le_of_ble_eq_true rfl) rfl (by first | (simp only [List.set_cons_zero, List.set_cons_succ]; exact rfl) | exact rfl) ?_)
      | (refine HL_storeA (k := 1) (n := 5) (cs' := #[_, _, _, _, _]) (vs := #[_, _, _, _, _]) rfl rfl rfl rfl rfl rfl rfl (by exact Nat.le_of_ble_eq_true rfl) rfl (by first | (simp only [List.set_cons_zero, List.set_cons_succ]; exact rfl) | exact rfl) ?_)
      | (refine HL_storeA (k := 0) (n := 5) (vs := #[_, _, _, _, _]) rfl rfl rfl rfl rfl rfl rfl (by exact Nat.le_of_ble_eq_true rfl) (by first | (simp only [List.take_zero, List.nil_append, Array.toList_toArray, List.drop_succ_cons, List.drop_zero, List.take_succ_cons, List.cons_append, Nat.zero_add, Nat.reduceAdd, List.append_nil, List.drop_nil]; exact rfl) | exact rfl) (by first | (simp only [List.set_cons_zero, List.set_cons_succ]; exact rfl) | exact rfl) ?_)
      | (refine HL_storeA (k := 1) (n := 5) (vs := #[_, _, _, _, _]) rfl rfl rfl rfl rfl rfl rfl (by exact Nat.le_of_ble_eq_true rfl) (by first | (simp only [List.take_zero, List.nil_append, Array.toList_toArray, List.drop_succ_cons, List.drop_zero, List.take_succ_cons, List.cons_append, Nat.zero_add, Nat.reduceAdd, List.append_nil, List.drop_nil]; exact rfl) | exact rfl) (by first | (simp only [List.set_cons_zero, List.set_cons_succ]; exact rfl) | exact rfl) ?_)
    all_goals refine HL_nil ?_
    all_goals (
      refine HQ_then ?_
      refine hK2 _ _ _ _ ?_; clear hK2 K2
      refine HC_ret ?_
      first
        | refine HQ_post rfl rfl (.cons (res_cellA (vs := [_, _, _, _, _]) rfl (known_L (k := 0) rfl) rfl rfl) .nil) (fun w1 hs1 => ?_)
        | refine HQ_post rfl rfl (.cons (res_cellA (vs := [_, _, _, _, _]) rfl (known_L (k := 1) rfl) rfl rfl) .nil) (fun w1 hs1 => ?_)
      exact ⟨r1, rfl, hs1.weakL (List.sublist_cons_self _ _)⟩
      skip)
    skip)
def tabL (p : Nat → Nat) : List (Nat × Obj) := (p 0, .cells (tab.flatMap (rowC p)).toArray 60 (0, 0)) :: (rowB p 6 ++ (rowB p 5 ++ (rowB p 4 ++ (rowB p 3 ++ (rowB p 2 ++ (rowB p 1 ++ rowB p 0))))))
set_option maxRecDepth 10000 in
theorem E_table : PureE (α := Nat → Nat) Try.prog 43 [].toArray (fun p => .slice (some ⟨p 0, 0, none⟩) 7 7) tabL := by
  refine pureE_of_HC Try.func43 rfl rfl fun w => ?_
  refine HC_seq fun K1 hK1 => ?_
  refine HC_region ?_
  all_goals refine HL_r rfl rfl rfl rfl (R_assign rfl) ?_
  all_goals refine HL_nil ?_
  all_goals (
    refine HQ_then ?_
    refine hK1 _ _ _ _ ?_; clear hK1 K1
    refine HC_seq fun K2 hK2 => ?_
    refine HC_region ?_
    all_goals refine HL_r rfl rfl rfl rfl (R_assign rfl) ?_
    all_goals refine HL_nil ?_
    all_goals (
      refine HQ_then ?_
      refine hK2 _ _ _ _ ?_; clear hK2 K2
      refine HC_seq fun K3 hK3 => ?_
      refine HC_region ?_
      all_goals refine HL_callPE rfl rfl rfl (enters_of Try.func61 (by kernel_rfl) rfl) (E_packed2 0 0 5 62 63) fun pp => ?_
      all_goals obtain ⟨a1, a2⟩ := pp
      all_goals refine HL_callPE rfl rfl rfl (enters_of Try.func64 (by kernel_rfl) rfl) (E_plain 1 0 5 65) fun a3 => ?_
      all_goals refine HL_callPE rfl rfl rfl (enters_of Try.func64 (by kernel_rfl) rfl) (E_plain 5 0 2 66) fun a4 => ?_
      all_goals refine HL_r rfl rfl rfl rfl (R_move rfl) ?_
      all_goals refine HL_callPE rfl rfl rfl (enters_of Try.func61 (by kernel_rfl) rfl) (E_packed1 6 0 2 60 60) fun pp => ?_
      all_goals obtain ⟨a5, a6⟩ := pp
      all_goals refine HL_r rfl rfl rfl rfl (R_move rfl) ?_
      all_goals refine HL_callPE rfl rfl rfl (enters_of Try.func61 (by kernel_rfl) rfl) (E_packed2 3 3 5 60 67) fun pp => ?_
      all_goals obtain ⟨a7, a8⟩ := pp
      all_goals refine HL_callPE rfl rfl rfl (enters_of Try.func64 (by kernel_rfl) rfl) (E_plain 7 3 5 68) fun a9 => ?_
      all_goals refine HL_callPE rfl rfl rfl (enters_of Try.func61 (by kernel_rfl) rfl) (E_packed1 8 5 5 69 69) fun pp => ?_
      all_goals obtain ⟨a10, a11⟩ := pp
      all_goals refine HL_buildSlice (n := 7) (sz := 5) (vs := [_, _, _, _, _, _, _]) (zs := [_, _, _, _, _, _, _, _, _, _, _, _, _, _, _, _, _, _, _, _, _, _, _, _, _, _, _, _, _, _, _, _, _, _, _]) (r := tab.flatMap (rowC ([0, a1, a2, a3, a4, a5, a6, a7, a8, a9, a10, a11].getD · 0))) rfl rfl rfl rfl rfl rfl rfl rfl rfl (by rw [made_list]; exact rfl) rfl fun rt => ?_
      all_goals refine HL_r rfl rfl rfl rfl (R_assign rfl) ?_
      all_goals refine HL_nil ?_
      all_goals (
        refine HQ_then ?_
        refine hK3 _ _ _ _ ?_; clear hK3 K3
        refine HC_ret ?_
        refine HQ_post rfl rfl (.cons (res_tmp rfl) .nil) (fun w1 hs1 => ?_)
        exact ⟨([rt, a1, a2, a3, a4, a5, a6, a7, a8, a9, a10, a11].getD · 0), rfl, hs1⟩
        skip)
      skip)
    skip)
end Go.Proofs.Ytnkmbkndpoghdaa
namespace Go.Proofs.Ytnkmbkndpoghdaa
set_option linter.all false
open Go.SL Go.RowKit Go.Shelf
set_option maxRecDepth 10000 in
theorem E_rows (f : Int) : PureE (α := Nat) Try.prog 32 [.int .i64 f].toArray (fun p => .func (.func 42) #[] #[ptV p 0]) (fun p => [(p, .cells #[.int .i64 f] 3 (0, 0))]) := by
  refine pureE_of_HC Try.func32 rfl rfl fun w => ?_
  refine HC_seq fun K1 hK1 => ?_
  refine HC_region ?_
  all_goals refine HL_box (cs := #[_]) rfl rfl rfl rfl fun r1 => ?_
  all_goals refine HL_r rfl rfl rfl rfl (R_assign rfl) ?_
  all_goals refine HL_nil ?_
  all_goals (
    refine HQ_then ?_
    refine hK1 _ _ _ _ ?_; clear hK1 K1
    refine HC_seq fun K2 hK2 => ?_
    refine HC_region ?_
    all_goals refine HL_r rfl rfl rfl rfl (R_makeFunc rfl rfl) ?_
    all_goals refine HL_r rfl rfl rfl rfl (R_assign rfl) ?_
    all_goals refine HL_nil ?_
    all_goals (
      refine HQ_then ?_
      refine hK2 _ _ _ _ ?_; clear hK2 K2
      refine HC_ret ?_
      refine HQ_post rfl rfl (.cons (res_tmp rfl) .nil) (fun w1 hs1 => ?_)
      exact ⟨r1, rfl, hs1⟩
      skip)
    skip)
def nxT (f : Int) : Nat → List Value → List (Nat × Obj) → Nat → Prop := fun i v B i' => i < 7 ∧ i' = i + 1 ∧ ∃ p : Nat → Nat, v = [.agg (rowC p i).toArray, .bool (hasE f i)] ∧ B = rowB p i
theorem rowB_sub {p : Nat → Nat} {i : Nat} (hi : i < 7) : ∀ q ∈ rowB p i, q ∈ tabL p := by
  intro q hq
  unfold tabL
  rcases lt7 hi with rfl | rfl | rfl | rfl | rfl | rfl | rfl <;> simp only [List.mem_cons, List.mem_append, hq, true_or, or_true]
theorem has_yes {f : Int} (hf : Forked f) {i : Nat} (hi : i < 7) (h : f ≥ frN i) : decide (f ≤ toN i) = hasE f i := by rw [has_eq hf hi, decide_eq_true h, Bool.true_and]
theorem has_no {f : Int} (hf : Forked f) {i : Nat} (hi : i < 7) (h : ¬ f ≥ frN i) : false = hasE f i := by rw [has_eq hf hi, decide_eq_false h, Bool.false_and]
set_option maxRecDepth 10000 in
theorem I_rows {f : Int} (hf : Forked f) (b : Nat) : IterB Try.prog 42 [ptV b 0] [(b, .cells #[.int .i64 f] 3 (0, 0))] 0 (nxT f) (fun i => i = 7) := by
  refine iterB_of_HC Try.func42 rfl rfl fun q xids w2 XI XF hY => ?_
  refine HC_seq fun K1 hK1 => ?_
  refine HC_region ?_
  all_goals refine HL_callPE rfl rfl rfl (enters_of Try.func43 (by kernel_rfl) rfl) E_table fun p => ?_
  all_goals change HL _ _ _ (tabL p ++ []) _ _ _ _
  all_goals rw [List.append_nil]
  all_goals first
    | (refine HL_r rfl rfl rfl rfl (R_lenBs rfl rfl) ?_)
    | (refine HL_r rfl rfl rfl rfl (R_lenSl rfl rfl) ?_)
    | (refine HL_r rfl rfl rfl rfl (R_lenStr rfl rfl rfl) ?_)
    | (refine HL_r rfl rfl rfl rfl (R_pure rfl rfl rfl) ?_)
  all_goals refine HL_r rfl rfl rfl rfl (R_move rfl) ?_
  all_goals refine HL_nil ?_
  all_goals (
    refine HQ_then ?_
    refine hK1 _ _ _ _ ?_; clear hK1 K1
    refine HC_block ?_
    refine HC_loop (σ := Nat) (fun i => i ≤ 7) (fun i => [(0, .func (.yield q) #[] #[]), (1, ptV b 0), (5, .slice (some ⟨p 0, 0, none⟩) 7 7), (6, .int .i64 7), (7, .int .i64 (i : Int))]) (fun _ => tabL p) (fun i => XI i) (fun i => 7 - i) 0 (Nat.zero_le _) (.cons rfl (.cons rfl (.cons rfl (.cons rfl (.cons rfl .nil))))) (List.Sublist.refl _) (fun _ _ h => h) ?_
    intro i hi1
    refine HC_seq fun K2 hK2 => ?_
    refine HC_region ?_
    all_goals refine HL_r rfl rfl rfl rfl (R_pure rfl rfl rfl) ?_
    all_goals refine HL_nil ?_
    all_goals (
      refine HQ_then ?_
      refine hK2 _ _ _ _ ?_; clear hK2 K2
      refine HC_seq fun K3 hK3 => ?_
      refine HC_cond rfl (fun h4 => ?_) (fun h4 => ?_)
      · try exact Bool.noConfusion h4
        all_goals try simp only [decide_eq_true_eq, decide_eq_false_iff_not, beq_iff_eq, beq_eq_false_iff_ne, bne_iff_ne, bne_eq_false_iff_eq, Bool.not_eq_true', Bool.not_eq_false', ne_eq, Int.not_lt, Int.not_le, ge_iff_le, gt_iff_lt] at h4
        all_goals (
          refine HC_skip ?_
          refine HQ_then ?_
          refine hK3 _ _ _ _ ?_; clear hK3 K3
          refine HC_seq fun K5 hK5 => ?_
          refine HC_block ?_
          refine HC_seq fun K6 hK6 => ?_
          refine HC_region ?_
          all_goals refine HL_r rfl rfl rfl rfl (R_indexS (j := i) (m := 5) (off' := i * 5) rfl rfl rfl rfl rfl (by omega) (by omega)) ?_
          all_goals refine HL_r rfl rfl rfl rfl (R_loadA (n := 5) (vs := rowC p i) rfl (Or.inl List.mem_cons_self) rfl rfl (cat_get (rowC_len p) (tab_get (by omega))) rfl) ?_
          all_goals refine HL_alloc (cs := #[_, _, _, _, _]) rfl rfl rfl rfl fun r1 => ?_
          all_goals first
            | (refine HL_storeA (k := 0) (n := 5) (cs' := #[_, _, _, _, _]) (vs := #[_, _, _, _, _]) rfl rfl rfl rfl rfl rfl rfl (by exact Nat.le_of_ble_eq_true rfl) rfl (by first | (simp only [List.set_cons_zero, List.set_cons_succ]; exact rfl) | exact rfl) ?_)
            | (refine HL_storeA (k := 1) (n := 5) (cs' := #[_, _, _, _, _]) (vs := #[_, _, _, _, _]) rfl rfl rfl rfl rfl rfl rfl (by exact Nat.le_of_ble_eq_true rfl) rfl (by first | (simp only [List.set_cons_zero, List.set_cons_succ]; exact rfl) | exact rfl) ?_)
            | (refine HL_storeA (k := 0) (n := 5) (vs := #[_, _, _, _, _]) rfl rfl rfl rfl rfl rfl rfl (by exact Nat.le_of_ble_eq_true rfl) (by first | (simp only [List.take_zero, List.nil_append, Array.toList_toArray, List.drop_succ_cons, List.drop_zero, List.take_succ_cons, List.cons_append, Nat.zero_add, Nat.reduceAdd, List.append_nil, List.drop_nil]; exact rfl) | exact rfl) (by first | (simp only [List.set_cons_zero, List.set_cons_succ]; exact rfl) | exact rfl) ?_)
            | (refine HL_storeA (k := 1) (n := 5) (vs := #[_, _, _, _, _]) rfl rfl rfl rfl rfl rfl rfl (by exact Nat.le_of_ble_eq_true rfl) (by first | (simp only [List.take_zero, List.nil_append, Array.toList_toArray, List.drop_succ_cons, List.drop_zero, List.take_succ_cons, List.cons_append, Nat.zero_add, Nat.reduceAdd, List.append_nil, List.drop_nil]; exact rfl) | exact rfl) (by first | (simp only [List.set_cons_zero, List.set_cons_succ]; exact rfl) | exact rfl) ?_)
          all_goals refine HL_nil ?_
          all_goals (
            refine HQ_then ?_
            refine hK6 _ _ _ _ ?_; clear hK6 K6
            refine HC_seq fun K7 hK7 => ?_
            refine HC_region ?_
            all_goals refine HL_r rfl rfl rfl rfl (R_move rfl) ?_
            all_goals first
              | (refine HL_r rfl rfl rfl rfl (R_loadA (vs := [_, _, _, _, _]) rfl (known_L (k := 0) rfl) rfl rfl rfl rfl) ?_)
              | (refine HL_r rfl rfl rfl rfl (R_loadA (vs := [_, _, _, _, _]) rfl (known_L (k := 1) rfl) rfl rfl rfl rfl) ?_)
              | (refine HL_r rfl rfl rfl rfl (R_loadA (vs := [_, _, _, _, _]) rfl (known_R (k := 0) rfl) rfl rfl rfl rfl) ?_)
            all_goals first
              | (refine HL_r rfl rfl rfl rfl (R_load rfl (known_L (k := 0) rfl) rfl rfl) ?_)
              | (refine HL_r rfl rfl rfl rfl (R_load rfl (known_L (k := 1) rfl) rfl rfl) ?_)
              | (refine HL_r rfl rfl rfl rfl (R_load rfl (known_R (k := 0) rfl) rfl rfl) ?_)
            all_goals refine HL_r rfl rfl rfl rfl (R_fieldAddr rfl rfl (by first | (simp only [Nat.zero_add, Nat.reduceAdd, Nat.reduceMul, Nat.zero_mul, Nat.mul_one, Nat.add_zero]; exact rfl) | exact rfl)) ?_
            all_goals first
              | (refine HL_r rfl rfl rfl rfl (R_load rfl (known_L (k := 0) rfl) rfl rfl) ?_)
              | (refine HL_r rfl rfl rfl rfl (R_load rfl (known_L (k := 1) rfl) rfl rfl) ?_)
              | (refine HL_r rfl rfl rfl rfl (R_load rfl (known_R (k := 0) rfl) rfl rfl) ?_)
            all_goals refine HL_r rfl rfl rfl rfl (R_pure rfl rfl rfl) ?_
            all_goals refine HL_r rfl rfl rfl rfl (R_move rfl) ?_
            all_goals first
              | (refine HL_r rfl rfl rfl rfl (R_load rfl (known_L (k := 0) rfl) rfl rfl) ?_)
              | (refine HL_r rfl rfl rfl rfl (R_load rfl (known_L (k := 1) rfl) rfl rfl) ?_)
              | (refine HL_r rfl rfl rfl rfl (R_load rfl (known_R (k := 0) rfl) rfl rfl) ?_)
              | (refine HL_skip rfl rfl rfl ?_)
              | (refine HL_case 17 rfl (fun hb8 => ?_) (fun hb8 => ?_) <;> (try simp only [decide_eq_true_eq, decide_eq_false_iff_not, beq_iff_eq, beq_eq_false_iff_ne, bne_iff_ne, bne_eq_false_iff_eq, Bool.not_eq_true', Bool.not_eq_false', ne_eq, Int.not_lt, Int.not_le, ge_iff_le, gt_iff_lt] at hb8) <;> first | (refine HL_r rfl rfl rfl rfl (R_load rfl (known_L (k := 0) rfl) rfl rfl) ?_) | (refine HL_r rfl rfl rfl rfl (R_load rfl (known_L (k := 1) rfl) rfl rfl) ?_) | (refine HL_r rfl rfl rfl rfl (R_load rfl (known_R (k := 0) rfl) rfl rfl) ?_) | (refine HL_skip rfl rfl rfl ?_))
            all_goals first
              | (refine HL_r rfl rfl rfl rfl (R_fieldAddr rfl rfl (by first | (simp only [Nat.zero_add, Nat.reduceAdd, Nat.reduceMul, Nat.zero_mul, Nat.mul_one, Nat.add_zero]; exact rfl) | exact rfl)) ?_)
              | (refine HL_skip rfl rfl rfl ?_)
              | (refine HL_case 17 rfl (fun hb9 => ?_) (fun hb9 => ?_) <;> (try simp only [decide_eq_true_eq, decide_eq_false_iff_not, beq_iff_eq, beq_eq_false_iff_ne, bne_iff_ne, bne_eq_false_iff_eq, Bool.not_eq_true', Bool.not_eq_false', ne_eq, Int.not_lt, Int.not_le, ge_iff_le, gt_iff_lt] at hb9) <;> first | (refine HL_r rfl rfl rfl rfl (R_fieldAddr rfl rfl (by first | (simp only [Nat.zero_add, Nat.reduceAdd, Nat.reduceMul, Nat.zero_mul, Nat.mul_one, Nat.add_zero]; exact rfl) | exact rfl)) ?_) | (refine HL_skip rfl rfl rfl ?_))
            all_goals first
              | (refine HL_r rfl rfl rfl rfl (R_load rfl (known_L (k := 0) rfl) rfl rfl) ?_)
              | (refine HL_r rfl rfl rfl rfl (R_load rfl (known_L (k := 1) rfl) rfl rfl) ?_)
              | (refine HL_r rfl rfl rfl rfl (R_load rfl (known_R (k := 0) rfl) rfl rfl) ?_)
              | (refine HL_skip rfl rfl rfl ?_)
              | (refine HL_case 17 rfl (fun hb10 => ?_) (fun hb10 => ?_) <;> (try simp only [decide_eq_true_eq, decide_eq_false_iff_not, beq_iff_eq, beq_eq_false_iff_ne, bne_iff_ne, bne_eq_false_iff_eq, Bool.not_eq_true', Bool.not_eq_false', ne_eq, Int.not_lt, Int.not_le, ge_iff_le, gt_iff_lt] at hb10) <;> first | (refine HL_r rfl rfl rfl rfl (R_load rfl (known_L (k := 0) rfl) rfl rfl) ?_) | (refine HL_r rfl rfl rfl rfl (R_load rfl (known_L (k := 1) rfl) rfl rfl) ?_) | (refine HL_r rfl rfl rfl rfl (R_load rfl (known_R (k := 0) rfl) rfl rfl) ?_) | (refine HL_skip rfl rfl rfl ?_))
            all_goals first
              | (refine HL_r rfl rfl rfl rfl (R_pure rfl rfl rfl) ?_)
              | (refine HL_skip rfl rfl rfl ?_)
              | (refine HL_case 17 rfl (fun hb11 => ?_) (fun hb11 => ?_) <;> (try simp only [decide_eq_true_eq, decide_eq_false_iff_not, beq_iff_eq, beq_eq_false_iff_ne, bne_iff_ne, bne_eq_false_iff_eq, Bool.not_eq_true', Bool.not_eq_false', ne_eq, Int.not_lt, Int.not_le, ge_iff_le, gt_iff_lt] at hb11) <;> first | (refine HL_r rfl rfl rfl rfl (R_pure rfl rfl rfl) ?_) | (refine HL_skip rfl rfl rfl ?_))
            all_goals first
              | (refine HL_r rfl rfl rfl rfl (R_pickT rfl rfl) ?_)
              | (refine HL_r rfl rfl rfl rfl (R_pickF rfl rfl) ?_)
            all_goals first
              | (refine HL_as (congrArg Value.bool (has_yes hf (by omega) (by assumption))) ?_)
              | (refine HL_as (congrArg Value.bool (has_no hf (show i < 7 by omega) (by omega))) ?_)
            all_goals refine HL_yieldB (B := rowB p i) (XT := XI (i + 1)) (XF := XF) rfl rfl rfl rfl (hY i [.agg (rowC p i).toArray, .bool (hasE f i)] (rowB p i) (i + 1) ⟨by omega, rfl, p, rfl, rfl⟩) (fun q hq => List.mem_cons_of_mem _ (rowB_sub (by omega) q hq)) ?_ ?_
            all_goals refine HL_r rfl rfl rfl rfl (R_pure rfl rfl rfl) ?_
            all_goals refine HL_nil ?_
            all_goals (
              refine HQ_then ?_
              refine hK7 _ _ _ _ ?_; clear hK7 K7
              refine HC_cond rfl (fun h12 => ?_) (fun h12 => ?_)
              · try exact Bool.noConfusion h12
                all_goals try simp only [decide_eq_true_eq, decide_eq_false_iff_not, beq_iff_eq, beq_eq_false_iff_ne, bne_iff_ne, bne_eq_false_iff_eq, Bool.not_eq_true', Bool.not_eq_false', ne_eq, Int.not_lt, Int.not_le, ge_iff_le, gt_iff_lt] at h12
                all_goals (
                  refine HC_ret ?_
                  refine HQ_blockR ?_
                  refine HQ_thenR ?_; clear hK5 K5
                  refine HQ_thenR ?_
                  refine HQ_blockR ?_
                  refine HQ_post rfl rfl .nil (fun w1 hs1 => ?_)
                  obtain ⟨xs1, hx1⟩ := hs1.now
                  first
                    | exact ⟨⟨_, rfl⟩, hs1.keep, .inr ⟨_, hx1⟩⟩
                    | exact ⟨⟨_, rfl⟩, hs1.keep, .inl ⟨i, _, (by show i = 7; omega), hx1⟩⟩
                  skip)
              · try exact Bool.noConfusion h12
                all_goals try simp only [decide_eq_true_eq, decide_eq_false_iff_not, beq_iff_eq, beq_eq_false_iff_ne, bne_iff_ne, bne_eq_false_iff_eq, Bool.not_eq_true', Bool.not_eq_false', ne_eq, Int.not_lt, Int.not_le, ge_iff_le, gt_iff_lt] at h12
                all_goals (
                  refine HC_skip ?_
                  refine HQ_blockN ?_
                  refine HQ_then ?_
                  refine hK5 _ _ _ _ ?_; clear hK5 K5
                  refine HC_region ?_
                  all_goals first
                    | (refine HL_r rfl rfl rfl rfl (R_pure rfl rfl rfl) ?_; refine HL_wrap_i64 (by omega) (by omega) ?_)
                    | (refine HL_r rfl rfl rfl rfl (R_pure rfl rfl rfl) ?_)
                  all_goals refine HL_r rfl rfl rfl rfl (R_move rfl) ?_
                  all_goals refine HL_nil ?_
                  all_goals (
                    refine HQ_then ?_
                    exact HQ_again (i + 1) (by omega) (by omega) (.cons rfl (.cons rfl (.cons rfl (.cons rfl (.cons rfl .nil))))) (List.sublist_cons_self _ _) (fun _ _ h => h)
                    skip)
                  skip)
              skip)
            skip)
          skip)
      · try exact Bool.noConfusion h4
        all_goals try simp only [decide_eq_true_eq, decide_eq_false_iff_not, beq_iff_eq, beq_eq_false_iff_ne, bne_iff_ne, bne_eq_false_iff_eq, Bool.not_eq_true', Bool.not_eq_false', ne_eq, Int.not_lt, Int.not_le, ge_iff_le, gt_iff_lt] at h4
        all_goals (
          refine HC_exit ?_
          refine HQ_thenE ?_; clear hK3 K3
          refine HQ_thenE ?_
          refine HQ_blockE ?_
          refine HQ_postN rfl rfl .nil (fun w1 hs1 => ?_)
          obtain ⟨xs1, hx1⟩ := hs1.now
          first
            | exact ⟨⟨_, rfl⟩, hs1.keep, .inr ⟨_, hx1⟩⟩
            | exact ⟨⟨_, rfl⟩, hs1.keep, .inl ⟨i, _, (by show i = 7; omega), hx1⟩⟩
          skip)
      skip)
    skip)
end Go.Proofs.Ytnkmbkndpoghdaa
namespace Go.Proofs.Ytnkmbkndpoghdaa
set_option linter.all false
open Go.SL Go.RowKit Go.Shelf
theorem fold_snoc {f : Int} {g : Nat → W4} {i : Nat} : ∀ (l : List Nat) (out : Rec), foldE f g (l ++ [i]) out = if hasE f i then takeE (foldE f g l out) (g i) i else foldE f g l out
  | [], out => rfl
  | j :: l, out => by rw [List.cons_append, foldE, foldE, fold_snoc l]
theorem tab_succ {i : Nat} (h : i < 7) : tab.take (i + 1) = tab.take i ++ [i] := by
  rcases lt7 h with rfl | rfl | rfl | rfl | rfl | rfl | rfl <;> rfl
theorem nxT_len {f : Int} : ∀ i v B i', nxT f i v B i' → v.length = 2 := by
  rintro i v B i' ⟨_, _, p, rfl, _⟩; rfl
set_option maxRecDepth 10000 in
theorem P_kept {f : Int} (hf : Forked f) (r : Rec) : Pure Try.prog 31 [.int .i64 f, r.val].toArray (keptE f r).val := by
  refine pure_of_HC Try.func31 rfl rfl fun w => ?_
  refine HC_seq fun K1 hK1 => ?_
  refine HC_region ?_
  all_goals refine HL_box (cs := r.cells.toArray) rfl rfl rfl rfl fun rb => ?_
  all_goals refine HL_alloc (cs := #[_, _, _, _, _, _, _, _, _, _, _, _, _, _, _, _, _]) rfl rfl rfl rfl fun r1 => ?_
  all_goals refine HL_nil ?_
  all_goals (
    refine HQ_then ?_
    refine hK1 _ _ _ _ ?_; clear hK1 K1
    refine HC_seq fun K2 hK2 => ?_
    refine HC_region ?_
    all_goals refine HL_alloc (cs := #[_, _, _, _, _, _, _, _, _, _, _, _, _, _, _, _, _]) rfl rfl rfl rfl fun r2 => ?_
    all_goals refine HL_nil ?_
    all_goals (
      refine HQ_then ?_
      refine hK2 _ _ _ _ ?_; clear hK2 K2
      refine HC_seq fun K3 hK3 => ?_
      refine HC_seq fun K4 hK4 => ?_
      refine HC_region ?_
      all_goals refine HL_r rfl rfl rfl rfl (R_move rfl) ?_
      all_goals refine HL_callPE rfl rfl rfl (enters_of Try.func32 (by kernel_rfl) rfl) (E_rows f) fun b => ?_
      all_goals refine HL_nil ?_
      all_goals (
        refine HQ_then ?_
        refine hK4 _ _ _ _ ?_; clear hK4 K4
        refine HC_block ?_
        refine HC_sel [1, 0, 2, 3] (by decide) rfl ?_
        refine HC_rangeB (τ := Unit) (fun i (s : Rec) => i ≤ 7 ∧ s = foldE f (holdsE r) (tab.take i) rec0) (fun s => [(r2, .cells s.cells.toArray 29 (0, 0))]) (fun _ _ => False) (fun _ => []) [(b, .cells #[.int .i64 f] 3 (0, 0)), (r1, .cells rec0.cells.toArray 29 (0, 0)), (rb, .cells r.cells.toArray 29 (0, 0))] rec0 rfl rfl (enters_of Try.func42 (by kernel_rfl) rfl) (I_rows hf b) nxT_len rfl (by simp) rfl ⟨by decide, rfl⟩ ?_ ?_ ?_
        · rintro q Xr Xb w3 i _ _ _ s ⟨hi, rfl, p, rfl, rfl⟩ ⟨-, hs⟩ Kr hKr
          refine HC_seq fun K5 hK5 => ?_
          refine HC_region ?_
          all_goals refine HL_alloc (cs := #[_, _, _, _, _]) rfl rfl rfl rfl fun r3 => ?_
          all_goals first
            | (refine HL_storeA (k := 0) (n := 5) (cs' := #[_, _, _, _, _]) (vs := #[_, _, _, _, _]) rfl rfl rfl rfl rfl rfl rfl (by exact Nat.le_of_ble_eq_true rfl) rfl (by first | (simp only [List.set_cons_zero, List.set_cons_succ]; exact rfl) | exact rfl) ?_)
            | (refine HL_storeA (k := 1) (n := 5) (cs' := #[_, _, _, _, _]) (vs := #[_, _, _, _, _]) rfl rfl rfl rfl rfl rfl rfl (by exact Nat.le_of_ble_eq_true rfl) rfl (by first | (simp only [List.set_cons_zero, List.set_cons_succ]; exact rfl) | exact rfl) ?_)
            | (refine HL_storeA (k := 0) (n := 5) (vs := #[_, _, _, _, _]) rfl rfl rfl rfl rfl rfl rfl (by exact Nat.le_of_ble_eq_true rfl) (by first | (simp only [List.take_zero, List.nil_append, Array.toList_toArray, List.drop_succ_cons, List.drop_zero, List.take_succ_cons, List.cons_append, Nat.zero_add, Nat.reduceAdd, List.append_nil, List.drop_nil]; exact rfl) | exact rfl) (by first | (simp only [List.set_cons_zero, List.set_cons_succ]; exact rfl) | exact rfl) ?_)
            | (refine HL_storeA (k := 1) (n := 5) (vs := #[_, _, _, _, _]) rfl rfl rfl rfl rfl rfl rfl (by exact Nat.le_of_ble_eq_true rfl) (by first | (simp only [List.take_zero, List.nil_append, Array.toList_toArray, List.drop_succ_cons, List.drop_zero, List.take_succ_cons, List.cons_append, Nat.zero_add, Nat.reduceAdd, List.append_nil, List.drop_nil]; exact rfl) | exact rfl) (by first | (simp only [List.set_cons_zero, List.set_cons_succ]; exact rfl) | exact rfl) ?_)
          all_goals refine HL_nil ?_
          all_goals (
            refine HQ_then ?_
            refine hK5 _ _ _ _ ?_; clear hK5 K5
            refine HC_region ?_
            all_goals refine HL_r rfl rfl rfl rfl (R_assign rfl) ?_
            all_goals refine HL_nil ?_
            all_goals (
              refine HQ_then ?_
              refine hKr _ _ ?_; clear hKr
              refine HC_block ?_
              refine HC_seq fun K6 hK6 => ?_
              refine HC_region ?_
              all_goals refine HL_r rfl rfl rfl rfl (R_move rfl) ?_
              all_goals refine HL_nil ?_
              all_goals (
                refine HQ_then ?_
                refine hK6 _ _ _ _ ?_; clear hK6 K6
                refine HC_cond rfl (fun h7 => ?_) (fun h7 => ?_)
                · try exact Bool.noConfusion h7
                  all_goals try simp only [decide_eq_true_eq, decide_eq_false_iff_not, beq_iff_eq, beq_eq_false_iff_ne, bne_iff_ne, bne_eq_false_iff_eq, Bool.not_eq_true', Bool.not_eq_false', ne_eq, Int.not_lt, Int.not_le, ge_iff_le, gt_iff_lt] at h7
                  all_goals (
                    refine HC_draw 6 (by kernel_rfl) (by kernel_rfl) ?_
                    all_goals refine HD_r rfl rfl rfl (R_fieldAddr rfl rfl (by first | (simp only [Nat.zero_add, Nat.reduceAdd, Nat.reduceMul, Nat.zero_mul, Nat.mul_one, Nat.add_zero]; exact rfl) | exact rfl)) ?_
                    all_goals first
                      | (refine HD_r rfl rfl rfl (R_load rfl (known_L (k := 0) rfl) rfl rfl) ?_)
                      | (refine HD_r rfl rfl rfl (R_load rfl (known_L (k := 1) rfl) rfl rfl) ?_)
                    all_goals refine HD_r rfl rfl rfl (R_fieldAddr rfl rfl (by first | (simp only [Nat.zero_add, Nat.reduceAdd, Nat.reduceMul, Nat.zero_mul, Nat.mul_one, Nat.add_zero]; exact rfl) | exact rfl)) ?_
                    all_goals first
                      | (refine HD_r rfl rfl rfl (R_load rfl (known_L (k := 0) rfl) rfl rfl) ?_)
                      | (refine HD_r rfl rfl rfl (R_load rfl (known_L (k := 1) rfl) rfl rfl) ?_)
                    all_goals refine HD_r rfl rfl rfl (R_loadArr (xs := r.cells) (n := 17) rfl (Or.inr (List.mem_append_left _ (List.mem_append_right _ (List.mem_cons_of_mem _ (List.mem_cons_of_mem _ List.mem_cons_self))))) rfl rfl rfl) ?_
                    all_goals refine HD_callR rfl rfl rfl (enters_hold hi) (S_holdR hi (fun q hq => hq) r) (fun q hq => Or.inr (List.mem_append_left _ (List.mem_append_left _ hq))) ?_
                    all_goals refine HD_end ?_
                    all_goals refine HL_callMT (k := 1) rfl rfl rfl rfl rfl (enters_take hi) (S_takeR hi (fun q hq => hq) s (holdsE r i)) (fun q hq => Or.inr (List.mem_append_left _ (List.mem_append_left _ hq))) fun _ => ?_
                    all_goals refine HL_nil ?_
                    all_goals (
                      refine HQ_blockN ?_
                      first
                        | (refine HQ_sel [0] (L' := [_]) (by decide) rfl ?_
                           exact HQ_round (takeE s (holdsE r i) i) ⟨by omega, by rw [tab_succ hi, fold_snoc, ← hs, if_pos (by assumption)]⟩ rfl)
                        | (refine HQ_sel [1] (L' := [_]) (by decide) rfl ?_
                           exact HQ_round s ⟨by omega, by rw [tab_succ hi, fold_snoc, ← hs, if_neg (by simp_all)]⟩ rfl)
                      skip)
                    skip)
                · try exact Bool.noConfusion h7
                  all_goals try simp only [decide_eq_true_eq, decide_eq_false_iff_not, beq_iff_eq, beq_eq_false_iff_ne, bne_iff_ne, bne_eq_false_iff_eq, Bool.not_eq_true', Bool.not_eq_false', ne_eq, Int.not_lt, Int.not_le, ge_iff_le, gt_iff_lt] at h7
                  all_goals (
                    refine HC_skip ?_
                    refine HQ_blockN ?_
                    first
                      | (refine HQ_sel [0] (L' := [_]) (by decide) rfl ?_
                         exact HQ_round (takeE s (holdsE r i) i) ⟨by omega, by rw [tab_succ hi, fold_snoc, ← hs, if_pos (by assumption)]⟩ rfl)
                      | (refine HQ_sel [1] (L' := [_]) (by decide) rfl ?_
                         exact HQ_round s ⟨by omega, by rw [tab_succ hi, fold_snoc, ← hs, if_neg (by simp_all)]⟩ rfl)
                    skip)
                skip)
              skip)
            skip)
        · rintro D i s hfi ⟨-, hs⟩
          obtain rfl : i = 7 := hfi
          refine HQ_blockN ?_
          refine HQ_then ?_
          refine hK3 _ _ _ _ ?_; clear hK3 K3
          refine HC_seq fun K8 hK8 => ?_
          refine HC_region ?_
          all_goals refine HL_r rfl rfl rfl rfl (R_loadArr (xs := s.cells) (n := 17) rfl (known_L (k := 1) rfl) rfl rfl rfl) ?_
          all_goals refine HL_storeArr (k := 3) (n := 17) (ys := s.cells) rfl rfl rfl rfl rfl rfl rfl rfl rfl ?_
          all_goals refine HL_nil ?_
          all_goals (
            refine HQ_then ?_
            refine hK8 _ _ _ _ ?_; clear hK8 K8
            refine HC_ret ?_
            refine HQ_mark (k := 0) rfl rfl ?_
            refine HQ_post rfl rfl (.cons (res_cellA (vs := s.cells) rfl (known_L (k := 3) rfl) rfl rfl) .nil) (fun w1 hs1 => ?_)
            exact ⟨by rw [hs]; rfl, hs1.keep⟩
            skip)
        · exact fun _ _ _ h => h.elim
        skip)
      skip)
    skip)
end Go.Proofs.Ytnkmbkndpoghdaa
namespace Go.Proofs.Ytnkmbkndpoghdaa
set_option linter.all false
open Go.SL Go.RowKit Go.Shelf
theorem rec_eq (x y : Rec) : (eqS (uV x.number) (uV y.number) && (eqS (uV x.time) (uV y.time) && (eqCells [uV x.base.a, uV x.base.b, uV x.base.c, uV x.base.d] [uV y.base.a, uV y.base.b, uV y.base.c, uV y.base.d] && (eqCells [uV x.blob.a, uV x.blob.b, uV x.blob.c, uV x.blob.d] [uV y.blob.a, uV y.blob.b, uV y.blob.c, uV y.blob.d] && (eqCells [uV x.overhead.a, uV x.overhead.b, uV x.overhead.c, uV x.overhead.d] [uV y.overhead.a, uV y.overhead.b, uV y.overhead.c, uV y.overhead.d] && (eqS (uV x.scalar) (uV y.scalar) && (eqS (uV x.extra) (uV y.extra) && (eqS (uV x.operator) (uV y.operator) && true)))))))) = decide (x = y) := by
  rw [Bool.eq_iff_iff]
  simp only [eqU, eqW, Bool.and_eq_true, decide_eq_true_eq, Bool.and_true]
  obtain ⟨a, b, c, d, e, f, g, h⟩ := x
  obtain ⟨a', b', c', d', e', f', g', h'⟩ := y
  simp only [Rec.mk.injEq]
theorem fits_in {f : Int} (hf : Forked f) (r : Rec) : (keptE f r = r → fitsE f r = 0) ∧ (¬ keptE f r = r → fitsE f r = 2) := by
  unfold fitsE
  rw [if_neg (by simpa using hf)]
  exact ⟨fun h => if_pos ((kept_iff hf).1 h), fun h => if_neg fun h2 => h ((kept_iff hf).2 h2)⟩
set_option maxRecDepth 10000 in
theorem P_Fits (f : Int) (r : Rec) : Pure Try.prog 13 [.int .i64 f, r.val].toArray (.int .i64 (fitsE f r)) := by
  by_cases hf : Forked f
  · obtain ⟨h1, h2⟩ := fits_in hf r
    refine pure_of_HC Try.func13 rfl rfl fun w => ?_
    refine HC_seq fun K1 hK1 => ?_
    refine HC_region ?_
    all_goals refine HL_box (cs := r.cells.toArray) rfl rfl rfl rfl fun rb => ?_
    all_goals refine HL_r rfl rfl rfl rfl (R_assign rfl) ?_
    all_goals refine HL_nil ?_
    all_goals (
      refine HQ_then ?_
      refine hK1 _ _ _ _ ?_; clear hK1 K1
      refine HC_seq fun K2 hK2 => ?_
      refine HC_block ?_
      refine HC_seq fun K3 hK3 => ?_
      refine HC_region ?_
      all_goals refine HL_r rfl rfl rfl rfl (R_move rfl) ?_
      all_goals refine HL_callP rfl rfl rfl (enters_of Try.func30 (by kernel_rfl) rfl) (P_forked f) ?_
      all_goals refine HL_r rfl rfl rfl rfl (R_pure rfl rfl rfl) ?_
      all_goals refine HL_r rfl rfl rfl rfl (R_assign rfl) ?_
      all_goals refine HL_nil ?_
      all_goals (
        refine HQ_then ?_
        refine hK3 _ _ _ _ ?_; clear hK3 K3
        refine HC_cond rfl (fun h4 => ?_) (fun h4 => ?_)
        · try exact Bool.noConfusion h4
          all_goals try simp only [decide_eq_true_eq, decide_eq_false_iff_not, beq_iff_eq, beq_eq_false_iff_ne, bne_iff_ne, bne_eq_false_iff_eq, Bool.not_eq_true', Bool.not_eq_false', ne_eq, Int.not_lt, Int.not_le, ge_iff_le, gt_iff_lt] at h4
          all_goals (
            refine HC_seq fun K5 hK5 => ?_
            refine HC_region ?_
            all_goals refine HL_r rfl rfl rfl rfl (R_assign rfl) ?_
            all_goals refine HL_nil ?_
            all_goals (
              refine HQ_then ?_
              refine hK5 _ _ _ _ ?_; clear hK5 K5
              refine HC_ret ?_
              refine HQ_blockR ?_
              refine HQ_thenR ?_; clear hK2 K2
              refine HQ_post rfl rfl (.cons (res_tmp rfl) .nil) (fun w1 hs1 => ?_)
              first
                | (rw [h2 (by assumption)]; exact ⟨rfl, hs1.keep⟩)
                | (rw [h1 (by assumption)]; exact ⟨rfl, hs1.keep⟩)
                | (exfalso; first | contradiction | (simp_all; done))
                | trace_state
              skip)
            skip)
        · try exact Bool.noConfusion h4
          all_goals try simp only [decide_eq_true_eq, decide_eq_false_iff_not, beq_iff_eq, beq_eq_false_iff_ne, bne_iff_ne, bne_eq_false_iff_eq, Bool.not_eq_true', Bool.not_eq_false', ne_eq, Int.not_lt, Int.not_le, ge_iff_le, gt_iff_lt] at h4
          all_goals (
            refine HC_seq fun K6 hK6 => ?_
            refine HC_draw 6 (by kernel_rfl) (by kernel_rfl) ?_
            all_goals refine HD_r rfl rfl rfl (R_move rfl) ?_
            all_goals refine HD_r rfl rfl rfl (R_loadArr (xs := r.cells) (n := 17) rfl (known_L (k := 0) rfl) rfl rfl rfl) ?_
            all_goals refine HD_callP rfl rfl rfl (enters_of Try.func31 (by kernel_rfl) rfl) (P_kept hf r) ?_
            all_goals refine HD_r rfl rfl rfl (R_loadArr (xs := r.cells) (n := 17) rfl (known_L (k := 0) rfl) rfl rfl rfl) ?_
            all_goals refine HD_r rfl rfl rfl (R_neStr (xs := (keptE f r).cells) (ys := r.cells) rfl rfl rfl (by kernel_rfl) (by kernel_rfl) (.scal (by decide) rfl rfl rfl rfl rfl (.scal (by decide) rfl rfl rfl rfl rfl (.arr (by decide) rfl rfl rfl rfl rfl rfl rfl rfl rfl rfl (.arr (by decide) rfl rfl rfl rfl rfl rfl rfl rfl rfl rfl (.arr (by decide) rfl rfl rfl rfl rfl rfl rfl rfl rfl rfl (.scal (by decide) rfl rfl rfl rfl rfl (.scal (by decide) rfl rfl rfl rfl rfl (.scal (by decide) rfl rfl rfl rfl rfl .nil))))))))) ?_; refine HD_as (congrArg (fun b => Value.bool (!b)) (rec_eq (keptE f r) r)) ?_
            all_goals refine HD_r rfl rfl rfl (R_assign rfl) ?_
            all_goals refine HD_end ?_
            all_goals refine HL_nil ?_
            all_goals (
              refine HQ_then ?_
              refine hK6 _ _ _ _ ?_; clear hK6 K6
              refine HC_cond rfl (fun h7 => ?_) (fun h7 => ?_)
              · try exact Bool.noConfusion h7
                all_goals try simp only [decide_eq_true_eq, decide_eq_false_iff_not, beq_iff_eq, beq_eq_false_iff_ne, bne_iff_ne, bne_eq_false_iff_eq, Bool.not_eq_true', Bool.not_eq_false', ne_eq, Int.not_lt, Int.not_le, ge_iff_le, gt_iff_lt] at h7
                all_goals (
                  refine HC_seq fun K8 hK8 => ?_
                  refine HC_region ?_
                  all_goals refine HL_r rfl rfl rfl rfl (R_assign rfl) ?_
                  all_goals refine HL_nil ?_
                  all_goals (
                    refine HQ_then ?_
                    refine hK8 _ _ _ _ ?_; clear hK8 K8
                    refine HC_ret ?_
                    refine HQ_blockR ?_
                    refine HQ_thenR ?_; clear hK2 K2
                    refine HQ_post rfl rfl (.cons (res_tmp rfl) .nil) (fun w1 hs1 => ?_)
                    first
                      | (rw [h2 (by assumption)]; exact ⟨rfl, hs1.keep⟩)
                      | (rw [h1 (by assumption)]; exact ⟨rfl, hs1.keep⟩)
                      | (exfalso; first | contradiction | (simp_all; done))
                      | trace_state
                    skip)
                  skip)
              · try exact Bool.noConfusion h7
                all_goals try simp only [decide_eq_true_eq, decide_eq_false_iff_not, beq_iff_eq, beq_eq_false_iff_ne, bne_iff_ne, bne_eq_false_iff_eq, Bool.not_eq_true', Bool.not_eq_false', ne_eq, Int.not_lt, Int.not_le, ge_iff_le, gt_iff_lt] at h7
                all_goals (
                  refine HC_skip ?_
                  refine HQ_blockN ?_
                  refine HQ_then ?_
                  refine hK2 _ _ _ _ ?_; clear hK2 K2
                  refine HC_seq fun K9 hK9 => ?_
                  refine HC_region ?_
                  all_goals refine HL_r rfl rfl rfl rfl (R_assign rfl) ?_
                  all_goals refine HL_nil ?_
                  all_goals (
                    refine HQ_then ?_
                    refine hK9 _ _ _ _ ?_; clear hK9 K9
                    refine HC_ret ?_
                    refine HQ_post rfl rfl (.cons (res_tmp rfl) .nil) (fun w1 hs1 => ?_)
                    first
                      | (rw [h2 (by assumption)]; exact ⟨rfl, hs1.keep⟩)
                      | (rw [h1 (by assumption)]; exact ⟨rfl, hs1.keep⟩)
                      | (exfalso; first | contradiction | (simp_all; done))
                      | trace_state
                    skip)
                  skip)
              skip)
            skip)
        skip)
      skip)
  · have e : fitsE f r = 10 := by unfold fitsE; rw [if_pos hf]
    rw [e]
    refine pure_of_HC Try.func13 rfl rfl fun w => ?_
    refine HC_seq fun K1 hK1 => ?_
    refine HC_region ?_
    all_goals refine HL_box (cs := #[_, _, _, _, _, _, _, _, _, _, _, _, _, _, _, _, _]) rfl rfl rfl rfl fun r1 => ?_
    all_goals refine HL_r rfl rfl rfl rfl (R_assign rfl) ?_
    all_goals refine HL_nil ?_
    all_goals (
      refine HQ_then ?_
      refine hK1 _ _ _ _ ?_; clear hK1 K1
      refine HC_seq fun K2 hK2 => ?_
      refine HC_block ?_
      refine HC_seq fun K3 hK3 => ?_
      refine HC_region ?_
      all_goals refine HL_r rfl rfl rfl rfl (R_move rfl) ?_
      all_goals refine HL_callP rfl rfl rfl (enters_of Try.func30 (by kernel_rfl) rfl) (P_forked f) ?_
      all_goals refine HL_r rfl rfl rfl rfl (R_pure rfl rfl rfl) ?_
      all_goals refine HL_r rfl rfl rfl rfl (R_assign rfl) ?_
      all_goals refine HL_nil ?_
      all_goals (
        refine HQ_then ?_
        refine hK3 _ _ _ _ ?_; clear hK3 K3
        refine HC_cond rfl (fun h4 => ?_) (fun h4 => ?_)
        · try exact Bool.noConfusion h4
          all_goals try simp only [decide_eq_true_eq, decide_eq_false_iff_not, beq_iff_eq, beq_eq_false_iff_ne, bne_iff_ne, bne_eq_false_iff_eq, Bool.not_eq_true', Bool.not_eq_false', ne_eq, Int.not_lt, Int.not_le, ge_iff_le, gt_iff_lt] at h4
          all_goals (
            refine HC_seq fun K5 hK5 => ?_
            refine HC_region ?_
            all_goals refine HL_r rfl rfl rfl rfl (R_assign rfl) ?_
            all_goals refine HL_nil ?_
            all_goals (
              refine HQ_then ?_
              refine hK5 _ _ _ _ ?_; clear hK5 K5
              refine HC_ret ?_
              refine HQ_blockR ?_
              refine HQ_thenR ?_; clear hK2 K2
              refine HQ_post rfl rfl (.cons (res_tmp rfl) .nil) (fun w1 hs1 => ?_)
              first | exact ⟨rfl, hs1.keep⟩ | (exfalso; first | contradiction | (simp_all; done))
              skip)
            skip)
        · try exact Bool.noConfusion h4
          all_goals try simp only [decide_eq_true_eq, decide_eq_false_iff_not, beq_iff_eq, beq_eq_false_iff_ne, bne_iff_ne, bne_eq_false_iff_eq, Bool.not_eq_true', Bool.not_eq_false', ne_eq, Int.not_lt, Int.not_le, ge_iff_le, gt_iff_lt] at h4
          all_goals (
            refine HC_seq fun K6 hK6 => ?_
            refine HC_draw 6 (by kernel_rfl) (by kernel_rfl) ?_
            all_goals refine HD_r rfl rfl rfl (R_move rfl) ?_
            all_goals refine HD_r rfl rfl rfl (R_loadA (vs := [_, _, _, _, _, _, _, _, _, _, _, _, _, _, _, _, _]) rfl (known_L (k := 0) rfl) rfl rfl rfl rfl) ?_
            all_goals exfalso; first | contradiction | (simp_all; done)
            all_goals refine HD_r rfl rfl rfl (R_loadA (vs := [_, _, _, _, _, _, _, _, _, _, _, _, _, _, _, _, _]) rfl (known_L (k := 0) rfl) rfl rfl rfl rfl) ?_
            all_goals refine HD_r rfl rfl rfl (R_pure rfl rfl rfl) ?_
            all_goals refine HD_r rfl rfl rfl (R_assign rfl) ?_
            all_goals refine HD_end ?_
            all_goals refine HL_nil ?_
            all_goals (
              refine HQ_then ?_
              refine hK6 _ _ _ _ ?_; clear hK6 K6
              refine HC_cond rfl (fun h7 => ?_) (fun h7 => ?_)
              · try exact Bool.noConfusion h7
                all_goals try simp only [decide_eq_true_eq, decide_eq_false_iff_not, beq_iff_eq, beq_eq_false_iff_ne, bne_iff_ne, bne_eq_false_iff_eq, Bool.not_eq_true', Bool.not_eq_false', ne_eq, Int.not_lt, Int.not_le, ge_iff_le, gt_iff_lt] at h7
                all_goals (
                  refine HC_seq fun K8 hK8 => ?_
                  refine HC_region ?_
                  all_goals refine HL_r rfl rfl rfl rfl (R_assign rfl) ?_
                  all_goals refine HL_nil ?_
                  all_goals (
                    refine HQ_then ?_
                    refine hK8 _ _ _ _ ?_; clear hK8 K8
                    refine HC_ret ?_
                    refine HQ_blockR ?_
                    refine HQ_thenR ?_; clear hK2 K2
                    refine HQ_post rfl rfl (.cons (res_tmp rfl) .nil) (fun w1 hs1 => ?_)
                    first | exact ⟨rfl, hs1.keep⟩ | (exfalso; first | contradiction | (simp_all; done))
                    skip)
                  skip)
              · try exact Bool.noConfusion h7
                all_goals try simp only [decide_eq_true_eq, decide_eq_false_iff_not, beq_iff_eq, beq_eq_false_iff_ne, bne_iff_ne, bne_eq_false_iff_eq, Bool.not_eq_true', Bool.not_eq_false', ne_eq, Int.not_lt, Int.not_le, ge_iff_le, gt_iff_lt] at h7
                all_goals (
                  refine HC_skip ?_
                  refine HQ_blockN ?_
                  refine HQ_then ?_
                  refine hK2 _ _ _ _ ?_; clear hK2 K2
                  refine HC_seq fun K9 hK9 => ?_
                  refine HC_region ?_
                  all_goals refine HL_r rfl rfl rfl rfl (R_assign rfl) ?_
                  all_goals refine HL_nil ?_
                  all_goals (
                    refine HQ_then ?_
                    refine hK9 _ _ _ _ ?_; clear hK9 K9
                    refine HC_ret ?_
                    refine HQ_post rfl rfl (.cons (res_tmp rfl) .nil) (fun w1 hs1 => ?_)
                    first | exact ⟨rfl, hs1.keep⟩ | (exfalso; first | contradiction | (simp_all; done))
                    skip)
                  skip)
              skip)
            skip)
        skip)
      skip)
theorem P_unf (s : BS) : Pure Try.prog 41 [strV s].toArray (.tuple #[wV (uW s).l, .int .i64 (unfR s).2]) := by
  rw [uW_l]; exact P_word_Unfixed s
set_option maxRecDepth 10000 in
theorem S_read {R : List (Nat × Obj)} {f : Int} (hf : Forked f) {a : AcL} (ha : a.In R) : PureR Try.prog 29 [.int .i64 f, a.val].toArray (readE f a.er).val R := by
  refine pureR_of_HC Try.func29 rfl rfl fun w => ?_
  refine HC_seq fun K1 hK1 => ?_
  refine HC_region ?_
  all_goals refine HL_box (cs := a.cells.toArray) rfl rfl rfl rfl fun rb => ?_
  all_goals refine HL_alloc (cs := #[_, _, _, _, _, _, _, _, _, _, _, _, _, _, _, _, _]) rfl rfl rfl rfl fun r1 => ?_
  all_goals refine HL_nil ?_
  all_goals (
    refine HQ_then ?_
    refine hK1 _ _ _ _ ?_; clear hK1 K1
    refine HC_seq fun K2 hK2 => ?_
    refine HC_region ?_
    all_goals refine HL_alloc (cs := #[_, _, _, _, _, _, _, _, _, _, _, _, _, _, _, _, _]) rfl rfl rfl rfl fun r2 => ?_
    all_goals refine HL_nil ?_
    all_goals (
      refine HQ_then ?_
      refine hK2 _ _ _ _ ?_; clear hK2 K2
      refine HC_seq fun K3 hK3 => ?_
      refine HC_seq fun K4 hK4 => ?_
      refine HC_region ?_
      all_goals refine HL_r rfl rfl rfl rfl (R_move rfl) ?_
      all_goals refine HL_callPE rfl rfl rfl (enters_of Try.func32 (by kernel_rfl) rfl) (E_rows f) fun b => ?_
      all_goals refine HL_nil ?_
      all_goals (
        refine HQ_then ?_
        refine hK4 _ _ _ _ ?_; clear hK4 K4
        refine HC_block ?_
        refine HC_sel [1, 0, 2, 3] (by decide) rfl ?_
        refine HC_rangeB (τ := Unit) (fun i (s : Rec) => i ≤ 7 ∧ s = foldE f (fun i => uW (slotE a.er (keyE (keyN i)))) (tab.take i) rec0) (fun s => [(r2, .cells s.cells.toArray 29 (0, 0))]) (fun _ _ => False) (fun _ => []) [(b, .cells #[.int .i64 f] 3 (0, 0)), (r1, .cells rec0.cells.toArray 29 (0, 0)), (rb, .cells a.cells.toArray 37 (0, 0))] rec0 rfl rfl (enters_of Try.func42 (by kernel_rfl) rfl) (I_rows hf b) nxT_len rfl (by simp) rfl ⟨by decide, rfl⟩ ?_ ?_ ?_
        · rintro q Xr Xb w3 i _ _ _ s ⟨hi, rfl, p, rfl, rfl⟩ ⟨-, hs⟩ Kr hKr
          refine HC_seq fun K5 hK5 => ?_
          refine HC_region ?_
          all_goals refine HL_alloc (cs := #[_, _, _, _, _]) rfl rfl rfl rfl fun r3 => ?_
          all_goals first
            | (refine HL_storeA (k := 0) (n := 5) (cs' := #[_, _, _, _, _]) (vs := #[_, _, _, _, _]) rfl rfl rfl rfl rfl rfl rfl (by exact Nat.le_of_ble_eq_true rfl) rfl (by first | (simp only [List.set_cons_zero, List.set_cons_succ]; exact rfl) | exact rfl) ?_)
            | (refine HL_storeA (k := 1) (n := 5) (cs' := #[_, _, _, _, _]) (vs := #[_, _, _, _, _]) rfl rfl rfl rfl rfl rfl rfl (by exact Nat.le_of_ble_eq_true rfl) rfl (by first | (simp only [List.set_cons_zero, List.set_cons_succ]; exact rfl) | exact rfl) ?_)
            | (refine HL_storeA (k := 2) (n := 5) (cs' := #[_, _, _, _, _]) (vs := #[_, _, _, _, _]) rfl rfl rfl rfl rfl rfl rfl (by exact Nat.le_of_ble_eq_true rfl) rfl (by first | (simp only [List.set_cons_zero, List.set_cons_succ]; exact rfl) | exact rfl) ?_)
            | (refine HL_storeA (k := 0) (n := 5) (vs := #[_, _, _, _, _]) rfl rfl rfl rfl rfl rfl rfl (by exact Nat.le_of_ble_eq_true rfl) (by first | (simp only [List.take_zero, List.nil_append, Array.toList_toArray, List.drop_succ_cons, List.drop_zero, List.take_succ_cons, List.cons_append, Nat.zero_add, Nat.reduceAdd, List.append_nil, List.drop_nil]; exact rfl) | exact rfl) (by first | (simp only [List.set_cons_zero, List.set_cons_succ]; exact rfl) | exact rfl) ?_)
            | (refine HL_storeA (k := 1) (n := 5) (vs := #[_, _, _, _, _]) rfl rfl rfl rfl rfl rfl rfl (by exact Nat.le_of_ble_eq_true rfl) (by first | (simp only [List.take_zero, List.nil_append, Array.toList_toArray, List.drop_succ_cons, List.drop_zero, List.take_succ_cons, List.cons_append, Nat.zero_add, Nat.reduceAdd, List.append_nil, List.drop_nil]; exact rfl) | exact rfl) (by first | (simp only [List.set_cons_zero, List.set_cons_succ]; exact rfl) | exact rfl) ?_)
            | (refine HL_storeA (k := 2) (n := 5) (vs := #[_, _, _, _, _]) rfl rfl rfl rfl rfl rfl rfl (by exact Nat.le_of_ble_eq_true rfl) (by first | (simp only [List.take_zero, List.nil_append, Array.toList_toArray, List.drop_succ_cons, List.drop_zero, List.take_succ_cons, List.cons_append, Nat.zero_add, Nat.reduceAdd, List.append_nil, List.drop_nil]; exact rfl) | exact rfl) (by first | (simp only [List.set_cons_zero, List.set_cons_succ]; exact rfl) | exact rfl) ?_)
          all_goals refine HL_nil ?_
          all_goals (
            refine HQ_then ?_
            refine hK5 _ _ _ _ ?_; clear hK5 K5
            refine HC_region ?_
            all_goals refine HL_r rfl rfl rfl rfl (R_assign rfl) ?_
            all_goals refine HL_nil ?_
            all_goals (
              refine HQ_then ?_
              refine hKr _ _ ?_; clear hKr
              refine HC_block ?_
              refine HC_seq fun K6 hK6 => ?_
              refine HC_region ?_
              all_goals refine HL_r rfl rfl rfl rfl (R_move rfl) ?_
              all_goals refine HL_nil ?_
              all_goals (
                refine HQ_then ?_
                refine hK6 _ _ _ _ ?_; clear hK6 K6
                refine HC_cond rfl (fun h7 => ?_) (fun h7 => ?_)
                · try exact Bool.noConfusion h7
                  all_goals try simp only [decide_eq_true_eq, decide_eq_false_iff_not, beq_iff_eq, beq_eq_false_iff_ne, bne_iff_ne, bne_eq_false_iff_eq, Bool.not_eq_true', Bool.not_eq_false', ne_eq, Int.not_lt, Int.not_le, ge_iff_le, gt_iff_lt] at h7
                  all_goals (
                    refine HC_seq fun K8 hK8 => ?_
                    refine HC_drawB [] [(1, .pure), (3, .pure), (5, .pure), (6, .pure), (7, .pure), (8, .pure), (9, .grow (geNew ptrV (.cells #[.int .u64 0, .int .u64 0, .int .u64 0, .int .u64 0] 27 (0, 0)))), (10, .turn), (11, .pure)] 12 [0, 1, 2, 3, 4, 5, 6, 7, 8, 9, 10, 11] (by kernel_rfl) (by kernel_rfl) (by first | exact (fun _ h => nomatch h) | simp [SubS] | (intro p hp; simp [hp])) ?_
                    all_goals refine HB_r (k := 0) rfl rfl rfl rfl rfl (R_loadArr (xs := a.cells) (n := 8) rfl (Or.inr (List.mem_append_left _ (List.mem_append_right _ (List.mem_cons_of_mem _ (List.mem_cons_of_mem _ List.mem_cons_self))))) rfl rfl rfl) ?_
                    all_goals refine HB_p (k := 1) rfl rfl rfl rfl rfl (fun _ hS => (R_fieldAddr rfl rfl (by first | (simp only [Nat.zero_add, Nat.reduceAdd, Nat.reduceMul, Nat.zero_mul, Nat.mul_one, Nat.add_zero]; exact rfl) | exact rfl))) ?_
                    all_goals first
                      | (refine HB_r (k := 2) rfl rfl rfl rfl rfl (R_load rfl (known_L (k := 0) rfl) rfl rfl) ?_)
                      | (refine HB_r (k := 2) rfl rfl rfl rfl rfl (R_load rfl (known_L (k := 1) rfl) rfl rfl) ?_)
                      | (refine HB_r (k := 2) rfl rfl rfl rfl rfl (R_load rfl (known_L (k := 2) rfl) rfl rfl) ?_)
                    all_goals refine HB_callP (k := 3) rfl rfl rfl rfl rfl (enters_of Try.func33 (by kernel_rfl) rfl) (P_lkey (keyN_u i)) ?_
                    all_goals refine HB_callR (k := 4) rfl rfl rfl rfl rfl (enters_of Try.func10 (by kernel_rfl) rfl) (S_Slot ha (keyE (keyN i))) (fun q hq => Or.inr (List.mem_append_right _ hq)) ?_
                    all_goals refine HB_callP (k := 5) rfl rfl rfl rfl rfl (enters_of Try.func41 (by kernel_rfl) rfl) (P_unf _) ?_
                    all_goals refine HB_p (k := 6) rfl rfl rfl rfl rfl (fun _ hS => (R_move rfl)) ?_
                    all_goals refine HB_p (k := 7) rfl rfl rfl rfl rfl (fun _ hS => (R_extract rfl rfl)) ?_
                    all_goals refine HB_p (k := 8) rfl rfl rfl rfl rfl (fun _ hS => (R_extract rfl rfl)) ?_
                    all_goals refine HB_alloc (k := 9) (cs := #[_, _, _, _]) rfl rfl rfl rfl rfl rfl fun r4 => ?_
                    all_goals first
                      | (refine HB_storeArr (k := 10) (q := 0) (n := 4) (ys := [_, _, _, _]) rfl rfl rfl rfl rfl rfl rfl rfl rfl rfl (by first | (simp only [List.set_cons_zero, List.set_cons_succ]; exact rfl) | exact rfl) (by first | exact (fun _ h => nomatch h) | simp [SubS] | (intro p hp; simp [hp])) ?_)
                      | (refine HB_storeArr (k := 10) (q := 1) (n := 4) (ys := [_, _, _, _]) rfl rfl rfl rfl rfl rfl rfl rfl rfl rfl (by first | (simp only [List.set_cons_zero, List.set_cons_succ]; exact rfl) | exact rfl) (by first | exact (fun _ h => nomatch h) | simp [SubS] | (intro p hp; simp [hp])) ?_)
                      | (refine HB_storeArr (k := 10) (q := 2) (n := 4) (ys := [_, _, _, _]) rfl rfl rfl rfl rfl rfl rfl rfl rfl rfl (by first | (simp only [List.set_cons_zero, List.set_cons_succ]; exact rfl) | exact rfl) (by first | exact (fun _ h => nomatch h) | simp [SubS] | (intro p hp; simp [hp])) ?_)
                    all_goals refine HB_p (k := 11) rfl rfl rfl rfl rfl (fun _ hS => (R_assign rfl)) ?_
                    all_goals refine HB_end ?_
                    all_goals refine HL_nil ?_
                    all_goals (
                      refine HQ_then ?_
                      refine hK8 _ _ _ _ ?_; clear hK8 K8
                      refine HC_region ?_
                      all_goals refine HL_r rfl rfl rfl rfl (R_fieldAddr rfl rfl (by first | (simp only [Nat.zero_add, Nat.reduceAdd, Nat.reduceMul, Nat.zero_mul, Nat.mul_one, Nat.add_zero]; exact rfl) | exact rfl)) ?_
                      all_goals first
                        | (refine HL_r rfl rfl rfl rfl (R_load rfl (known_L (k := 0) rfl) rfl rfl) ?_)
                        | (refine HL_r rfl rfl rfl rfl (R_load rfl (known_L (k := 1) rfl) rfl rfl) ?_)
                        | (refine HL_r rfl rfl rfl rfl (R_load rfl (known_L (k := 2) rfl) rfl rfl) ?_)
                      all_goals first
                        | (refine HL_r rfl rfl rfl rfl (R_loadA (vs := [_, _, _, _]) rfl (known_L (k := 0) rfl) rfl rfl rfl rfl) ?_)
                        | (refine HL_r rfl rfl rfl rfl (R_loadA (vs := [_, _, _, _]) rfl (known_L (k := 1) rfl) rfl rfl rfl rfl) ?_)
                        | (refine HL_r rfl rfl rfl rfl (R_loadA (vs := [_, _, _, _]) rfl (known_L (k := 2) rfl) rfl rfl rfl rfl) ?_)
                      all_goals refine HL_callMT (k := 2) rfl rfl rfl rfl rfl (enters_take hi) (S_takeR hi (fun q hq => hq) s (uW (slotE a.er (keyE (keyN i))))) (fun q hq => Or.inr (List.mem_append_left _ (List.mem_append_left _ hq))) fun _ => ?_
                      all_goals refine HL_nil ?_
                      all_goals (
                        refine HQ_blockN ?_
                        first
                          | (refine HQ_sel [0] (L' := [_]) (by decide) rfl ?_
                             exact HQ_round (takeE s (uW (slotE a.er (keyE (keyN i)))) i) ⟨by omega, by rw [tab_succ hi, fold_snoc, ← hs, if_pos (by assumption)]⟩ rfl)
                          | (refine HQ_sel [1] (L' := [_]) (by decide) rfl ?_
                             exact HQ_round s ⟨by omega, by rw [tab_succ hi, fold_snoc, ← hs, if_neg (by simp_all)]⟩ rfl)
                        skip)
                      skip)
                    skip)
                · try exact Bool.noConfusion h7
                  all_goals try simp only [decide_eq_true_eq, decide_eq_false_iff_not, beq_iff_eq, beq_eq_false_iff_ne, bne_iff_ne, bne_eq_false_iff_eq, Bool.not_eq_true', Bool.not_eq_false', ne_eq, Int.not_lt, Int.not_le, ge_iff_le, gt_iff_lt] at h7
                  all_goals (
                    refine HC_skip ?_
                    refine HQ_blockN ?_
                    first
                      | (refine HQ_sel [0] (L' := [_]) (by decide) rfl ?_
                         exact HQ_round (takeE s (uW (slotE a.er (keyE (keyN i)))) i) ⟨by omega, by rw [tab_succ hi, fold_snoc, ← hs, if_pos (by assumption)]⟩ rfl)
                      | (refine HQ_sel [1] (L' := [_]) (by decide) rfl ?_
                         exact HQ_round s ⟨by omega, by rw [tab_succ hi, fold_snoc, ← hs, if_neg (by simp_all)]⟩ rfl)
                    skip)
                skip)
              skip)
            skip)
        · rintro D i s hfi ⟨-, hs⟩
          obtain rfl : i = 7 := hfi
          refine HQ_blockN ?_
          refine HQ_then ?_
          refine hK3 _ _ _ _ ?_; clear hK3 K3
          refine HC_seq fun K9 hK9 => ?_
          refine HC_region ?_
          all_goals refine HL_r rfl rfl rfl rfl (R_loadArr (xs := s.cells) (n := 17) rfl (known_L (k := 1) rfl) rfl rfl rfl) ?_
          all_goals refine HL_storeArr (k := 3) (n := 17) (ys := s.cells) rfl rfl rfl rfl rfl rfl rfl rfl rfl ?_
          all_goals refine HL_nil ?_
          all_goals (
            refine HQ_then ?_
            refine hK9 _ _ _ _ ?_; clear hK9 K9
            refine HC_ret ?_
            refine HQ_mark (k := 0) rfl rfl ?_
            refine HQ_post rfl rfl (.cons (res_cellA (vs := s.cells) rfl (known_L (k := 3) rfl) rfl rfl) .nil) (fun w1 hs1 => ?_)
            exact ⟨by rw [hs]; rfl, hs1.keep⟩
            skip)
        · exact fun _ _ _ h => h.elim
        skip)
      skip)
    skip)
end Go.Proofs.Ytnkmbkndpoghdaa
namespace Go.Proofs.Ytnkmbkndpoghdaa
set_option linter.all false
open Go.SL Go.RowKit Go.Shelf
theorem P_ofN {f : Int} (hf : Forked f) {i : Nat} (hi : i < 2) : Pure Try.prog 19 [.int .i64 f, .int .i64 (i : Int)].toArray (.tuple #[strV (codeE f i).1, .bool (codeE f i).2]) := by
  have : i = 0 ∨ i = 1 := by omega
  rcases this with rfl | rfl
  · exact P_of0 hf
  · exact P_of1 hf
def wrU (f : Int) (s : List AcE) : Nat → Int
  | 0 => 0
  | i + 1 => if wrongE f s i then 2 else wrU f s i
theorem wrong_er (f : Int) (s : StL) (i : Nat) : wrongE f s.er i = ((codeE f i).2 && !decide ((findL s (addrE i)).code = (codeE f i).1)) := by
  unfold wrongE
  rw [← find_er]
  show ((codeE f i).2 && decide (¬ (findL s (addrE i)).code = (codeE f i).1)) = _
  rw [decide_not]
theorem lack_er (f : Int) (s : StL) (i : Nat) : lackE f s.er i = ((codeE f i).2 && !foundB s (addrE i)) := by
  unfold lackE
  rw [found_eq]
  cases findS s.er (addrE i) <;> rfl
theorem check_in {f : Int} (hf : Forked f) (s : StL) : checkE f s.er = if chkS s.er ≠ 0 then chkS s.er else if lackE f s.er (0 : Nat) = true ∨ lackE f s.er (1 : Nat) = true then 12 else if ¬ wrU f s.er 2 = 0 then 2 else if tableB f (findL s A0).er (readE f (findL s A0).er) tab = true then 0 else 8 := by
  unfold checkE
  rw [if_neg (by simpa using hf), find_er]
  have e : (¬ wrU f s.er 2 = 0) = ((wrongE f s.er 0 || wrongE f s.er 1) = true) := by
    unfold wrU wrU wrU
    show (¬ (if wrongE f s.er 1 = true then (2 : Int) else if wrongE f s.er 0 = true then 2 else 0) = 0) = _
    cases wrongE f s.er 0 <;> cases wrongE f s.er 1 <;> simp
  simp only [e, Bool.or_eq_true]
  rfl
theorem table_bad {f : Int} {a : AcE} {r : Rec} {i : Nat} (hi : i < 7) (h : ¬ slotE a (keyE (keyN i)) = (rowW f r i).2) : tableB f a r tab = false := by
  rw [← Bool.not_eq_true, table_iff]
  intro h2
  exact h (h2 i (List.mem_of_getElem? (tab_get hi)))
theorem row_yes {f : Int} {r : Rec} {i : Nat} (h : hasE f i = true) : bW (holdsE r i) = (rowW f r i).2 := by unfold rowW; rw [if_pos h]
theorem row_no {f : Int} {r : Rec} {i : Nat} (h : hasE f i = false) : noneB = (rowW f r i).2 := by unfold rowW; rw [if_neg (by rw [h]; simp)]
set_option maxRecDepth 10000 in
theorem S_lCheck {R : List (Nat × Obj)} (f : Int) {s : StL} (hs : s.In R) : PureR Try.prog 14 [.int .i64 f, s.val].toArray (.int .i64 (checkE f s.er)) R := by
  by_cases hf : Forked f
  · have hc := S_Check hs
    have hE := check_in hf s
    have hA := find_in hs A0
    have hrd := S_read hf hA
    rw [hE]
    refine pureR_of_HC Try.func14 rfl rfl fun w => ?_
    refine HC_seq fun K1 hK1 => ?_
    refine HC_region ?_
    all_goals refine HL_box (cs := s.cells.toArray) rfl rfl rfl rfl fun rb => ?_
    all_goals refine HL_alloc (cs := #[_]) rfl rfl rfl rfl fun r1 => ?_
    all_goals refine HL_nil ?_
    all_goals (
      refine HQ_then ?_
      refine hK1 _ _ _ _ ?_; clear hK1 K1
      refine HC_seq fun K2 hK2 => ?_
      refine HC_seq fun K3 hK3 => ?_
      refine HC_region ?_
      all_goals refine HL_r rfl rfl rfl rfl (R_move rfl) ?_
      all_goals refine HL_callP rfl rfl rfl (enters_of Try.func30 (by kernel_rfl) rfl) (P_forked f) ?_
      all_goals refine HL_r rfl rfl rfl rfl (R_pure rfl rfl rfl) ?_
      all_goals refine HL_nil ?_
      all_goals (
        refine HQ_then ?_
        refine hK3 _ _ _ _ ?_; clear hK3 K3
        refine HC_cond rfl (fun h4 => ?_) (fun h4 => ?_)
        · try exact Bool.noConfusion h4
          all_goals try simp only [decide_eq_true_eq, decide_eq_false_iff_not, beq_iff_eq, beq_eq_false_iff_ne, bne_iff_ne, bne_eq_false_iff_eq, Bool.not_eq_true', Bool.not_eq_false', ne_eq, Int.not_lt, Int.not_le, ge_iff_le, gt_iff_lt] at h4
          all_goals (
            refine HC_seq fun K5 hK5 => ?_
            refine HC_region ?_
            all_goals (refine HL_store (k := 0) rfl rfl rfl rfl rfl rfl rfl rfl (by first | (simp only [List.setIfInBounds_toArray, List.set_cons_zero, List.set_cons_succ]; exact rfl) | exact rfl) (by first | (simp only [List.set_cons_zero, List.set_cons_succ]; exact rfl) | exact rfl) ?_)
            all_goals refine HL_nil ?_
            all_goals (
              refine HQ_then ?_
              refine hK5 _ _ _ _ ?_; clear hK5 K5
              refine HC_ret ?_
              refine HQ_thenR ?_; clear hK2 K2
              first
                | (refine HQ_mark (k := 0) rfl rfl ?_
                   refine HQ_post rfl rfl (.cons (res_cell rfl (known_L (k := 1) rfl) rfl rfl) .nil) (fun w1 hs1 => ?_)
                   rw [if_neg (by omega), if_neg hnl, if_neg (by omega)]
                   first
                     | (rw [if_pos htab]; exact ⟨rfl, hs1.keep⟩)
                     | (rw [if_neg (by rw [htab]; simp)]; exact ⟨rfl, hs1.keep⟩))
                | (refine HQ_post rfl rfl (.cons (res_cell rfl (known_L (k := 0) rfl) rfl rfl) .nil) (fun w1 hs1 => ?_)
                   first
                     | (rw [if_pos (by omega)]; exact ⟨rfl, hs1.keep⟩)
                     | (rw [if_neg (by omega), if_neg hnl, if_pos (by omega)]
                        have h2 : wrU f s.er 2 = 2 := by
                          have h3 : ¬ wrU f s.er 2 = 0 := by omega
                          unfold wrU wrU wrU at h3 ⊢
                          split at h3 <;> split <;> simp_all
                        rw [h2]; exact ⟨rfl, hs1.keep⟩)
                     | (exfalso; first | contradiction | (simp_all; done)))
                | (refine HQ_post rfl rfl (.cons (res_cell rfl (known_L (k := 1) rfl) rfl rfl) .nil) (fun w1 hs1 => ?_)
                   rw [if_neg (by omega), if_pos (by have h01 : i = 0 ∨ i = 1 := by omega
                                                     rcases h01 with rfl | rfl
                                                     · exact Or.inl hlk
                                                     · exact Or.inr hlk)]
                   exact ⟨rfl, hs1.keep⟩)
              skip)
            skip)
        · try exact Bool.noConfusion h4
          all_goals try simp only [decide_eq_true_eq, decide_eq_false_iff_not, beq_iff_eq, beq_eq_false_iff_ne, bne_iff_ne, bne_eq_false_iff_eq, Bool.not_eq_true', Bool.not_eq_false', ne_eq, Int.not_lt, Int.not_le, ge_iff_le, gt_iff_lt] at h4
          all_goals (
            refine HC_skip ?_
            refine HQ_then ?_
            refine hK2 _ _ _ _ ?_; clear hK2 K2
            refine HC_seq fun K6 hK6 => ?_
            refine HC_seq fun K7 hK7 => ?_
            refine HC_region ?_
            all_goals (refine HL_r rfl rfl rfl rfl (R_loadA (vs := [_]) rfl (known_L (k := 1) rfl) rfl rfl rfl rfl) ?_)
            all_goals refine HL_callR rfl rfl rfl (enters_of Try.func16 (by kernel_rfl) rfl) hc (fun q hq => Or.inr hq) ?_
            all_goals refine HL_r rfl rfl rfl rfl (R_assign rfl) ?_
            all_goals refine HL_nil ?_
            all_goals (
              refine HQ_then ?_
              refine hK7 _ _ _ _ ?_; clear hK7 K7
              refine HC_seq fun K8 hK8 => ?_
              refine HC_region ?_
              all_goals refine HL_r rfl rfl rfl rfl (R_move rfl) ?_
              all_goals refine HL_r rfl rfl rfl rfl (R_pure rfl rfl rfl) ?_
              all_goals refine HL_nil ?_
              all_goals (
                refine HQ_then ?_
                refine hK8 _ _ _ _ ?_; clear hK8 K8
                refine HC_cond rfl (fun h9 => ?_) (fun h9 => ?_)
                · try exact Bool.noConfusion h9
                  all_goals try simp only [decide_eq_true_eq, decide_eq_false_iff_not, beq_iff_eq, beq_eq_false_iff_ne, bne_iff_ne, bne_eq_false_iff_eq, Bool.not_eq_true', Bool.not_eq_false', ne_eq, Int.not_lt, Int.not_le, ge_iff_le, gt_iff_lt] at h9
                  all_goals (
                    refine HC_seq fun K10 hK10 => ?_
                    refine HC_region ?_
                    all_goals refine HL_r rfl rfl rfl rfl (R_move rfl) ?_
                    all_goals (refine HL_store (k := 0) rfl rfl rfl rfl rfl rfl rfl rfl (by first | (simp only [List.setIfInBounds_toArray, List.set_cons_zero, List.set_cons_succ]; exact rfl) | exact rfl) (by first | (simp only [List.set_cons_zero, List.set_cons_succ]; exact rfl) | exact rfl) ?_)
                    all_goals refine HL_nil ?_
                    all_goals (
                      refine HQ_then ?_
                      refine hK10 _ _ _ _ ?_; clear hK10 K10
                      refine HC_ret ?_
                      refine HQ_thenR ?_; clear hK6 K6
                      first
                        | (refine HQ_mark (k := 0) rfl rfl ?_
                           refine HQ_post rfl rfl (.cons (res_cell rfl (known_L (k := 1) rfl) rfl rfl) .nil) (fun w1 hs1 => ?_)
                           rw [if_neg (by omega), if_neg hnl, if_neg (by omega)]
                           first
                             | (rw [if_pos htab]; exact ⟨rfl, hs1.keep⟩)
                             | (rw [if_neg (by rw [htab]; simp)]; exact ⟨rfl, hs1.keep⟩))
                        | (refine HQ_post rfl rfl (.cons (res_cell rfl (known_L (k := 0) rfl) rfl rfl) .nil) (fun w1 hs1 => ?_)
                           first
                             | (rw [if_pos (by omega)]; exact ⟨rfl, hs1.keep⟩)
                             | (rw [if_neg (by omega), if_neg hnl, if_pos (by omega)]
                                have h2 : wrU f s.er 2 = 2 := by
                                  have h3 : ¬ wrU f s.er 2 = 0 := by omega
                                  unfold wrU wrU wrU at h3 ⊢
                                  split at h3 <;> split <;> simp_all
                                rw [h2]; exact ⟨rfl, hs1.keep⟩)
                             | (exfalso; first | contradiction | (simp_all; done)))
                        | (refine HQ_post rfl rfl (.cons (res_cell rfl (known_L (k := 1) rfl) rfl rfl) .nil) (fun w1 hs1 => ?_)
                           rw [if_neg (by omega), if_pos (by have h01 : i = 0 ∨ i = 1 := by omega
                                                             rcases h01 with rfl | rfl
                                                             · exact Or.inl hlk
                                                             · exact Or.inr hlk)]
                           exact ⟨rfl, hs1.keep⟩)
                      skip)
                    skip)
                · try exact Bool.noConfusion h9
                  all_goals try simp only [decide_eq_true_eq, decide_eq_false_iff_not, beq_iff_eq, beq_eq_false_iff_ne, bne_iff_ne, bne_eq_false_iff_eq, Bool.not_eq_true', Bool.not_eq_false', ne_eq, Int.not_lt, Int.not_le, ge_iff_le, gt_iff_lt] at h9
                  all_goals (
                    refine HC_skip ?_
                    refine HQ_then ?_
                    refine hK6 _ _ _ _ ?_; clear hK6 K6
                    refine HC_seq fun K11 hK11 => ?_
                    refine HC_region ?_
                    all_goals refine HL_r rfl rfl rfl rfl (R_assign rfl) ?_
                    all_goals refine HL_nil ?_
                    all_goals (
                      refine HQ_then ?_
                      refine hK11 _ _ _ _ ?_; clear hK11 K11
                      refine HC_seq fun K12 hK12 => ?_
                      refine HC_seq fun K13 hK13 => ?_
                      refine HC_region ?_
                      all_goals refine HL_r rfl rfl rfl rfl (R_move rfl) ?_
                      all_goals refine HL_nil ?_
                      all_goals (
                        refine HQ_then ?_
                        refine hK13 _ _ _ _ ?_; clear hK13 K13
                        refine HC_block ?_
                        have hc0 : chkS s.er = 0 := by omega
                        refine HC_loop (σ := Nat) (fun i => i ≤ 2 ∧ ∀ j, j < i → lackE f s.er (j : Nat) = false) (fun i => [(0, .int .i64 f), (3, ptV rb 0), (4, ptV r1 0), (6, .int .i64 (wrU f s.er i)), (26, .int .i64 (i : Int))]) (fun _ => [(r1, .cells #[.int .i64 0] 32 (0, 0)), (rb, .cells s.cells.toArray 24 (0, 0))]) (fun _ _ _ => True) (fun i => 2 - i) 0 ⟨by omega, fun j hj => absurd hj (by omega)⟩ (.cons rfl (.cons rfl (.cons rfl (.cons rfl (.cons rfl .nil))))) (List.Sublist.refl _) (fun _ _ h => h) ?_
                        rintro i ⟨hi2, hinv⟩
                        refine HC_seq fun K14 hK14 => ?_
                        refine HC_region ?_
                        all_goals refine HL_r rfl rfl rfl rfl (R_pure rfl rfl rfl) ?_
                        all_goals refine HL_nil ?_
                        all_goals (
                          refine HQ_then ?_
                          refine hK14 _ _ _ _ ?_; clear hK14 K14
                          refine HC_seq fun K15 hK15 => ?_
                          refine HC_cond rfl (fun h16 => ?_) (fun h16 => ?_)
                          · try exact Bool.noConfusion h16
                            all_goals try simp only [decide_eq_true_eq, decide_eq_false_iff_not, beq_iff_eq, beq_eq_false_iff_ne, bne_iff_ne, bne_eq_false_iff_eq, Bool.not_eq_true', Bool.not_eq_false', ne_eq, Int.not_lt, Int.not_le, ge_iff_le, gt_iff_lt] at h16
                            all_goals (
                              refine HC_skip ?_
                              refine HQ_then ?_
                              refine hK15 _ _ _ _ ?_; clear hK15 K15
                              refine HC_seq fun K17 hK17 => ?_
                              refine HC_block ?_
                              refine HC_seq fun K18 hK18 => ?_
                              refine HC_region ?_
                              all_goals refine HL_r rfl rfl rfl rfl (R_move rfl) ?_
                              all_goals refine HL_r rfl rfl rfl rfl (R_assign rfl) ?_
                              all_goals refine HL_nil ?_
                              all_goals (
                                refine HQ_then ?_
                                refine hK18 _ _ _ _ ?_; clear hK18 K18
                                refine HC_seq fun K19 hK19 => ?_
                                have hi : i < 2 := by omega
                                refine HC_region ?_
                                all_goals refine HL_r rfl rfl rfl rfl (R_move rfl) ?_
                                all_goals refine HL_r rfl rfl rfl rfl (R_move rfl) ?_
                                all_goals refine HL_callP rfl rfl rfl (enters_of Try.func19 (by kernel_rfl) rfl) (P_ofN hf hi) ?_
                                all_goals refine HL_r rfl rfl rfl rfl (R_move rfl) ?_
                                all_goals refine HL_r rfl rfl rfl rfl (R_extract rfl rfl) ?_
                                all_goals refine HL_r rfl rfl rfl rfl (R_extract rfl rfl) ?_
                                all_goals refine HL_r rfl rfl rfl rfl (R_assign rfl) ?_
                                all_goals refine HL_r rfl rfl rfl rfl (R_assign rfl) ?_
                                all_goals refine HL_nil ?_
                                all_goals (
                                  refine HQ_then ?_
                                  refine hK19 _ _ _ _ ?_; clear hK19 K19
                                  refine HC_seq fun K20 hK20 => ?_
                                  refine HC_drawB [] [(1, .pure), (2, .pure), (4, .pure), (5, .pure), (6, .pure), (7, .grow (geNew ptrV (.cells #[.string ⟨#[]⟩, .int .u64 0, .int .u64 0, .int .u64 0, .int .u64 0, .int .u64 0, .string ⟨#[]⟩, .slice none 0 0] 37 (0, 0)))), (8, .turn), (9, .pure)] 10 [0, 1, 2, 3, 4, 5, 6, 7, 8, 9] (by kernel_rfl) (by kernel_rfl) (by first | exact (fun _ h => nomatch h) | simp [SubS] | (intro p hp; simp [hp])) ?_
                                  all_goals (refine HB_r (k := 0) rfl rfl rfl rfl rfl (R_loadA (vs := [_]) rfl (known_L (k := 1) rfl) rfl rfl rfl rfl) ?_)
                                  all_goals refine HB_p (k := 1) rfl rfl rfl rfl rfl (fun _ hS => (R_move rfl)) ?_
                                  all_goals refine HB_callP (k := 2) rfl rfl rfl rfl rfl (enters_of Try.func8 (by kernel_rfl) rfl) (P_Addr i) ?_
                                  all_goals refine HB_callR (k := 3) rfl rfl rfl rfl rfl (enters_of Try.func7 (by kernel_rfl) rfl) (S_Find hs (addrE i)) (fun q hq => Or.inr hq) ?_
                                  all_goals refine HB_p (k := 4) rfl rfl rfl rfl rfl (fun _ hS => (R_move rfl)) ?_
                                  all_goals refine HB_p (k := 5) rfl rfl rfl rfl rfl (fun _ hS => (R_extract rfl rfl)) ?_
                                  all_goals refine HB_p (k := 6) rfl rfl rfl rfl rfl (fun _ hS => (R_extract rfl rfl)) ?_
                                  all_goals refine HB_alloc (k := 7) (cs := #[_, _, _, _, _, _, _, _]) rfl rfl rfl rfl rfl rfl fun r2 => ?_
                                  all_goals refine HB_storeArr (k := 8) (q := 0) (n := 8) (ys := (findL s (addrE i)).cells) rfl rfl rfl rfl rfl rfl rfl rfl rfl rfl rfl (fun _ h => nomatch h) ?_
                                  all_goals refine HB_p (k := 9) rfl rfl rfl rfl rfl (fun _ hS => (R_assign rfl)) ?_
                                  all_goals refine HB_end ?_
                                  all_goals refine HL_nil ?_
                                  all_goals (
                                    refine HQ_then ?_
                                    refine hK20 _ _ _ _ ?_; clear hK20 K20
                                    refine HC_block ?_
                                    refine HC_seq fun K21 hK21 => ?_
                                    refine HC_region ?_
                                    all_goals refine HL_r rfl rfl rfl rfl (R_move rfl) ?_
                                    all_goals refine HL_r rfl rfl rfl rfl (R_move rfl) ?_
                                    all_goals (refine HL_case 44 rfl (fun hb22 => ?_) (fun hb22 => ?_) <;> (try simp only [decide_eq_true_eq, decide_eq_false_iff_not, beq_iff_eq, beq_eq_false_iff_ne, bne_iff_ne, bne_eq_false_iff_eq, Bool.not_eq_true', Bool.not_eq_false', ne_eq, Int.not_lt, Int.not_le, ge_iff_le, gt_iff_lt] at hb22) <;> first | (refine HL_r rfl rfl rfl rfl (R_move rfl) ?_) | (refine HL_skip rfl rfl rfl ?_))
                                    all_goals first
                                      | (refine HL_r rfl rfl rfl rfl (R_pure rfl rfl rfl) ?_)
                                      | (refine HL_skip rfl rfl rfl ?_)
                                    all_goals first
                                      | (refine HL_r rfl rfl rfl rfl (R_pickT rfl rfl) ?_)
                                      | (refine HL_r rfl rfl rfl rfl (R_pickF rfl rfl) ?_)
                                    all_goals refine HL_r rfl rfl rfl rfl (R_assign rfl) ?_
                                    all_goals refine HL_nil ?_
                                    all_goals (
                                      refine HQ_then ?_
                                      refine hK21 _ _ _ _ ?_; clear hK21 K21
                                      refine HC_cond rfl (fun h24 => ?_) (fun h24 => ?_)
                                      · try exact Bool.noConfusion h24
                                        all_goals try simp only [decide_eq_true_eq, decide_eq_false_iff_not, beq_iff_eq, beq_eq_false_iff_ne, bne_iff_ne, bne_eq_false_iff_eq, Bool.not_eq_true', Bool.not_eq_false', ne_eq, Int.not_lt, Int.not_le, ge_iff_le, gt_iff_lt] at h24
                                        all_goals (
                                          refine HC_seq fun K25 hK25 => ?_
                                          have hlk : lackE f s.er i = true := by rw [lack_er]; simp_all
                                          refine HC_region ?_
                                          all_goals (refine HL_store (k := 1) rfl rfl rfl rfl rfl rfl rfl rfl (by first | (simp only [List.setIfInBounds_toArray, List.set_cons_zero, List.set_cons_succ]; exact rfl) | exact rfl) (by first | (simp only [List.set_cons_zero, List.set_cons_succ]; exact rfl) | exact rfl) ?_)
                                          all_goals refine HL_nil ?_
                                          all_goals (
                                            refine HQ_then ?_
                                            refine hK25 _ _ _ _ ?_; clear hK25 K25
                                            refine HC_ret ?_
                                            refine HQ_blockR ?_
                                            refine HQ_blockR ?_
                                            refine HQ_thenR ?_; clear hK17 K17
                                            refine HQ_thenR ?_
                                            refine HQ_blockR ?_
                                            refine HQ_thenR ?_; clear hK12 K12
                                            first
                                              | (refine HQ_mark (k := 0) rfl rfl ?_
                                                 refine HQ_post rfl rfl (.cons (res_cell rfl (known_L (k := 1) rfl) rfl rfl) .nil) (fun w1 hs1 => ?_)
                                                 rw [if_neg (by omega), if_neg hnl, if_neg (by omega)]
                                                 first
                                                   | (rw [if_pos htab]; exact ⟨rfl, hs1.keep⟩)
                                                   | (rw [if_neg (by rw [htab]; simp)]; exact ⟨rfl, hs1.keep⟩))
                                              | (refine HQ_post rfl rfl (.cons (res_cell rfl (known_L (k := 0) rfl) rfl rfl) .nil) (fun w1 hs1 => ?_)
                                                 first
                                                   | (rw [if_pos (by omega)]; exact ⟨rfl, hs1.keep⟩)
                                                   | (rw [if_neg (by omega), if_neg hnl, if_pos (by omega)]
                                                      have h2 : wrU f s.er 2 = 2 := by
                                                        have h3 : ¬ wrU f s.er 2 = 0 := by omega
                                                        unfold wrU wrU wrU at h3 ⊢
                                                        split at h3 <;> split <;> simp_all
                                                      rw [h2]; exact ⟨rfl, hs1.keep⟩)
                                                   | (exfalso; first | contradiction | (simp_all; done)))
                                              | (refine HQ_post rfl rfl (.cons (res_cell rfl (known_L (k := 1) rfl) rfl rfl) .nil) (fun w1 hs1 => ?_)
                                                 rw [if_neg (by omega), if_pos (by have h01 : i = 0 ∨ i = 1 := by omega
                                                                                   rcases h01 with rfl | rfl
                                                                                   · exact Or.inl hlk
                                                                                   · exact Or.inr hlk)]
                                                 exact ⟨rfl, hs1.keep⟩)
                                            skip)
                                          skip)
                                      · try exact Bool.noConfusion h24
                                        all_goals try simp only [decide_eq_true_eq, decide_eq_false_iff_not, beq_iff_eq, beq_eq_false_iff_ne, bne_iff_ne, bne_eq_false_iff_eq, Bool.not_eq_true', Bool.not_eq_false', ne_eq, Int.not_lt, Int.not_le, ge_iff_le, gt_iff_lt] at h24
                                        all_goals (
                                          refine HC_seq fun K26 hK26 => ?_
                                          refine HC_region ?_
                                          all_goals refine HL_r rfl rfl rfl rfl (R_move rfl) ?_
                                          all_goals refine HL_r rfl rfl rfl rfl (R_move rfl) ?_
                                          all_goals (refine HL_case 50 rfl (fun hb27 => ?_) (fun hb27 => ?_) <;> (try simp only [decide_eq_true_eq, decide_eq_false_iff_not, beq_iff_eq, beq_eq_false_iff_ne, bne_iff_ne, bne_eq_false_iff_eq, Bool.not_eq_true', Bool.not_eq_false', ne_eq, Int.not_lt, Int.not_le, ge_iff_le, gt_iff_lt] at hb27) <;> first | (refine HL_r rfl rfl rfl rfl (R_fieldAddr rfl rfl (by first | (simp only [Nat.zero_add, Nat.reduceAdd, Nat.reduceMul, Nat.zero_mul, Nat.mul_one, Nat.add_zero]; exact rfl) | exact rfl)) ?_) | (refine HL_skip rfl rfl rfl ?_))
                                          all_goals first
                                            | (refine HL_r rfl rfl rfl rfl (R_load rfl (known_L (k := 0) rfl) rfl rfl) ?_)
                                            | (refine HL_skip rfl rfl rfl ?_)
                                          all_goals first
                                            | (refine HL_r rfl rfl rfl rfl (R_move rfl) ?_)
                                            | (refine HL_skip rfl rfl rfl ?_)
                                          all_goals first
                                            | (refine HL_r rfl rfl rfl rfl (R_strNe rfl rfl) ?_)
                                            | (refine HL_skip rfl rfl rfl ?_)
                                          all_goals first
                                            | (refine HL_r rfl rfl rfl rfl (R_pickT rfl rfl) ?_)
                                            | (refine HL_r rfl rfl rfl rfl (R_pickF rfl rfl) ?_)
                                          all_goals refine HL_r rfl rfl rfl rfl (R_assign rfl) ?_
                                          all_goals refine HL_nil ?_
                                          all_goals (
                                            refine HQ_then ?_
                                            refine hK26 _ _ _ _ ?_; clear hK26 K26
                                            refine HC_cond rfl (fun h31 => ?_) (fun h31 => ?_)
                                            · try exact Bool.noConfusion h31
                                              all_goals try simp only [decide_eq_true_eq, decide_eq_false_iff_not, beq_iff_eq, beq_eq_false_iff_ne, bne_iff_ne, bne_eq_false_iff_eq, Bool.not_eq_true', Bool.not_eq_false', ne_eq, Int.not_lt, Int.not_le, ge_iff_le, gt_iff_lt] at h31
                                              all_goals (
                                                refine HC_region ?_
                                                all_goals refine HL_r rfl rfl rfl rfl (R_assign rfl) ?_
                                                all_goals refine HL_nil ?_
                                                all_goals (
                                                  refine HQ_blockN ?_
                                                  refine HQ_blockN ?_
                                                  refine HQ_then ?_
                                                  refine hK17 _ _ _ _ ?_; clear hK17 K17
                                                  refine HC_region ?_
                                                  all_goals (refine HL_r rfl rfl rfl rfl (R_pure rfl rfl rfl) ?_; refine HL_wrap_i64 (by omega) (by omega) ?_)
                                                  all_goals refine HL_r rfl rfl rfl rfl (R_move rfl) ?_
                                                  all_goals refine HL_nil ?_
                                                  all_goals (
                                                    refine HQ_then ?_
                                                    have hlk : lackE f s.er i = false := by rw [lack_er]; simp_all
                                                    have hnx : ∀ j, j < i + 1 → lackE f s.er (j : Nat) = false := fun j hj => by
                                                      rcases Nat.lt_succ_iff_lt_or_eq.1 hj with hj | rfl
                                                      · exact hinv j hj
                                                      · exact hlk
                                                    first
                                                      | (have hw : wrongE f s.er i = true := by rw [wrong_er]; simp_all; done
                                                         exact HQ_again (i + 1) ⟨by omega, hnx⟩ (by omega) (.cons rfl (.cons rfl (.cons rfl (.cons (by show _ = some (Value.int .i64 (if wrongE f s.er i = true then 2 else wrU f s.er i)); rw [if_pos hw]; rfl) (.cons rfl .nil))))) (List.sublist_cons_self _ _) (fun _ _ h => h))
                                                      | (have hw : wrongE f s.er i = false := by rw [wrong_er]; simp_all; done
                                                         exact HQ_again (i + 1) ⟨by omega, hnx⟩ (by omega) (.cons rfl (.cons rfl (.cons rfl (.cons (by show _ = some (Value.int .i64 (if wrongE f s.er i = true then 2 else wrU f s.er i)); rw [if_neg (by rw [hw]; simp)]; rfl) (.cons rfl .nil))))) (List.sublist_cons_self _ _) (fun _ _ h => h))
                                                      | trace_state
                                                    skip)
                                                  skip)
                                                skip)
                                            · try exact Bool.noConfusion h31
                                              all_goals try simp only [decide_eq_true_eq, decide_eq_false_iff_not, beq_iff_eq, beq_eq_false_iff_ne, bne_iff_ne, bne_eq_false_iff_eq, Bool.not_eq_true', Bool.not_eq_false', ne_eq, Int.not_lt, Int.not_le, ge_iff_le, gt_iff_lt] at h31
                                              all_goals (
                                                refine HC_skip ?_
                                                refine HQ_blockN ?_
                                                refine HQ_blockN ?_
                                                refine HQ_then ?_
                                                refine hK17 _ _ _ _ ?_; clear hK17 K17
                                                refine HC_region ?_
                                                all_goals (refine HL_r rfl rfl rfl rfl (R_pure rfl rfl rfl) ?_; refine HL_wrap_i64 (by omega) (by omega) ?_)
                                                all_goals refine HL_r rfl rfl rfl rfl (R_move rfl) ?_
                                                all_goals refine HL_nil ?_
                                                all_goals (
                                                  refine HQ_then ?_
                                                  have hlk : lackE f s.er i = false := by rw [lack_er]; simp_all
                                                  have hnx : ∀ j, j < i + 1 → lackE f s.er (j : Nat) = false := fun j hj => by
                                                    rcases Nat.lt_succ_iff_lt_or_eq.1 hj with hj | rfl
                                                    · exact hinv j hj
                                                    · exact hlk
                                                  first
                                                    | (have hw : wrongE f s.er i = true := by rw [wrong_er]; simp_all; done
                                                       exact HQ_again (i + 1) ⟨by omega, hnx⟩ (by omega) (.cons rfl (.cons rfl (.cons rfl (.cons (by show _ = some (Value.int .i64 (if wrongE f s.er i = true then 2 else wrU f s.er i)); rw [if_pos hw]; rfl) (.cons rfl .nil))))) (List.sublist_cons_self _ _) (fun _ _ h => h))
                                                    | (have hw : wrongE f s.er i = false := by rw [wrong_er]; simp_all; done
                                                       exact HQ_again (i + 1) ⟨by omega, hnx⟩ (by omega) (.cons rfl (.cons rfl (.cons rfl (.cons (by show _ = some (Value.int .i64 (if wrongE f s.er i = true then 2 else wrU f s.er i)); rw [if_neg (by rw [hw]; simp)]; rfl) (.cons rfl .nil))))) (List.sublist_cons_self _ _) (fun _ _ h => h))
                                                    | trace_state
                                                  skip)
                                                skip)
                                            skip)
                                          skip)
                                      skip)
                                    skip)
                                  skip)
                                skip)
                              skip)
                          · try exact Bool.noConfusion h16
                            all_goals try simp only [decide_eq_true_eq, decide_eq_false_iff_not, beq_iff_eq, beq_eq_false_iff_ne, bne_iff_ne, bne_eq_false_iff_eq, Bool.not_eq_true', Bool.not_eq_false', ne_eq, Int.not_lt, Int.not_le, ge_iff_le, gt_iff_lt] at h16
                            all_goals (
                              refine HC_exit ?_
                              refine HQ_thenE ?_; clear hK15 K15
                              refine HQ_thenE ?_
                              refine HQ_blockE ?_
                              refine HQ_then ?_
                              refine hK12 _ _ _ _ ?_; clear hK12 K12
                              refine HC_seq fun K32 hK32 => ?_
                              refine HC_seq fun K33 hK33 => ?_
                              obtain rfl : i = 2 := by omega
                              have hnl : ¬ (lackE f s.er (0 : Nat) = true ∨ lackE f s.er (1 : Nat) = true) := fun h => h.elim (fun h => by rw [hinv 0 (by decide)] at h; cases h) (fun h => by rw [hinv 1 (by decide)] at h; cases h)
                              refine HC_region ?_
                              all_goals refine HL_r rfl rfl rfl rfl (R_move rfl) ?_
                              all_goals refine HL_r rfl rfl rfl rfl (R_pure rfl rfl rfl) ?_
                              all_goals refine HL_nil ?_
                              all_goals (
                                refine HQ_then ?_
                                refine hK33 _ _ _ _ ?_; clear hK33 K33
                                refine HC_cond rfl (fun h34 => ?_) (fun h34 => ?_)
                                · try exact Bool.noConfusion h34
                                  all_goals try simp only [decide_eq_true_eq, decide_eq_false_iff_not, beq_iff_eq, beq_eq_false_iff_ne, bne_iff_ne, bne_eq_false_iff_eq, Bool.not_eq_true', Bool.not_eq_false', ne_eq, Int.not_lt, Int.not_le, ge_iff_le, gt_iff_lt] at h34
                                  all_goals (
                                    refine HC_seq fun K35 hK35 => ?_
                                    refine HC_region ?_
                                    all_goals refine HL_r rfl rfl rfl rfl (R_move rfl) ?_
                                    all_goals (refine HL_store (k := 0) rfl rfl rfl rfl rfl rfl rfl rfl (by first | (simp only [List.setIfInBounds_toArray, List.set_cons_zero, List.set_cons_succ]; exact rfl) | exact rfl) (by first | (simp only [List.set_cons_zero, List.set_cons_succ]; exact rfl) | exact rfl) ?_)
                                    all_goals refine HL_nil ?_
                                    all_goals (
                                      refine HQ_then ?_
                                      refine hK35 _ _ _ _ ?_; clear hK35 K35
                                      refine HC_ret ?_
                                      refine HQ_thenR ?_; clear hK32 K32
                                      first
                                        | (refine HQ_mark (k := 0) rfl rfl ?_
                                           refine HQ_post rfl rfl (.cons (res_cell rfl (known_L (k := 1) rfl) rfl rfl) .nil) (fun w1 hs1 => ?_)
                                           rw [if_neg (by omega), if_neg hnl, if_neg (by omega)]
                                           first
                                             | (rw [if_pos htab]; exact ⟨rfl, hs1.keep⟩)
                                             | (rw [if_neg (by rw [htab]; simp)]; exact ⟨rfl, hs1.keep⟩))
                                        | (refine HQ_post rfl rfl (.cons (res_cell rfl (known_L (k := 0) rfl) rfl rfl) .nil) (fun w1 hs1 => ?_)
                                           first
                                             | (rw [if_pos (by omega)]; exact ⟨rfl, hs1.keep⟩)
                                             | (rw [if_neg (by omega), if_neg hnl, if_pos (by omega)]
                                                have h2 : wrU f s.er 2 = 2 := by
                                                  have h3 : ¬ wrU f s.er 2 = 0 := by omega
                                                  unfold wrU wrU wrU at h3 ⊢
                                                  split at h3 <;> split <;> simp_all
                                                rw [h2]; exact ⟨rfl, hs1.keep⟩)
                                             | (exfalso; first | contradiction | (simp_all; done)))
                                        | (refine HQ_post rfl rfl (.cons (res_cell rfl (known_L (k := 1) rfl) rfl rfl) .nil) (fun w1 hs1 => ?_)
                                           rw [if_neg (by omega), if_pos (by have h01 : i = 0 ∨ i = 1 := by omega
                                                                             rcases h01 with rfl | rfl
                                                                             · exact Or.inl hlk
                                                                             · exact Or.inr hlk)]
                                           exact ⟨rfl, hs1.keep⟩)
                                      skip)
                                    skip)
                                · try exact Bool.noConfusion h34
                                  all_goals try simp only [decide_eq_true_eq, decide_eq_false_iff_not, beq_iff_eq, beq_eq_false_iff_ne, bne_iff_ne, bne_eq_false_iff_eq, Bool.not_eq_true', Bool.not_eq_false', ne_eq, Int.not_lt, Int.not_le, ge_iff_le, gt_iff_lt] at h34
                                  all_goals (
                                    refine HC_skip ?_
                                    refine HQ_then ?_
                                    refine hK32 _ _ _ _ ?_; clear hK32 K32
                                    refine HC_seq fun K36 hK36 => ?_
                                    refine HC_drawB [] [(1, .pure), (3, .pure), (4, .pure), (5, .pure), (6, .grow (geNew ptrV (.cells #[.string ⟨#[]⟩, .int .u64 0, .int .u64 0, .int .u64 0, .int .u64 0, .int .u64 0, .string ⟨#[]⟩, .slice none 0 0] 37 (0, 0)))), (7, .turn), (8, .pure)] 9 [0, 1, 2, 3, 4, 5, 6, 7, 8] (by kernel_rfl) (by kernel_rfl) (by first | exact (fun _ h => nomatch h) | simp [SubS] | (intro p hp; simp [hp])) ?_
                                    all_goals (refine HB_r (k := 0) rfl rfl rfl rfl rfl (R_loadA (vs := [_]) rfl (known_L (k := 1) rfl) rfl rfl rfl rfl) ?_)
                                    all_goals refine HB_callP (k := 1) rfl rfl rfl rfl rfl (enters_of Try.func8 (by kernel_rfl) rfl) (P_Addr 0) ?_
                                    all_goals refine HB_callR (k := 2) rfl rfl rfl rfl rfl (enters_of Try.func7 (by kernel_rfl) rfl) (S_Find hs A0) (fun q hq => Or.inr hq) ?_
                                    all_goals refine HB_p (k := 3) rfl rfl rfl rfl rfl (fun _ hS => (R_move rfl)) ?_
                                    all_goals refine HB_p (k := 4) rfl rfl rfl rfl rfl (fun _ hS => (R_extract rfl rfl)) ?_
                                    all_goals refine HB_p (k := 5) rfl rfl rfl rfl rfl (fun _ hS => (R_extract rfl rfl)) ?_
                                    all_goals refine HB_alloc (k := 6) (cs := #[_, _, _, _, _, _, _, _]) rfl rfl rfl rfl rfl rfl fun r3 => ?_
                                    all_goals refine HB_storeArr (k := 7) (q := 0) (n := 8) (ys := (findL s A0).cells) rfl rfl rfl rfl rfl rfl rfl rfl rfl rfl rfl (fun _ h => nomatch h) ?_
                                    all_goals refine HB_p (k := 8) rfl rfl rfl rfl rfl (fun _ hS => (R_assign rfl)) ?_
                                    all_goals refine HB_end ?_
                                    all_goals refine HL_nil ?_
                                    all_goals (
                                      refine HQ_then ?_
                                      refine hK36 _ _ _ _ ?_; clear hK36 K36
                                      refine HC_seq fun K37 hK37 => ?_
                                      refine HC_region ?_
                                      all_goals refine HL_r rfl rfl rfl rfl (R_move rfl) ?_
                                      all_goals refine HL_r rfl rfl rfl rfl (R_loadArr (xs := (findL s A0).cells) (n := 8) rfl (known_L (k := 0) rfl) rfl rfl rfl) ?_
                                      all_goals refine HL_callR rfl rfl rfl (enters_of Try.func29 (by kernel_rfl) rfl) hrd (fun q hq => Or.inr hq) ?_
                                      all_goals refine HL_alloc (cs := #[_, _, _, _, _, _, _, _, _, _, _, _, _, _, _, _, _]) rfl rfl rfl rfl fun r4 => ?_
                                      all_goals refine HL_storeArr (k := 0) (n := 17) (ys := (readE f (findL s A0).er).cells) rfl rfl rfl rfl rfl rfl rfl rfl rfl ?_
                                      all_goals refine HL_nil ?_
                                      all_goals (
                                        refine HQ_then ?_
                                        refine hK37 _ _ _ _ ?_; clear hK37 K37
                                        refine HC_seq fun K38 hK38 => ?_
                                        refine HC_seq fun K39 hK39 => ?_
                                        refine HC_region ?_
                                        all_goals refine HL_r rfl rfl rfl rfl (R_move rfl) ?_
                                        all_goals refine HL_callPE rfl rfl rfl (enters_of Try.func32 (by kernel_rfl) rfl) (E_rows f) fun b => ?_
                                        all_goals refine HL_nil ?_
                                        all_goals (
                                          refine HQ_then ?_
                                          refine hK39 _ _ _ _ ?_; clear hK39 K39
                                          refine HC_block ?_
                                          refine HC_sel [3, 0, 1, 2, 4] (L' := [_, _, _, _, _]) (by decide) rfl ?_
                                          refine HC_rangeB (τ := Unit) (fun i (_ : Unit) => i ≤ 7 ∧ ∀ j, j < i → slotE (findL s A0).er (keyE (keyN j)) = (rowW f (readE f (findL s A0).er) j).2) (fun _ => [(r1, .cells #[.int .i64 0] 32 (0, 0))]) (fun j _ => j = .ret ∧ tableB f (findL s A0).er (readE f (findL s A0).er) tab = false) (fun _ => [(r1, .cells #[.int .i64 8] 32 (0, 0))]) [(b, .cells #[.int .i64 f] 3 (0, 0)), (r4, .cells (readE f (findL s A0).er).cells.toArray 29 (0, 0)), (r3, .cells (findL s A0).cells.toArray 37 (0, 0)), (rb, .cells s.cells.toArray 24 (0, 0))] () rfl rfl (enters_of Try.func42 (by kernel_rfl) rfl) (I_rows hf b) nxT_len rfl (fun q hq => .inl (by rw [List.mem_singleton.1 hq]; exact List.mem_cons_self)) rfl ⟨Nat.zero_le _, fun j hj => absurd hj (by omega)⟩ ?_ ?_ ?_
                                          · rintro q Xr Xb w3 i _ _ _ ⟨⟩ ⟨hi, rfl, p, rfl, rfl⟩ ⟨hi7, hrow⟩ Kr hKr
                                            refine HC_seq fun K40 hK40 => ?_
                                            refine HC_region ?_
                                            all_goals refine HL_alloc (cs := #[_, _, _, _, _]) rfl rfl rfl rfl fun r5 => ?_
                                            all_goals (refine HL_storeA (k := 0) (n := 5) (cs' := #[_, _, _, _, _]) (vs := #[_, _, _, _, _]) rfl rfl rfl rfl rfl rfl rfl (by exact Nat.le_of_ble_eq_true rfl) rfl (by first | (simp only [List.set_cons_zero, List.set_cons_succ]; exact rfl) | exact rfl) ?_)
                                            all_goals refine HL_nil ?_
                                            all_goals (
                                              refine HQ_then ?_
                                              refine hK40 _ _ _ _ ?_; clear hK40 K40
                                              refine HC_region ?_
                                              all_goals refine HL_r rfl rfl rfl rfl (R_assign rfl) ?_
                                              all_goals refine HL_nil ?_
                                              all_goals (
                                                refine HQ_then ?_
                                                refine hKr _ _ ?_; clear hKr
                                                refine HC_block ?_
                                                refine HC_seq fun K41 hK41 => ?_
                                                refine HC_region ?_
                                                all_goals refine HL_callP rfl rfl rfl (enters_of Try.func22 (by kernel_rfl) rfl) P_lnone ?_
                                                all_goals refine HL_r rfl rfl rfl rfl (R_assign rfl) ?_
                                                all_goals refine HL_nil ?_
                                                all_goals (
                                                  refine HQ_then ?_
                                                  refine hK41 _ _ _ _ ?_; clear hK41 K41
                                                  refine HC_seq fun K42 hK42 => ?_
                                                  refine HC_seq fun K43 hK43 => ?_
                                                  refine HC_region ?_
                                                  all_goals refine HL_r rfl rfl rfl rfl (R_move rfl) ?_
                                                  all_goals refine HL_nil ?_
                                                  all_goals (
                                                    refine HQ_then ?_
                                                    refine hK43 _ _ _ _ ?_; clear hK43 K43
                                                    refine HC_cond rfl (fun h44 => ?_) (fun h44 => ?_)
                                                    · try exact Bool.noConfusion h44
                                                      all_goals try simp only [decide_eq_true_eq, decide_eq_false_iff_not, beq_iff_eq, beq_eq_false_iff_ne, bne_iff_ne, bne_eq_false_iff_eq, Bool.not_eq_true', Bool.not_eq_false', ne_eq, Int.not_lt, Int.not_le, ge_iff_le, gt_iff_lt] at h44
                                                      all_goals (
                                                        refine HC_region ?_
                                                        all_goals refine HL_r rfl rfl rfl rfl (R_fieldAddr rfl rfl (by first | (simp only [Nat.zero_add, Nat.reduceAdd, Nat.reduceMul, Nat.zero_mul, Nat.mul_one, Nat.add_zero]; exact rfl) | exact rfl)) ?_
                                                        all_goals (refine HL_r rfl rfl rfl rfl (R_load rfl (known_L (k := 0) rfl) rfl rfl) ?_)
                                                        all_goals refine HL_r rfl rfl rfl rfl (R_loadArr (xs := (readE f (findL s A0).er).cells) (n := 17) rfl (Or.inr (List.mem_append_left _ (List.mem_append_right _ (List.mem_cons_of_mem _ List.mem_cons_self)))) rfl rfl rfl) ?_
                                                        all_goals refine HL_callR rfl rfl rfl (enters_hold hi) (S_holdR hi (fun q hq => hq) (readE f (findL s A0).er)) (fun q hq => Or.inr (List.mem_append_left _ (List.mem_append_left _ hq))) ?_
                                                        all_goals refine HL_callP rfl rfl rfl (enters_of Try.func23 (by kernel_rfl) rfl) (P_word_Fixed (holds_ok (read_ok f _) i).wok) ?_; refine HL_as (congrArg strV (row_yes (by assumption))) ?_
                                                        all_goals refine HL_r rfl rfl rfl rfl (R_assign rfl) ?_
                                                        all_goals refine HL_nil ?_
                                                        all_goals (
                                                          refine HQ_then ?_
                                                          refine hK42 _ _ _ _ ?_; clear hK42 K42
                                                          refine HC_seq fun K45 hK45 => ?_
                                                          refine HC_draw 7 (by kernel_rfl) (by kernel_rfl) ?_
                                                          all_goals refine HD_r rfl rfl rfl (R_loadArr (xs := (findL s A0).cells) (n := 8) rfl (Or.inr (List.mem_append_left _ (List.mem_append_right _ (List.mem_cons_of_mem _ (List.mem_cons_of_mem _ List.mem_cons_self))))) rfl rfl rfl) ?_
                                                          all_goals refine HD_r rfl rfl rfl (R_fieldAddr rfl rfl (by first | (simp only [Nat.zero_add, Nat.reduceAdd, Nat.reduceMul, Nat.zero_mul, Nat.mul_one, Nat.add_zero]; exact rfl) | exact rfl)) ?_
                                                          all_goals (refine HD_r rfl rfl rfl (R_load rfl (known_L (k := 0) rfl) rfl rfl) ?_)
                                                          all_goals refine HD_callP rfl rfl rfl (enters_of Try.func33 (by kernel_rfl) rfl) (P_lkey (keyN_u i)) ?_
                                                          all_goals refine HD_callR rfl rfl rfl (enters_of Try.func10 (by kernel_rfl) rfl) (S_Slot hA (keyE (keyN i))) (fun q hq => Or.inr (List.mem_append_right _ hq)) ?_
                                                          all_goals refine HD_r rfl rfl rfl (R_move rfl) ?_
                                                          all_goals refine HD_r rfl rfl rfl (R_strNe rfl rfl) ?_
                                                          all_goals refine HD_end ?_
                                                          all_goals refine HL_nil ?_
                                                          all_goals (
                                                            refine HQ_then ?_
                                                            refine hK45 _ _ _ _ ?_; clear hK45 K45
                                                            refine HC_cond rfl (fun h46 => ?_) (fun h46 => ?_)
                                                            · try exact Bool.noConfusion h46
                                                              all_goals try simp only [decide_eq_true_eq, decide_eq_false_iff_not, beq_iff_eq, beq_eq_false_iff_ne, bne_iff_ne, bne_eq_false_iff_eq, Bool.not_eq_true', Bool.not_eq_false', ne_eq, Int.not_lt, Int.not_le, ge_iff_le, gt_iff_lt] at h46
                                                              all_goals (
                                                                refine HC_seq fun K47 hK47 => ?_
                                                                refine HC_region ?_
                                                                all_goals (refine HL_store (k := 1) rfl rfl rfl rfl rfl rfl rfl rfl (by first | (simp only [List.setIfInBounds_toArray, List.set_cons_zero, List.set_cons_succ]; exact rfl) | exact rfl) (by first | (simp only [List.set_cons_zero, List.set_cons_succ]; exact rfl) | exact rfl) ?_)
                                                                all_goals refine HL_nil ?_
                                                                all_goals (
                                                                  refine HQ_then ?_
                                                                  refine hK47 _ _ _ _ ?_; clear hK47 K47
                                                                  refine HC_ret ?_
                                                                  refine HQ_blockR ?_
                                                                  refine HQ_sel [1] (L' := [_]) (by decide) rfl ?_
                                                                  refine HQ_roundR () ⟨rfl, table_bad hi (by first | assumption | (rw [← row_no (by assumption)]; assumption))⟩ rfl
                                                                  skip)
                                                                skip)
                                                            · try exact Bool.noConfusion h46
                                                              all_goals try simp only [decide_eq_true_eq, decide_eq_false_iff_not, beq_iff_eq, beq_eq_false_iff_ne, bne_iff_ne, bne_eq_false_iff_eq, Bool.not_eq_true', Bool.not_eq_false', ne_eq, Int.not_lt, Int.not_le, ge_iff_le, gt_iff_lt] at h46
                                                              all_goals (
                                                                refine HC_skip ?_
                                                                refine HQ_blockN ?_
                                                                refine HQ_sel [1] (L' := [_]) (by decide) rfl ?_
                                                                refine HQ_round () ⟨by omega, fun j hj => ?_⟩ rfl
                                                                rcases Nat.lt_succ_iff_lt_or_eq.1 hj with hj | rfl
                                                                · exact hrow j hj
                                                                · first
                                                                    | assumption
                                                                    | (rw [← row_no (by assumption)]; assumption)
                                                                skip)
                                                            skip)
                                                          skip)
                                                        skip)
                                                    · try exact Bool.noConfusion h44
                                                      all_goals try simp only [decide_eq_true_eq, decide_eq_false_iff_not, beq_iff_eq, beq_eq_false_iff_ne, bne_iff_ne, bne_eq_false_iff_eq, Bool.not_eq_true', Bool.not_eq_false', ne_eq, Int.not_lt, Int.not_le, ge_iff_le, gt_iff_lt] at h44
                                                      all_goals (
                                                        refine HC_skip ?_
                                                        refine HQ_then ?_
                                                        refine hK42 _ _ _ _ ?_; clear hK42 K42
                                                        refine HC_seq fun K48 hK48 => ?_
                                                        refine HC_draw 7 (by kernel_rfl) (by kernel_rfl) ?_
                                                        all_goals refine HD_r rfl rfl rfl (R_loadArr (xs := (findL s A0).cells) (n := 8) rfl (Or.inr (List.mem_append_left _ (List.mem_append_right _ (List.mem_cons_of_mem _ (List.mem_cons_of_mem _ List.mem_cons_self))))) rfl rfl rfl) ?_
                                                        all_goals refine HD_r rfl rfl rfl (R_fieldAddr rfl rfl (by first | (simp only [Nat.zero_add, Nat.reduceAdd, Nat.reduceMul, Nat.zero_mul, Nat.mul_one, Nat.add_zero]; exact rfl) | exact rfl)) ?_
                                                        all_goals (refine HD_r rfl rfl rfl (R_load rfl (known_L (k := 0) rfl) rfl rfl) ?_)
                                                        all_goals refine HD_callP rfl rfl rfl (enters_of Try.func33 (by kernel_rfl) rfl) (P_lkey (keyN_u i)) ?_
                                                        all_goals refine HD_callR rfl rfl rfl (enters_of Try.func10 (by kernel_rfl) rfl) (S_Slot hA (keyE (keyN i))) (fun q hq => Or.inr (List.mem_append_right _ hq)) ?_
                                                        all_goals refine HD_r rfl rfl rfl (R_move rfl) ?_
                                                        all_goals refine HD_r rfl rfl rfl (R_strNe rfl rfl) ?_
                                                        all_goals refine HD_end ?_
                                                        all_goals refine HL_nil ?_
                                                        all_goals (
                                                          refine HQ_then ?_
                                                          refine hK48 _ _ _ _ ?_; clear hK48 K48
                                                          refine HC_cond rfl (fun h49 => ?_) (fun h49 => ?_)
                                                          · try exact Bool.noConfusion h49
                                                            all_goals try simp only [decide_eq_true_eq, decide_eq_false_iff_not, beq_iff_eq, beq_eq_false_iff_ne, bne_iff_ne, bne_eq_false_iff_eq, Bool.not_eq_true', Bool.not_eq_false', ne_eq, Int.not_lt, Int.not_le, ge_iff_le, gt_iff_lt] at h49
                                                            all_goals (
                                                              refine HC_seq fun K50 hK50 => ?_
                                                              refine HC_region ?_
                                                              all_goals (refine HL_store (k := 1) rfl rfl rfl rfl rfl rfl rfl rfl (by first | (simp only [List.setIfInBounds_toArray, List.set_cons_zero, List.set_cons_succ]; exact rfl) | exact rfl) (by first | (simp only [List.set_cons_zero, List.set_cons_succ]; exact rfl) | exact rfl) ?_)
                                                              all_goals refine HL_nil ?_
                                                              all_goals (
                                                                refine HQ_then ?_
                                                                refine hK50 _ _ _ _ ?_; clear hK50 K50
                                                                refine HC_ret ?_
                                                                refine HQ_blockR ?_
                                                                refine HQ_sel [1] (L' := [_]) (by decide) rfl ?_
                                                                refine HQ_roundR () ⟨rfl, table_bad hi (by first | assumption | (rw [← row_no (by assumption)]; assumption))⟩ rfl
                                                                skip)
                                                              skip)
                                                          · try exact Bool.noConfusion h49
                                                            all_goals try simp only [decide_eq_true_eq, decide_eq_false_iff_not, beq_iff_eq, beq_eq_false_iff_ne, bne_iff_ne, bne_eq_false_iff_eq, Bool.not_eq_true', Bool.not_eq_false', ne_eq, Int.not_lt, Int.not_le, ge_iff_le, gt_iff_lt] at h49
                                                            all_goals (
                                                              refine HC_skip ?_
                                                              refine HQ_blockN ?_
                                                              refine HQ_sel [1] (L' := [_]) (by decide) rfl ?_
                                                              refine HQ_round () ⟨by omega, fun j hj => ?_⟩ rfl
                                                              rcases Nat.lt_succ_iff_lt_or_eq.1 hj with hj | rfl
                                                              · exact hrow j hj
                                                              · first
                                                                  | assumption
                                                                  | (rw [← row_no (by assumption)]; assumption)
                                                              skip)
                                                          skip)
                                                        skip)
                                                    skip)
                                                  skip)
                                                skip)
                                              skip)
                                          · rintro D i ⟨⟩ hfi ⟨-, hrow⟩
                                            obtain rfl : i = 7 := hfi
                                            have htab : tableB f (findL s A0).er (readE f (findL s A0).er) tab = true := table_iff.2 fun j hj => hrow j (tab_lt hj)
                                            refine HQ_blockN ?_
                                            refine HQ_then ?_
                                            refine hK38 _ _ _ _ ?_; clear hK38 K38
                                            refine HC_seq fun K51 hK51 => ?_
                                            refine HC_region ?_
                                            all_goals (refine HL_store (k := 1) rfl rfl rfl rfl rfl rfl rfl rfl (by first | (simp only [List.setIfInBounds_toArray, List.set_cons_zero, List.set_cons_succ]; exact rfl) | exact rfl) (by first | (simp only [List.set_cons_zero, List.set_cons_succ]; exact rfl) | exact rfl) ?_)
                                            all_goals refine HL_nil ?_
                                            all_goals (
                                              refine HQ_then ?_
                                              refine hK51 _ _ _ _ ?_; clear hK51 K51
                                              refine HC_ret ?_
                                              first
                                                | (refine HQ_mark (k := 0) rfl rfl ?_
                                                   refine HQ_post rfl rfl (.cons (res_cell rfl (known_L (k := 1) rfl) rfl rfl) .nil) (fun w1 hs1 => ?_)
                                                   rw [if_neg (by omega), if_neg hnl, if_neg (by omega)]
                                                   first
                                                     | (rw [if_pos htab]; exact ⟨rfl, hs1.keep⟩)
                                                     | (rw [if_neg (by rw [htab]; simp)]; exact ⟨rfl, hs1.keep⟩))
                                                | (refine HQ_post rfl rfl (.cons (res_cell rfl (known_L (k := 0) rfl) rfl rfl) .nil) (fun w1 hs1 => ?_)
                                                   first
                                                     | (rw [if_pos (by omega)]; exact ⟨rfl, hs1.keep⟩)
                                                     | (rw [if_neg (by omega), if_neg hnl, if_pos (by omega)]
                                                        have h2 : wrU f s.er 2 = 2 := by
                                                          have h3 : ¬ wrU f s.er 2 = 0 := by omega
                                                          unfold wrU wrU wrU at h3 ⊢
                                                          split at h3 <;> split <;> simp_all
                                                        rw [h2]; exact ⟨rfl, hs1.keep⟩)
                                                     | (exfalso; first | contradiction | (simp_all; done)))
                                                | (refine HQ_post rfl rfl (.cons (res_cell rfl (known_L (k := 1) rfl) rfl rfl) .nil) (fun w1 hs1 => ?_)
                                                   rw [if_neg (by omega), if_pos (by have h01 : i = 0 ∨ i = 1 := by omega
                                                                                     rcases h01 with rfl | rfl
                                                                                     · exact Or.inl hlk
                                                                                     · exact Or.inr hlk)]
                                                   exact ⟨rfl, hs1.keep⟩)
                                              skip)
                                          · rintro D j ⟨⟩ ⟨rfl, htab⟩
                                            refine HC_ret ?_
                                            refine HQ_blockR ?_
                                            refine HQ_thenR ?_; clear hK38 K38
                                            first
                                              | (refine HQ_mark (k := 0) rfl rfl ?_
                                                 refine HQ_post rfl rfl (.cons (res_cell rfl (known_L (k := 1) rfl) rfl rfl) .nil) (fun w1 hs1 => ?_)
                                                 rw [if_neg (by omega), if_neg hnl, if_neg (by omega)]
                                                 first
                                                   | (rw [if_pos htab]; exact ⟨rfl, hs1.keep⟩)
                                                   | (rw [if_neg (by rw [htab]; simp)]; exact ⟨rfl, hs1.keep⟩))
                                              | (refine HQ_post rfl rfl (.cons (res_cell rfl (known_L (k := 0) rfl) rfl rfl) .nil) (fun w1 hs1 => ?_)
                                                 first
                                                   | (rw [if_pos (by omega)]; exact ⟨rfl, hs1.keep⟩)
                                                   | (rw [if_neg (by omega), if_neg hnl, if_pos (by omega)]
                                                      have h2 : wrU f s.er 2 = 2 := by
                                                        have h3 : ¬ wrU f s.er 2 = 0 := by omega
                                                        unfold wrU wrU wrU at h3 ⊢
                                                        split at h3 <;> split <;> simp_all
                                                      rw [h2]; exact ⟨rfl, hs1.keep⟩)
                                                   | (exfalso; first | contradiction | (simp_all; done)))
                                              | (refine HQ_post rfl rfl (.cons (res_cell rfl (known_L (k := 1) rfl) rfl rfl) .nil) (fun w1 hs1 => ?_)
                                                 rw [if_neg (by omega), if_pos (by have h01 : i = 0 ∨ i = 1 := by omega
                                                                                   rcases h01 with rfl | rfl
                                                                                   · exact Or.inl hlk
                                                                                   · exact Or.inr hlk)]
                                                 exact ⟨rfl, hs1.keep⟩)
                                          skip)
                                        skip)
                                      skip)
                                    skip)
                                skip)
                              skip)
                          skip)
                        skip)
                      skip)
                    skip)
                skip)
              skip)
            skip)
        skip)
      skip)
  · have e : checkE f s.er = 10 := by unfold checkE; rw [if_pos hf]
    rw [e]
    refine pureR_of_HC Try.func14 rfl rfl fun w => ?_
    refine HC_seq fun K1 hK1 => ?_
    refine HC_region ?_
    all_goals refine HL_box (cs := #[_]) rfl rfl rfl rfl fun r1 => ?_
    all_goals refine HL_alloc (cs := #[_]) rfl rfl rfl rfl fun r2 => ?_
    all_goals refine HL_nil ?_
    all_goals (
      refine HQ_then ?_
      refine hK1 _ _ _ _ ?_; clear hK1 K1
      refine HC_seq fun K2 hK2 => ?_
      refine HC_seq fun K3 hK3 => ?_
      refine HC_region ?_
      all_goals refine HL_r rfl rfl rfl rfl (R_move rfl) ?_
      all_goals refine HL_callP rfl rfl rfl (enters_of Try.func30 (by kernel_rfl) rfl) (P_forked f) ?_
      all_goals refine HL_r rfl rfl rfl rfl (R_pure rfl rfl rfl) ?_
      all_goals refine HL_as (show _ = Value.bool true from by rw [decide_eq_false hf]; rfl) ?_
      all_goals refine HL_nil ?_
      all_goals (
        refine HQ_then ?_
        refine hK3 _ _ _ _ ?_; clear hK3 K3
        refine HC_cond rfl (fun h4 => ?_) (fun h4 => ?_)
        · try exact Bool.noConfusion h4
          all_goals try simp only [decide_eq_true_eq, decide_eq_false_iff_not, beq_iff_eq, beq_eq_false_iff_ne, bne_iff_ne, bne_eq_false_iff_eq, Bool.not_eq_true', Bool.not_eq_false', ne_eq, Int.not_lt, Int.not_le, ge_iff_le, gt_iff_lt] at h4
          all_goals (
            refine HC_seq fun K5 hK5 => ?_
            refine HC_region ?_
            all_goals (refine HL_store (k := 0) rfl rfl rfl rfl rfl rfl rfl rfl (by first | (simp only [List.setIfInBounds_toArray, List.set_cons_zero, List.set_cons_succ]; exact rfl) | exact rfl) (by first | (simp only [List.set_cons_zero, List.set_cons_succ]; exact rfl) | exact rfl) ?_)
            all_goals refine HL_nil ?_
            all_goals (
              refine HQ_then ?_
              refine hK5 _ _ _ _ ?_; clear hK5 K5
              refine HC_ret ?_
              refine HQ_thenR ?_; clear hK2 K2
              refine HQ_post rfl rfl (.cons (res_cell rfl (known_L (k := 0) rfl) rfl rfl) .nil) (fun w1 hs1 => ?_)
              exact ⟨rfl, hs1.keep⟩
              skip)
            skip)
        · try exact Bool.noConfusion h4
          all_goals try simp only [decide_eq_true_eq, decide_eq_false_iff_not, beq_iff_eq, beq_eq_false_iff_ne, bne_iff_ne, bne_eq_false_iff_eq, Bool.not_eq_true', Bool.not_eq_false', ne_eq, Int.not_lt, Int.not_le, ge_iff_le, gt_iff_lt] at h4
          all_goals (
            refine HC_skip ?_
            refine HQ_then ?_
            refine hK2 _ _ _ _ ?_; clear hK2 K2
            refine HC_seq fun K6 hK6 => ?_
            refine HC_seq fun K7 hK7 => ?_
            refine HC_region ?_
            all_goals refine HL_callP rfl rfl rfl (enters_of Try.func16 (by kernel_rfl) rfl) (P_state_Check ..) ?_
            all_goals refine HL_r rfl rfl rfl rfl (R_assign rfl) ?_
            all_goals refine HL_nil ?_
            all_goals (
              refine HQ_then ?_
              refine hK7 _ _ _ _ ?_; clear hK7 K7
              refine HC_seq fun K8 hK8 => ?_
              refine HC_region ?_
              all_goals refine HL_r rfl rfl rfl rfl (R_move rfl) ?_
              all_goals refine HL_r rfl rfl rfl rfl (R_pure rfl rfl rfl) ?_
              all_goals refine HL_nil ?_
              all_goals (
                refine HQ_then ?_
                refine hK8 _ _ _ _ ?_; clear hK8 K8
                refine HC_cond rfl (fun h9 => ?_) (fun h9 => ?_)
                · try exact Bool.noConfusion h9
                  all_goals try simp only [decide_eq_true_eq, decide_eq_false_iff_not, beq_iff_eq, beq_eq_false_iff_ne, bne_iff_ne, bne_eq_false_iff_eq, Bool.not_eq_true', Bool.not_eq_false', ne_eq, Int.not_lt, Int.not_le, ge_iff_le, gt_iff_lt] at h9
                  all_goals (
                    refine HC_seq fun K10 hK10 => ?_
                    refine HC_region ?_
                    all_goals refine HL_r rfl rfl rfl rfl (R_move rfl) ?_
                    all_goals refine HL_nil ?_
                    all_goals (
                      refine HQ_then ?_
                      refine hK10 _ _ _ _ ?_; clear hK10 K10
                      refine HC_ret ?_
                      refine HQ_thenR ?_; clear hK6 K6
                      refine HQ_post rfl rfl (.cons (res_cell rfl (known_L (k := 0) rfl) rfl rfl) .nil) (fun w1 hs1 => ?_)
                      exact ⟨rfl, hs1.keep⟩
                      skip)
                    skip)
                · try exact Bool.noConfusion h9
                  all_goals try simp only [decide_eq_true_eq, decide_eq_false_iff_not, beq_iff_eq, beq_eq_false_iff_ne, bne_iff_ne, bne_eq_false_iff_eq, Bool.not_eq_true', Bool.not_eq_false', ne_eq, Int.not_lt, Int.not_le, ge_iff_le, gt_iff_lt] at h9
                  all_goals (
                    refine HC_skip ?_
                    refine HQ_then ?_
                    refine hK6 _ _ _ _ ?_; clear hK6 K6
                    refine HC_seq fun K11 hK11 => ?_
                    refine HC_region ?_
                    all_goals refine HL_r rfl rfl rfl rfl (R_assign rfl) ?_
                    all_goals refine HL_nil ?_
                    all_goals (
                      refine HQ_then ?_
                      refine hK11 _ _ _ _ ?_; clear hK11 K11
                      refine HC_seq fun K12 hK12 => ?_
                      refine HC_seq fun K13 hK13 => ?_
                      refine HC_region ?_
                      all_goals refine HL_r rfl rfl rfl rfl (R_move rfl) ?_
                      all_goals refine HL_nil ?_
                      all_goals (
                        refine HQ_then ?_
                        refine hK13 _ _ _ _ ?_; clear hK13 K13
                        refine HC_block ?_
                        skip
                        refine HC_seq fun K14 hK14 => ?_
                        refine HC_region ?_
                        all_goals refine HL_r rfl rfl rfl rfl (R_pure rfl rfl rfl) ?_
                        all_goals refine HL_nil ?_
                        all_goals (
                          refine HQ_then ?_
                          refine hK14 _ _ _ _ ?_; clear hK14 K14
                          refine HC_seq fun K15 hK15 => ?_
                          refine HC_cond rfl (fun h16 => ?_) (fun h16 => ?_)
                          · try exact Bool.noConfusion h16
                            all_goals try simp only [decide_eq_true_eq, decide_eq_false_iff_not, beq_iff_eq, beq_eq_false_iff_ne, bne_iff_ne, bne_eq_false_iff_eq, Bool.not_eq_true', Bool.not_eq_false', ne_eq, Int.not_lt, Int.not_le, ge_iff_le, gt_iff_lt] at h16
                            all_goals (
                              refine HC_skip ?_
                              refine HQ_then ?_
                              refine hK15 _ _ _ _ ?_; clear hK15 K15
                              refine HC_seq fun K17 hK17 => ?_
                              refine HC_block ?_
                              refine HC_seq fun K18 hK18 => ?_
                              refine HC_region ?_
                              all_goals refine HL_r rfl rfl rfl rfl (R_move rfl) ?_
                              all_goals refine HL_r rfl rfl rfl rfl (R_assign rfl) ?_
                              all_goals refine HL_nil ?_
                              all_goals (
                                refine HQ_then ?_
                                refine hK18 _ _ _ _ ?_; clear hK18 K18
                                refine HC_seq fun K19 hK19 => ?_
                                refine HC_region ?_
                                all_goals refine HL_r rfl rfl rfl rfl (R_move rfl) ?_
                                all_goals refine HL_r rfl rfl rfl rfl (R_move rfl) ?_
                                all_goals refine HL_callP rfl rfl rfl (enters_of Try.func19 (by kernel_rfl) rfl) (P_layout_of ..) ?_
                                all_goals refine HL_r rfl rfl rfl rfl (R_move rfl) ?_
                                all_goals refine HL_r rfl rfl rfl rfl (R_extract rfl rfl) ?_
                                all_goals refine HL_r rfl rfl rfl rfl (R_extract rfl rfl) ?_
                                all_goals refine HL_r rfl rfl rfl rfl (R_assign rfl) ?_
                                all_goals refine HL_r rfl rfl rfl rfl (R_assign rfl) ?_
                                all_goals refine HL_nil ?_
                                all_goals (
                                  refine HQ_then ?_
                                  refine hK19 _ _ _ _ ?_; clear hK19 K19
                                  refine HC_seq fun K20 hK20 => ?_
                                  refine HC_draw 7 (by kernel_rfl) (by kernel_rfl) ?_
                                  all_goals refine HD_r rfl rfl rfl (R_move rfl) ?_
                                  all_goals refine HD_callP rfl rfl rfl (enters_of Try.func8 (by kernel_rfl) rfl) (P_layout_Addr ..) ?_
                                  all_goals refine HD_callP rfl rfl rfl (enters_of Try.func7 (by kernel_rfl) rfl) (P_state_Find ..) ?_
                                  all_goals refine HD_r rfl rfl rfl (R_move rfl) ?_
                                  all_goals refine HD_r rfl rfl rfl (R_extract rfl rfl) ?_
                                  all_goals refine HD_r rfl rfl rfl (R_extract rfl rfl) ?_
                                  all_goals refine HD_end ?_
                                  all_goals refine HL_alloc (cs := #[_, _, _, _, _, _, _, _]) rfl rfl rfl rfl fun r3 => ?_
                                  all_goals refine HL_r rfl rfl rfl rfl (R_assign rfl) ?_
                                  all_goals refine HL_nil ?_
                                  all_goals (
                                    refine HQ_then ?_
                                    refine hK20 _ _ _ _ ?_; clear hK20 K20
                                    refine HC_block ?_
                                    refine HC_seq fun K21 hK21 => ?_
                                    refine HC_region ?_
                                    all_goals refine HL_r rfl rfl rfl rfl (R_move rfl) ?_
                                    all_goals refine HL_r rfl rfl rfl rfl (R_move rfl) ?_
                                    all_goals refine HL_r rfl rfl rfl rfl (R_assign rfl) ?_
                                    all_goals refine HL_nil ?_
                                    all_goals (
                                      refine HQ_then ?_
                                      refine hK21 _ _ _ _ ?_; clear hK21 K21
                                      refine HC_cond rfl (fun h24 => ?_) (fun h24 => ?_)
                                      · try exact Bool.noConfusion h24
                                        all_goals try simp only [decide_eq_true_eq, decide_eq_false_iff_not, beq_iff_eq, beq_eq_false_iff_ne, bne_iff_ne, bne_eq_false_iff_eq, Bool.not_eq_true', Bool.not_eq_false', ne_eq, Int.not_lt, Int.not_le, ge_iff_le, gt_iff_lt] at h24
                                        all_goals (
                                          refine HC_seq fun K25 hK25 => ?_
                                          refine HC_region ?_
                                          all_goals refine HL_nil ?_
                                          all_goals (
                                            refine HQ_then ?_
                                            refine hK25 _ _ _ _ ?_; clear hK25 K25
                                            refine HC_ret ?_
                                            refine HQ_blockR ?_
                                            refine HQ_blockR ?_
                                            refine HQ_thenR ?_; clear hK17 K17
                                            refine HQ_thenR ?_
                                            refine HQ_blockR ?_
                                            refine HQ_thenR ?_; clear hK12 K12
                                            refine HQ_post rfl rfl (.cons (res_cell rfl (known_L (k := 0) rfl) rfl rfl) .nil) (fun w1 hs1 => ?_)
                                            exact ⟨rfl, hs1.keep⟩
                                            skip)
                                          skip)
                                      · try exact Bool.noConfusion h24
                                        all_goals try simp only [decide_eq_true_eq, decide_eq_false_iff_not, beq_iff_eq, beq_eq_false_iff_ne, bne_iff_ne, bne_eq_false_iff_eq, Bool.not_eq_true', Bool.not_eq_false', ne_eq, Int.not_lt, Int.not_le, ge_iff_le, gt_iff_lt] at h24
                                        all_goals (
                                          refine HC_seq fun K26 hK26 => ?_
                                          refine HC_region ?_
                                          all_goals refine HL_r rfl rfl rfl rfl (R_move rfl) ?_
                                          all_goals refine HL_r rfl rfl rfl rfl (R_move rfl) ?_
                                          all_goals refine HL_r rfl rfl rfl rfl (R_assign rfl) ?_
                                          all_goals refine HL_nil ?_
                                          all_goals (
                                            refine HQ_then ?_
                                            refine hK26 _ _ _ _ ?_; clear hK26 K26
                                            refine HC_cond rfl (fun h31 => ?_) (fun h31 => ?_)
                                            · try exact Bool.noConfusion h31
                                              all_goals try simp only [decide_eq_true_eq, decide_eq_false_iff_not, beq_iff_eq, beq_eq_false_iff_ne, bne_iff_ne, bne_eq_false_iff_eq, Bool.not_eq_true', Bool.not_eq_false', ne_eq, Int.not_lt, Int.not_le, ge_iff_le, gt_iff_lt] at h31
                                              all_goals (
                                                refine HC_region ?_
                                                all_goals refine HL_r rfl rfl rfl rfl (R_assign rfl) ?_
                                                all_goals refine HL_nil ?_
                                                all_goals (
                                                  refine HQ_blockN ?_
                                                  refine HQ_blockN ?_
                                                  refine HQ_then ?_
                                                  refine hK17 _ _ _ _ ?_; clear hK17 K17
                                                  refine HC_region ?_
                                                  all_goals refine HL_r rfl rfl rfl rfl (R_move rfl) ?_
                                                  all_goals refine HL_nil ?_
                                                  all_goals (
                                                    refine HQ_then ?_
                                                    skip
                                                    skip)
                                                  skip)
                                                skip)
                                            · try exact Bool.noConfusion h31
                                              all_goals try simp only [decide_eq_true_eq, decide_eq_false_iff_not, beq_iff_eq, beq_eq_false_iff_ne, bne_iff_ne, bne_eq_false_iff_eq, Bool.not_eq_true', Bool.not_eq_false', ne_eq, Int.not_lt, Int.not_le, ge_iff_le, gt_iff_lt] at h31
                                              all_goals (
                                                refine HC_skip ?_
                                                refine HQ_blockN ?_
                                                refine HQ_blockN ?_
                                                refine HQ_then ?_
                                                refine hK17 _ _ _ _ ?_; clear hK17 K17
                                                refine HC_region ?_
                                                all_goals refine HL_r rfl rfl rfl rfl (R_move rfl) ?_
                                                all_goals refine HL_nil ?_
                                                all_goals (
                                                  refine HQ_then ?_
                                                  skip
                                                  skip)
                                                skip)
                                            skip)
                                          skip)
                                      skip)
                                    skip)
                                  skip)
                                skip)
                              skip)
                          · try exact Bool.noConfusion h16
                            all_goals try simp only [decide_eq_true_eq, decide_eq_false_iff_not, beq_iff_eq, beq_eq_false_iff_ne, bne_iff_ne, bne_eq_false_iff_eq, Bool.not_eq_true', Bool.not_eq_false', ne_eq, Int.not_lt, Int.not_le, ge_iff_le, gt_iff_lt] at h16
                            all_goals (
                              refine HC_exit ?_
                              refine HQ_thenE ?_; clear hK15 K15
                              refine HQ_thenE ?_
                              refine HQ_blockE ?_
                              refine HQ_then ?_
                              refine hK12 _ _ _ _ ?_; clear hK12 K12
                              refine HC_seq fun K32 hK32 => ?_
                              refine HC_seq fun K33 hK33 => ?_
                              refine HC_region ?_
                              all_goals refine HL_r rfl rfl rfl rfl (R_move rfl) ?_
                              all_goals refine HL_r rfl rfl rfl rfl (R_pure rfl rfl rfl) ?_
                              all_goals refine HL_nil ?_
                              all_goals (
                                refine HQ_then ?_
                                refine hK33 _ _ _ _ ?_; clear hK33 K33
                                refine HC_cond rfl (fun h34 => ?_) (fun h34 => ?_)
                                · try exact Bool.noConfusion h34
                                  all_goals try simp only [decide_eq_true_eq, decide_eq_false_iff_not, beq_iff_eq, beq_eq_false_iff_ne, bne_iff_ne, bne_eq_false_iff_eq, Bool.not_eq_true', Bool.not_eq_false', ne_eq, Int.not_lt, Int.not_le, ge_iff_le, gt_iff_lt] at h34
                                  all_goals (
                                    refine HC_seq fun K35 hK35 => ?_
                                    refine HC_region ?_
                                    all_goals refine HL_r rfl rfl rfl rfl (R_move rfl) ?_
                                    all_goals refine HL_nil ?_
                                    all_goals (
                                      refine HQ_then ?_
                                      refine hK35 _ _ _ _ ?_; clear hK35 K35
                                      refine HC_ret ?_
                                      refine HQ_thenR ?_; clear hK32 K32
                                      refine HQ_post rfl rfl (.cons (res_cell rfl (known_L (k := 0) rfl) rfl rfl) .nil) (fun w1 hs1 => ?_)
                                      exact ⟨rfl, hs1.keep⟩
                                      skip)
                                    skip)
                                · try exact Bool.noConfusion h34
                                  all_goals try simp only [decide_eq_true_eq, decide_eq_false_iff_not, beq_iff_eq, beq_eq_false_iff_ne, bne_iff_ne, bne_eq_false_iff_eq, Bool.not_eq_true', Bool.not_eq_false', ne_eq, Int.not_lt, Int.not_le, ge_iff_le, gt_iff_lt] at h34
                                  all_goals (
                                    refine HC_skip ?_
                                    refine HQ_then ?_
                                    refine hK32 _ _ _ _ ?_; clear hK32 K32
                                    refine HC_seq fun K36 hK36 => ?_
                                    refine HC_draw 6 (by kernel_rfl) (by kernel_rfl) ?_
                                    all_goals refine HD_callP rfl rfl rfl (enters_of Try.func8 (by kernel_rfl) rfl) (P_layout_Addr ..) ?_
                                    all_goals refine HD_callP rfl rfl rfl (enters_of Try.func7 (by kernel_rfl) rfl) (P_state_Find ..) ?_
                                    all_goals refine HD_r rfl rfl rfl (R_move rfl) ?_
                                    all_goals refine HD_r rfl rfl rfl (R_extract rfl rfl) ?_
                                    all_goals refine HD_r rfl rfl rfl (R_extract rfl rfl) ?_
                                    all_goals refine HD_end ?_
                                    all_goals refine HL_alloc (cs := #[_, _, _, _, _, _, _, _]) rfl rfl rfl rfl fun r4 => ?_
                                    all_goals refine HL_r rfl rfl rfl rfl (R_assign rfl) ?_
                                    all_goals refine HL_nil ?_
                                    all_goals (
                                      refine HQ_then ?_
                                      refine hK36 _ _ _ _ ?_; clear hK36 K36
                                      refine HC_seq fun K37 hK37 => ?_
                                      refine HC_region ?_
                                      all_goals refine HL_r rfl rfl rfl rfl (R_move rfl) ?_
                                      all_goals refine HL_callP rfl rfl rfl (enters_of Try.func29 (by kernel_rfl) rfl) (P_layout_read ..) ?_
                                      all_goals refine HL_alloc (cs := #[_, _, _, _, _, _, _, _, _, _, _, _, _, _, _, _, _]) rfl rfl rfl rfl fun r5 => ?_
                                      all_goals refine HL_nil ?_
                                      all_goals (
                                        refine HQ_then ?_
                                        refine hK37 _ _ _ _ ?_; clear hK37 K37
                                        refine HC_seq fun K38 hK38 => ?_
                                        refine HC_seq fun K39 hK39 => ?_
                                        refine HC_region ?_
                                        all_goals refine HL_r rfl rfl rfl rfl (R_move rfl) ?_
                                        all_goals refine HL_callP rfl rfl rfl (enters_of Try.func32 (by kernel_rfl) rfl) (P_layout_rows ..) ?_
                                        all_goals refine HL_nil ?_
                                        all_goals (
                                          refine HQ_then ?_
                                          refine hK39 _ _ _ _ ?_; clear hK39 K39
                                          refine HC_block ?_
                                          skip
                                          · skip
                                            refine HC_seq fun K40 hK40 => ?_
                                            refine HC_region ?_
                                            all_goals refine HL_alloc (cs := #[_, _, _, _, _]) rfl rfl rfl rfl fun r6 => ?_
                                            all_goals refine HL_nil ?_
                                            all_goals (
                                              refine HQ_then ?_
                                              refine hK40 _ _ _ _ ?_; clear hK40 K40
                                              refine HC_region ?_
                                              all_goals refine HL_r rfl rfl rfl rfl (R_assign rfl) ?_
                                              all_goals refine HL_nil ?_
                                              all_goals (
                                                refine HQ_then ?_
                                                refine hKr _ _ ?_; clear hKr
                                                refine HC_block ?_
                                                refine HC_seq fun K41 hK41 => ?_
                                                refine HC_region ?_
                                                all_goals refine HL_callP rfl rfl rfl (enters_of Try.func22 (by kernel_rfl) rfl) (P_layout_none ..) ?_
                                                all_goals refine HL_r rfl rfl rfl rfl (R_assign rfl) ?_
                                                all_goals refine HL_nil ?_
                                                all_goals (
                                                  refine HQ_then ?_
                                                  refine hK41 _ _ _ _ ?_; clear hK41 K41
                                                  refine HC_seq fun K42 hK42 => ?_
                                                  refine HC_seq fun K43 hK43 => ?_
                                                  refine HC_region ?_
                                                  all_goals refine HL_r rfl rfl rfl rfl (R_move rfl) ?_
                                                  all_goals refine HL_nil ?_
                                                  all_goals (
                                                    refine HQ_then ?_
                                                    refine hK43 _ _ _ _ ?_; clear hK43 K43
                                                    refine HC_cond rfl (fun h44 => ?_) (fun h44 => ?_)
                                                    · try exact Bool.noConfusion h44
                                                      all_goals try simp only [decide_eq_true_eq, decide_eq_false_iff_not, beq_iff_eq, beq_eq_false_iff_ne, bne_iff_ne, bne_eq_false_iff_eq, Bool.not_eq_true', Bool.not_eq_false', ne_eq, Int.not_lt, Int.not_le, ge_iff_le, gt_iff_lt] at h44
                                                      all_goals (
                                                        refine HC_region ?_
                                                        all_goals refine HL_r rfl rfl rfl rfl (R_fieldAddr rfl rfl (by first | (simp only [Nat.zero_add, Nat.reduceAdd, Nat.reduceMul, Nat.zero_mul, Nat.mul_one, Nat.add_zero]; exact rfl) | exact rfl)) ?_
                                                        all_goals fail
                                                        all_goals refine HL_callP rfl rfl rfl (enters_of Try.func23 (by kernel_rfl) rfl) (P_word_Fixed ..) ?_
                                                        all_goals refine HL_r rfl rfl rfl rfl (R_assign rfl) ?_
                                                        all_goals refine HL_nil ?_
                                                        all_goals (
                                                          refine HQ_then ?_
                                                          refine hK42 _ _ _ _ ?_; clear hK42 K42
                                                          refine HC_seq fun K45 hK45 => ?_
                                                          refine HC_draw 7 (by kernel_rfl) (by kernel_rfl) ?_
                                                          all_goals refine HD_r rfl rfl rfl (R_fieldAddr rfl rfl (by first | (simp only [Nat.zero_add, Nat.reduceAdd, Nat.reduceMul, Nat.zero_mul, Nat.mul_one, Nat.add_zero]; exact rfl) | exact rfl)) ?_
                                                          all_goals refine HD_callP rfl rfl rfl (enters_of Try.func33 (by kernel_rfl) rfl) (P_layout_key ..) ?_
                                                          all_goals refine HD_callP rfl rfl rfl (enters_of Try.func10 (by kernel_rfl) rfl) (P_state_Slot ..) ?_
                                                          all_goals refine HD_r rfl rfl rfl (R_move rfl) ?_
                                                          all_goals refine HD_r rfl rfl rfl (R_strNe rfl rfl) ?_
                                                          all_goals refine HD_end ?_
                                                          all_goals refine HL_nil ?_
                                                          all_goals (
                                                            refine HQ_then ?_
                                                            refine hK45 _ _ _ _ ?_; clear hK45 K45
                                                            refine HC_cond rfl (fun h46 => ?_) (fun h46 => ?_)
                                                            · try exact Bool.noConfusion h46
                                                              all_goals try simp only [decide_eq_true_eq, decide_eq_false_iff_not, beq_iff_eq, beq_eq_false_iff_ne, bne_iff_ne, bne_eq_false_iff_eq, Bool.not_eq_true', Bool.not_eq_false', ne_eq, Int.not_lt, Int.not_le, ge_iff_le, gt_iff_lt] at h46
                                                              all_goals (
                                                                refine HC_seq fun K47 hK47 => ?_
                                                                refine HC_region ?_
                                                                all_goals refine HL_nil ?_
                                                                all_goals (
                                                                  refine HQ_then ?_
                                                                  refine hK47 _ _ _ _ ?_; clear hK47 K47
                                                                  refine HC_ret ?_
                                                                  refine HQ_blockR ?_
                                                                  skip
                                                                  skip)
                                                                skip)
                                                            · try exact Bool.noConfusion h46
                                                              all_goals try simp only [decide_eq_true_eq, decide_eq_false_iff_not, beq_iff_eq, beq_eq_false_iff_ne, bne_iff_ne, bne_eq_false_iff_eq, Bool.not_eq_true', Bool.not_eq_false', ne_eq, Int.not_lt, Int.not_le, ge_iff_le, gt_iff_lt] at h46
                                                              all_goals (
                                                                refine HC_skip ?_
                                                                refine HQ_blockN ?_
                                                                skip
                                                                skip)
                                                            skip)
                                                          skip)
                                                        skip)
                                                    · try exact Bool.noConfusion h44
                                                      all_goals try simp only [decide_eq_true_eq, decide_eq_false_iff_not, beq_iff_eq, beq_eq_false_iff_ne, bne_iff_ne, bne_eq_false_iff_eq, Bool.not_eq_true', Bool.not_eq_false', ne_eq, Int.not_lt, Int.not_le, ge_iff_le, gt_iff_lt] at h44
                                                      all_goals (
                                                        refine HC_skip ?_
                                                        refine HQ_then ?_
                                                        refine hK42 _ _ _ _ ?_; clear hK42 K42
                                                        refine HC_seq fun K48 hK48 => ?_
                                                        refine HC_draw 7 (by kernel_rfl) (by kernel_rfl) ?_
                                                        all_goals refine HD_r rfl rfl rfl (R_fieldAddr rfl rfl (by first | (simp only [Nat.zero_add, Nat.reduceAdd, Nat.reduceMul, Nat.zero_mul, Nat.mul_one, Nat.add_zero]; exact rfl) | exact rfl)) ?_
                                                        all_goals refine HD_callP rfl rfl rfl (enters_of Try.func33 (by kernel_rfl) rfl) (P_layout_key ..) ?_
                                                        all_goals refine HD_callP rfl rfl rfl (enters_of Try.func10 (by kernel_rfl) rfl) (P_state_Slot ..) ?_
                                                        all_goals refine HD_r rfl rfl rfl (R_move rfl) ?_
                                                        all_goals refine HD_r rfl rfl rfl (R_strNe rfl rfl) ?_
                                                        all_goals refine HD_end ?_
                                                        all_goals refine HL_nil ?_
                                                        all_goals (
                                                          refine HQ_then ?_
                                                          refine hK48 _ _ _ _ ?_; clear hK48 K48
                                                          refine HC_cond rfl (fun h49 => ?_) (fun h49 => ?_)
                                                          · try exact Bool.noConfusion h49
                                                            all_goals try simp only [decide_eq_true_eq, decide_eq_false_iff_not, beq_iff_eq, beq_eq_false_iff_ne, bne_iff_ne, bne_eq_false_iff_eq, Bool.not_eq_true', Bool.not_eq_false', ne_eq, Int.not_lt, Int.not_le, ge_iff_le, gt_iff_lt] at h49
                                                            all_goals (
                                                              refine HC_seq fun K50 hK50 => ?_
                                                              refine HC_region ?_
                                                              all_goals refine HL_nil ?_
                                                              all_goals (
                                                                refine HQ_then ?_
                                                                refine hK50 _ _ _ _ ?_; clear hK50 K50
                                                                refine HC_ret ?_
                                                                refine HQ_blockR ?_
                                                                skip
                                                                skip)
                                                              skip)
                                                          · try exact Bool.noConfusion h49
                                                            all_goals try simp only [decide_eq_true_eq, decide_eq_false_iff_not, beq_iff_eq, beq_eq_false_iff_ne, bne_iff_ne, bne_eq_false_iff_eq, Bool.not_eq_true', Bool.not_eq_false', ne_eq, Int.not_lt, Int.not_le, ge_iff_le, gt_iff_lt] at h49
                                                            all_goals (
                                                              refine HC_skip ?_
                                                              refine HQ_blockN ?_
                                                              skip
                                                              skip)
                                                          skip)
                                                        skip)
                                                    skip)
                                                  skip)
                                                skip)
                                              skip)
                                          · skip
                                            refine HQ_blockN ?_
                                            refine HQ_then ?_
                                            refine hK38 _ _ _ _ ?_; clear hK38 K38
                                            refine HC_seq fun K51 hK51 => ?_
                                            refine HC_region ?_
                                            all_goals refine HL_nil ?_
                                            all_goals (
                                              refine HQ_then ?_
                                              refine hK51 _ _ _ _ ?_; clear hK51 K51
                                              refine HC_ret ?_
                                              refine HQ_post rfl rfl (.cons (res_cell rfl (known_L (k := 0) rfl) rfl rfl) .nil) (fun w1 hs1 => ?_)
                                              exact ⟨rfl, hs1.keep⟩
                                              skip)
                                          · skip
                                          skip)
                                        skip)
                                      skip)
                                    skip)
                                skip)
                              skip)
                          skip)
                        skip)
                      skip)
                    skip)
                skip)
              skip)
            skip)
        skip)
      skip)
end Go.Proofs.Ytnkmbkndpoghdaa
/-! ### Results that grow from round to round -/
namespace Go.SL
set_option linter.all false
open Go Go.RowKit Go.Shelf
open Go.Proofs (Enters enters_of)
theorem HC_perm {c : Cx} {d : List Deferred} {l : List (Nat × Value)} {L L' : List (Nat × Obj)} {X : XP} {code : Code} {Q : Exit → Act → World → Prop} (hp : L.Perm L') (h : HC c d l L' X code Q) : HC c d l L X code Q := fun a w hf hs => h a w hf (hs.perm hp)
theorem perm_mid {α : Type} (A B C : List α) : (A ++ (B ++ C)).Perm (B ++ (A ++ C)) := by
  rw [← List.append_assoc, ← List.append_assoc]
  exact List.perm_append_comm.append_right C
theorem acRes_ne {R : List (Nat × Obj)} {a : AcL} (ha : a.In R) (k v : BS) : Nonempty (AcRes R (setE a.er k v)) := by
  by_cases h : (setE a.er k v).2 = 0
  · obtain ⟨h1, h2, h3, h4, h5⟩ := set_ok h
    rw [h5]
    have hw : (withE a.slots k v).length ≤ 16 := h4
    exact ⟨⟨⟨a.addr, a.nonce, a.bal, a.code, withE a.slots k v, some (⟨0, 0, none⟩, (withE a.slots k v).length)⟩, 0, [(0, .cells (slsC (withE a.slots k v)).toArray 0 (0, 0))], ac_in_with ha h2 h3 (by omega) ⟨Nat.le_refl _, fun _ => ⟨rfl, _, 0, (0, 0), List.mem_cons_self, by simp⟩⟩, rfl⟩⟩
  · have e : (setE a.er k v) = (a.er, (setE a.er k v).2) := by
      unfold setE at h ⊢
      split
      · rfl
      · rename_i h1
        rw [if_neg h1] at h
        split
        · rfl
        · rename_i h2
          rw [if_neg h2] at h
          split
          · rfl
          · rename_i h3
            rw [if_neg h3] at h
            exact absurd rfl h
    exact ⟨⟨a, (setE a.er k v).2, [], ha, e.symm⟩⟩
/-- An account and the blocks that it may lie in. -/
structure AcSt (R : List (Nat × Obj)) : Type where
  a : AcL
  L : List (Nat × Obj)
  ok : a.In (L ++ R)
structure StSt (R : List (Nat × Obj)) : Type where
  s : StL
  L : List (Nat × Obj)
  ok : s.In (L ++ R)
def AcSt.next {R : List (Nat × Obj)} (s : AcSt R) {e : AcE × Int} (x : AcRes (s.L ++ R) e) : AcSt R := ⟨x.a, x.L ++ s.L, by rw [List.append_assoc]; exact x.ok⟩
def StSt.next {R : List (Nat × Obj)} (s : StSt R) {L' : List (Nat × Obj)} {e : List AcE × Int} (x : StRes (L' ++ (s.L ++ R)) e) : StSt R := ⟨x.s, x.L ++ (L' ++ s.L), by rw [List.append_assoc, List.append_assoc]; exact x.ok⟩
theorem setRows_cons (a : AcE) (x : BS × BS) (l : List (BS × BS)) : setRows a (x :: l) = if (setE a x.1 x.2).2 ≠ 0 then setE a x.1 x.2 else setRows (setE a x.1 x.2).1 l := rfl
theorem map_drop {α : Type} (f : Nat → α) {i : Nat} (h : i < 7) : (tab.map f).drop i = f i :: (tab.map f).drop (i + 1) := by
  have : i = 0 ∨ i = 1 ∨ i = 2 ∨ i = 3 ∨ i = 4 ∨ i = 5 ∨ i = 6 := by omega
  rcases this with rfl | rfl | rfl | rfl | rfl | rfl | rfl <;> rfl
theorem set_same {a : AcE} {k v : BS} (h : (setE a k v).2 ≠ 0) : setE a k v = (a, (setE a k v).2) := by
  unfold setE at h ⊢
  split
  · rfl
  · rename_i h1
    rw [if_neg h1] at h
    split
    · rfl
    · rename_i h2
      rw [if_neg h2] at h
      split
      · rfl
      · rename_i h3
        rw [if_neg h3] at h
        exact absurd rfl h
theorem change_drop {i : Nat} (hi : i < 2) : ([0, 1] : List Int).drop i = (i : Int) :: ([0, 1] : List Int).drop (i + 1) := by
  have : i = 0 ∨ i = 1 := by omega
  rcases this with rfl | rfl <;> rfl
theorem changeL_cons (f : Int) (s0 : List AcE) (go : Int → AcE → AcE × Int) (w : Int) (ws : List Int) (t : List AcE) : changeL f s0 go (w :: ws) t = if (codeE f w).2 = false then changeL f s0 go ws t else
      if (go w (oldE t w)).2 ≠ 0 then (s0, (go w (oldE t w)).2) else if (putS t (go w (oldE t w)).1).2 ≠ 0 then (s0, (putS t (go w (oldE t w)).1).2) else changeL f s0 go ws (putS t (go w (oldE t w)).1).1 := rfl
theorem old_er (s : StL) (w : Int) : AcL.er { findL s (addrE w) with addr := addrE w } = oldE s.er w := by
  unfold oldE
  rw [← find_er]
  rfl
theorem addr_len (w : Int) : (addrE w).length ≤ 512 := by
  unfold addrE
  split
  · decide
  · simp
end Go.SL
