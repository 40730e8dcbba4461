import Derived.Test.YtdadaddakcidjaaDoorGf
namespace Go.Proofs.YtdadaddakcidjaaDoor
set_option linter.all false
open Go.SL Go.RowKit Go.Shelf
set_option maxRecDepth 10000 in
theorem S_none {R : List (Nat × Obj)} {k n : Int} {p : Pl} {ins : List Ty} (ht : Ty.In R (.mk k n p ins)) : PureR Tryd.prog 43 [Ty.val (.mk k n p ins)].toArray (.bool (decide (ins.length = 0))) R := by
  cases ht with
  | mk hk hn hl hs hi =>
  refine pureR_of_HC Tryd.func43 rfl rfl fun w => ?_
  refine HC_seq fun K1 hK1 => ?_
  refine HC_region ?_
  all_goals refine HL_box (cs := #[_, _, _]) rfl rfl rfl rfl fun r1 => ?_
  all_goals refine HL_r rfl rfl rfl rfl (R_assign rfl) ?_
  all_goals refine HL_nil ?_
  all_goals (
    refine HQ_then ?_
    refine hK1 _ _ _ _ ?_; clear hK1 K1
    refine HC_seq fun K2 hK2 => ?_
    refine HC_region ?_
    all_goals refine HL_r rfl rfl rfl rfl (R_fieldAddr rfl rfl (by first | (simp only [Nat.zero_add, Nat.reduceAdd, Nat.reduceMul, Nat.zero_mul, Nat.mul_one, Nat.add_zero]; exact rfl) | exact rfl)) ?_
    all_goals refine HL_r rfl rfl rfl rfl (R_load rfl (known_L (k := 0) rfl) rfl rfl) ?_
    all_goals (refine HL_r rfl rfl rfl rfl (R_lenPl rfl hs rfl) ?_)
    all_goals refine HL_r rfl rfl rfl rfl (R_pure rfl rfl rfl) ?_
    all_goals refine HL_r rfl rfl rfl rfl (R_assign rfl) ?_
    all_goals refine HL_nil ?_
    all_goals (
      refine HQ_then ?_
      refine hK2 _ _ _ _ ?_; clear hK2 K2
      refine HC_ret ?_
      refine HQ_post rfl rfl (.cons (res_tmp rfl) .nil) (fun w1 hs1 => ?_)
      exact ⟨congrArg (fun b => Ending.returned (Value.bool b)) (by rw [Bool.eq_iff_iff]; simp only [beq_iff_eq, decide_eq_true_eq]; omega), hs1.keep⟩
      skip)
    skip)
set_option maxRecDepth 10000 in
theorem S_plain {R : List (Nat × Obj)} {k n : Int} {p : Pl} {ins : List Ty} (ht : Ty.In R (.mk k n p ins)) : PureR Tryd.prog 50 [Ty.val (.mk k n p ins)].toArray (.bool (decide (n = 0))) R := by
  cases ht with
  | mk hk hn hl hs hi =>
  refine pureR_of_HC Tryd.func50 rfl rfl fun w => ?_
  refine HC_seq fun K1 hK1 => ?_
  refine HC_region ?_
  all_goals refine HL_box (cs := #[_, _, _]) rfl rfl rfl rfl fun r1 => ?_
  all_goals refine HL_r rfl rfl rfl rfl (R_assign rfl) ?_
  all_goals refine HL_nil ?_
  all_goals (
    refine HQ_then ?_
    refine hK1 _ _ _ _ ?_; clear hK1 K1
    refine HC_seq fun K2 hK2 => ?_
    refine HC_region ?_
    all_goals refine HL_r rfl rfl rfl rfl (R_fieldAddr rfl rfl (by first | (simp only [Nat.zero_add, Nat.reduceAdd, Nat.reduceMul, Nat.zero_mul, Nat.mul_one, Nat.add_zero]; exact rfl) | exact rfl)) ?_
    all_goals refine HL_r rfl rfl rfl rfl (R_load rfl (known_L (k := 0) rfl) rfl rfl) ?_
    all_goals refine HL_r rfl rfl rfl rfl (R_pure rfl rfl rfl) ?_
    all_goals refine HL_r rfl rfl rfl rfl (R_assign rfl) ?_
    all_goals refine HL_nil ?_
    all_goals (
      refine HQ_then ?_
      refine hK2 _ _ _ _ ?_; clear hK2 K2
      refine HC_ret ?_
      refine HQ_post rfl rfl (.cons (res_tmp rfl) .nil) (fun w1 hs1 => ?_)
      refine ⟨?_, hs1.keep⟩
      simp_all [resVal]
      all_goals first | done | rfl | omega | (rw [Bool.eq_iff_iff]; simp only [Bool.and_eq_true, Bool.or_eq_true, decide_eq_true_eq, beq_iff_eq]; omega) | (simp only [decide_eq_true_eq, decide_eq_false_iff_not]; omega)
      skip)
    skip)
set_option maxRecDepth 10000 in
theorem S_row {R : List (Nat × Obj)} {k n : Int} {p : Pl} {ins : List Ty} (ht : Ty.In R (.mk k n p ins)) : PureR Tryd.prog 57 [Ty.val (.mk k n p ins)].toArray (.bool (decide (1 ≤ n) && decide (n ≤ 512))) R := by
  cases ht with
  | mk hk hn hl hs hi =>
  refine pureR_of_HC Tryd.func57 rfl rfl fun w => ?_
  refine HC_seq fun K1 hK1 => ?_
  refine HC_region ?_
  all_goals refine HL_box (cs := #[_, _, _]) rfl rfl rfl rfl fun r1 => ?_
  all_goals refine HL_r rfl rfl rfl rfl (R_assign rfl) ?_
  all_goals refine HL_nil ?_
  all_goals (
    refine HQ_then ?_
    refine hK1 _ _ _ _ ?_; clear hK1 K1
    refine HC_seq fun K2 hK2 => ?_
    refine HC_region ?_
    all_goals refine HL_r rfl rfl rfl rfl (R_fieldAddr rfl rfl (by first | (simp only [Nat.zero_add, Nat.reduceAdd, Nat.reduceMul, Nat.zero_mul, Nat.mul_one, Nat.add_zero]; exact rfl) | exact rfl)) ?_
    all_goals refine HL_r rfl rfl rfl rfl (R_load rfl (known_L (k := 0) rfl) rfl rfl) ?_
    all_goals refine HL_r rfl rfl rfl rfl (R_pure rfl rfl rfl) ?_
    all_goals refine HL_r rfl rfl rfl rfl (R_move rfl) ?_
    all_goals (refine HL_case 6 rfl (fun hb3 => ?_) (fun hb3 => ?_) <;> (try simp only [decide_eq_true_eq, decide_eq_false_iff_not, beq_iff_eq, beq_eq_false_iff_ne, bne_iff_ne, bne_eq_false_iff_eq, Bool.not_eq_true', Bool.not_eq_false', ne_eq, Int.not_lt, Int.not_le, ge_iff_le, gt_iff_lt] at hb3) <;> first | (refine HL_r rfl rfl rfl rfl (R_fieldAddr rfl rfl (by first | (simp only [Nat.zero_add, Nat.reduceAdd, Nat.reduceMul, Nat.zero_mul, Nat.mul_one, Nat.add_zero]; exact rfl) | exact rfl)) ?_) | (refine HL_skip rfl rfl rfl ?_))
    all_goals first
      | (refine HL_r rfl rfl rfl rfl (R_load rfl (known_L (k := 0) rfl) rfl rfl) ?_)
      | (refine HL_skip rfl rfl rfl ?_)
    all_goals first
      | (refine HL_r rfl rfl rfl rfl (R_pure rfl rfl rfl) ?_)
      | (refine HL_skip rfl rfl rfl ?_)
    all_goals first
      | (refine HL_r rfl rfl rfl rfl (R_pickT rfl rfl) ?_)
      | (refine HL_r rfl rfl rfl rfl (R_pickF rfl rfl) ?_)
    all_goals refine HL_r rfl rfl rfl rfl (R_assign rfl) ?_
    all_goals refine HL_nil ?_
    all_goals (
      refine HQ_then ?_
      refine hK2 _ _ _ _ ?_; clear hK2 K2
      refine HC_ret ?_
      refine HQ_post rfl rfl (.cons (res_tmp rfl) .nil) (fun w1 hs1 => ?_)
      refine ⟨?_, hs1.keep⟩
      simp_all [resVal]
      all_goals first | done | rfl | omega | (rw [Bool.eq_iff_iff]; simp only [Bool.and_eq_true, Bool.or_eq_true, decide_eq_true_eq, beq_iff_eq]; omega) | (simp only [decide_eq_true_eq, decide_eq_false_iff_not]; omega)
      skip)
    skip)
set_option maxRecDepth 10000 in
theorem S_many {R : List (Nat × Obj)} {k n : Int} {p : Pl} {ins : List Ty} (ht : Ty.In R (.mk k n p ins)) (most : Int) : PureR Tryd.prog 56 [Ty.val (.mk k n p ins), .int .i64 most].toArray (.bool (decide (1 ≤ ins.length) && decide ((ins.length : Int) ≤ most))) R := by
  cases ht with
  | mk hk hn hl hs hi =>
  refine pureR_of_HC Tryd.func56 rfl rfl fun w => ?_
  refine HC_seq fun K1 hK1 => ?_
  refine HC_region ?_
  all_goals refine HL_box (cs := #[_, _, _]) rfl rfl rfl rfl fun r1 => ?_
  all_goals refine HL_r rfl rfl rfl rfl (R_assign rfl) ?_
  all_goals refine HL_nil ?_
  all_goals (
    refine HQ_then ?_
    refine hK1 _ _ _ _ ?_; clear hK1 K1
    refine HC_seq fun K2 hK2 => ?_
    refine HC_region ?_
    all_goals refine HL_r rfl rfl rfl rfl (R_fieldAddr rfl rfl (by first | (simp only [Nat.zero_add, Nat.reduceAdd, Nat.reduceMul, Nat.zero_mul, Nat.mul_one, Nat.add_zero]; exact rfl) | exact rfl)) ?_
    all_goals refine HL_r rfl rfl rfl rfl (R_load rfl (known_L (k := 0) rfl) rfl rfl) ?_
    all_goals (refine HL_r rfl rfl rfl rfl (R_lenPl rfl hs rfl) ?_)
    all_goals refine HL_r rfl rfl rfl rfl (R_pure rfl rfl rfl) ?_
    all_goals refine HL_r rfl rfl rfl rfl (R_move rfl) ?_
    all_goals (refine HL_case 9 rfl (fun hb3 => ?_) (fun hb3 => ?_) <;> (try simp only [decide_eq_true_eq, decide_eq_false_iff_not, beq_iff_eq, beq_eq_false_iff_ne, bne_iff_ne, bne_eq_false_iff_eq, Bool.not_eq_true', Bool.not_eq_false', ne_eq, Int.not_lt, Int.not_le, ge_iff_le, gt_iff_lt] at hb3) <;> first | (refine HL_r rfl rfl rfl rfl (R_fieldAddr rfl rfl (by first | (simp only [Nat.zero_add, Nat.reduceAdd, Nat.reduceMul, Nat.zero_mul, Nat.mul_one, Nat.add_zero]; exact rfl) | exact rfl)) ?_) | (refine HL_skip rfl rfl rfl ?_))
    all_goals first
      | (refine HL_r rfl rfl rfl rfl (R_load rfl (known_L (k := 0) rfl) rfl rfl) ?_)
      | (refine HL_skip rfl rfl rfl ?_)
    all_goals first
      | (refine HL_r rfl rfl rfl rfl (R_lenPl rfl hs rfl) ?_)
      | (refine HL_skip rfl rfl rfl ?_)
    all_goals first
      | (refine HL_r rfl rfl rfl rfl (R_move rfl) ?_)
      | (refine HL_skip rfl rfl rfl ?_)
    all_goals first
      | (refine HL_r rfl rfl rfl rfl (R_pure rfl rfl rfl) ?_)
      | (refine HL_skip rfl rfl rfl ?_)
    all_goals first
      | (refine HL_r rfl rfl rfl rfl (R_pickT rfl rfl) ?_)
      | (refine HL_r rfl rfl rfl rfl (R_pickF rfl rfl) ?_)
    all_goals refine HL_r rfl rfl rfl rfl (R_assign rfl) ?_
    all_goals refine HL_nil ?_
    all_goals (
      refine HQ_then ?_
      refine hK2 _ _ _ _ ?_; clear hK2 K2
      refine HC_ret ?_
      refine HQ_post rfl rfl (.cons (res_tmp rfl) .nil) (fun w1 hs1 => ?_)
      refine ⟨?_, hs1.keep⟩
      simp_all [resVal]
      all_goals first | done | rfl | omega | (rw [Bool.eq_iff_iff]; simp only [Bool.and_eq_true, Bool.or_eq_true, decide_eq_true_eq, beq_iff_eq]; omega) | (simp only [decide_eq_true_eq, decide_eq_false_iff_not]; omega)
      skip)
    skip)
def idxL : List Int → Int → Int → Int
  | [], _, _ => -1
  | y :: ys, x, j => if x = y then j else idxL ys x (j + 1)
def intsC (l : List Int) : List Value := l.map (Value.int .i64)
set_option maxRecDepth 10000 in
theorem S_Index {R : List (Nat × Obj)} {xs : List Int} {p : Pl} (x : Int) (hl : xs.length ≤ 9223372036854775807) (hs : Seg R xs.length (intsC xs) p) : PureR Tryd.prog 80 [plV xs.length p, .int .i64 x].toArray (.int .i64 (idxL xs x 0)) R := by
  refine pureR_of_HC Tryd.func80 rfl rfl fun w => ?_
  refine HC_seq fun K1 hK1 => ?_
  refine HC_region ?_
  all_goals refine HL_r rfl rfl rfl rfl (R_assign rfl) ?_
  all_goals refine HL_nil ?_
  all_goals (
    refine HQ_then ?_
    refine hK1 _ _ _ _ ?_; clear hK1 K1
    refine HC_seq fun K2 hK2 => ?_
    refine HC_seq fun K3 hK3 => ?_
    refine HC_region ?_
    all_goals refine HL_r rfl rfl rfl rfl (R_move rfl) ?_
    all_goals (refine HL_r rfl rfl rfl rfl (R_lenPl rfl hs rfl) ?_)
    all_goals refine HL_r rfl rfl rfl rfl (R_move rfl) ?_
    all_goals refine HL_nil ?_
    all_goals (
      refine HQ_then ?_
      refine hK3 _ _ _ _ ?_; clear hK3 K3
      refine HC_block ?_
      refine HC_loop (σ := Nat) (fun i => i ≤ xs.length ∧ idxL (xs.drop i) x (i : Int) = idxL xs x 0) (fun i => [(0, plV xs.length p), (1, .int .i64 x), (7, .int .i64 (xs.length : Int)), (8, .int .i64 (i : Int))]) (fun _ => []) (fun _ _ _ => True) (fun i => xs.length - i) 0 ⟨by omega, rfl⟩ (.cons rfl (.cons rfl (.cons rfl (.cons rfl .nil)))) (List.nil_sublist _) (fun _ _ h => h) ?_
      rintro i ⟨hi1, hinv⟩
      refine HC_seq fun K4 hK4 => ?_
      refine HC_region ?_
      all_goals refine HL_r rfl rfl rfl rfl (R_pure rfl rfl rfl) ?_
      all_goals refine HL_nil ?_
      all_goals (
        refine HQ_then ?_
        refine hK4 _ _ _ _ ?_; clear hK4 K4
        refine HC_seq fun K5 hK5 => ?_
        refine HC_cond rfl (fun h6 => ?_) (fun h6 => ?_)
        · try exact Bool.noConfusion h6
          all_goals try simp only [decide_eq_true_eq, decide_eq_false_iff_not, beq_iff_eq, beq_eq_false_iff_ne, bne_iff_ne, bne_eq_false_iff_eq, Bool.not_eq_true', Bool.not_eq_false', ne_eq, Int.not_lt, Int.not_le, ge_iff_le, gt_iff_lt] at h6
          all_goals (
            refine HC_skip ?_
            refine HQ_then ?_
            refine hK5 _ _ _ _ ?_; clear hK5 K5
            refine HC_seq fun K7 hK7 => ?_
            refine HC_block ?_
            refine HC_seq fun K8 hK8 => ?_
            refine HC_region ?_
            all_goals refine HL_r rfl rfl rfl rfl (R_move rfl) ?_
            all_goals refine HL_r rfl rfl rfl rfl (R_assign rfl) ?_
            all_goals refine HL_nil ?_
            all_goals (
              refine HQ_then ?_
              refine hK8 _ _ _ _ ?_; clear hK8 K8
              refine HC_seq fun K9 hK9 => ?_
              obtain ⟨y, hy, hmy⟩ := getI (show i < xs.length by omega)
              rw [dropI hy, idxL] at hinv
              refine HC_region ?_
              all_goals refine HL_r rfl rfl rfl rfl (R_move rfl) ?_
              all_goals refine HL_r rfl rfl rfl rfl (R_move rfl) ?_
              all_goals refine HL_r rfl rfl rfl rfl (R_move rfl) ?_
              all_goals refine HL_r rfl rfl rfl rfl (R_indexPl (j := i) rfl hs rfl rfl rfl rfl (by omega)) ?_
              all_goals refine HL_r rfl rfl rfl rfl (R_loadPl1 (v := .int .i64 y) (j := i) (fun q hq => Or.inr hq) rfl hs (by omega) rfl (by unfold intsC; rw [List.getElem?_map, hy]; rfl)) ?_
              all_goals refine HL_r rfl rfl rfl rfl (R_pure rfl rfl rfl) ?_
              all_goals refine HL_nil ?_
              all_goals (
                refine HQ_then ?_
                refine hK9 _ _ _ _ ?_; clear hK9 K9
                refine HC_cond rfl (fun h10 => ?_) (fun h10 => ?_)
                · try exact Bool.noConfusion h10
                  all_goals try simp only [decide_eq_true_eq, decide_eq_false_iff_not, beq_iff_eq, beq_eq_false_iff_ne, bne_iff_ne, bne_eq_false_iff_eq, Bool.not_eq_true', Bool.not_eq_false', ne_eq, Int.not_lt, Int.not_le, ge_iff_le, gt_iff_lt] at h10
                  all_goals (
                    refine HC_seq fun K11 hK11 => ?_
                    refine HC_region ?_
                    all_goals refine HL_r rfl rfl rfl rfl (R_move rfl) ?_
                    all_goals refine HL_r rfl rfl rfl rfl (R_assign rfl) ?_
                    all_goals refine HL_nil ?_
                    all_goals (
                      refine HQ_then ?_
                      refine hK11 _ _ _ _ ?_; clear hK11 K11
                      refine HC_ret ?_
                      refine HQ_blockR ?_
                      refine HQ_thenR ?_; clear hK7 K7
                      refine HQ_thenR ?_
                      refine HQ_blockR ?_
                      refine HQ_thenR ?_; clear hK2 K2
                      refine HQ_post rfl rfl (.cons (res_tmp rfl) .nil) (fun w1 hs1 => ?_)
                      refine ⟨?_, hs1.keep⟩
                      first
                        | (rw [← hinv, if_pos (by assumption)]; rfl)
                        | (rw [← hinv, List.drop_of_length_le (by omega), idxL]; rfl)
                      skip)
                    skip)
                · try exact Bool.noConfusion h10
                  all_goals try simp only [decide_eq_true_eq, decide_eq_false_iff_not, beq_iff_eq, beq_eq_false_iff_ne, bne_iff_ne, bne_eq_false_iff_eq, Bool.not_eq_true', Bool.not_eq_false', ne_eq, Int.not_lt, Int.not_le, ge_iff_le, gt_iff_lt] at h10
                  all_goals (
                    refine HC_skip ?_
                    refine HQ_blockN ?_
                    refine HQ_then ?_
                    refine hK7 _ _ _ _ ?_; clear hK7 K7
                    refine HC_region ?_
                    all_goals (refine HL_r rfl rfl rfl rfl (R_pure rfl rfl rfl) ?_; refine HL_wrap_i64 (by omega) (by omega) ?_)
                    all_goals refine HL_r rfl rfl rfl rfl (R_move rfl) ?_
                    all_goals refine HL_nil ?_
                    all_goals (
                      refine HQ_then ?_
                      exact HQ_again (i + 1) ⟨by omega, by rw [if_neg (by assumption)] at hinv; exact hinv⟩ (by omega) (.cons rfl (.cons rfl (.cons rfl (.cons rfl .nil)))) (List.nil_sublist _) (fun _ _ h => h)
                      skip)
                    skip)
                skip)
              skip)
            skip)
        · try exact Bool.noConfusion h6
          all_goals try simp only [decide_eq_true_eq, decide_eq_false_iff_not, beq_iff_eq, beq_eq_false_iff_ne, bne_iff_ne, bne_eq_false_iff_eq, Bool.not_eq_true', Bool.not_eq_false', ne_eq, Int.not_lt, Int.not_le, ge_iff_le, gt_iff_lt] at h6
          all_goals (
            refine HC_exit ?_
            refine HQ_thenE ?_; clear hK5 K5
            refine HQ_thenE ?_
            refine HQ_blockE ?_
            refine HQ_then ?_
            refine hK2 _ _ _ _ ?_; clear hK2 K2
            refine HC_seq fun K12 hK12 => ?_
            refine HC_region ?_
            all_goals refine HL_r rfl rfl rfl rfl (R_assign rfl) ?_
            all_goals refine HL_nil ?_
            all_goals (
              refine HQ_then ?_
              refine hK12 _ _ _ _ ?_; clear hK12 K12
              refine HC_ret ?_
              refine HQ_post rfl rfl (.cons (res_tmp rfl) .nil) (fun w1 hs1 => ?_)
              refine ⟨?_, hs1.keep⟩
              first
                | (rw [← hinv, if_pos (by assumption)]; rfl)
                | (rw [← hinv, List.drop_of_length_le (by omega), idxL]; rfl)
              skip)
            skip)
        skip)
      skip)
    skip)
set_option maxRecDepth 10000 in
theorem S_Contains {R : List (Nat × Obj)} {xs : List Int} {p : Pl} (x : Int) (hl : xs.length ≤ 9223372036854775807) (hs : Seg R xs.length (intsC xs) p) : PureR Tryd.prog 44 [plV xs.length p, .int .i64 x].toArray (.bool (decide (0 ≤ idxL xs x 0))) R := by
  have h := S_Index x hl hs
  refine pureR_of_HC Tryd.func44 rfl rfl fun w => ?_
  refine HC_seq fun K1 hK1 => ?_
  refine HC_region ?_
  all_goals refine HL_r rfl rfl rfl rfl (R_assign rfl) ?_
  all_goals refine HL_nil ?_
  all_goals (
    refine HQ_then ?_
    refine hK1 _ _ _ _ ?_; clear hK1 K1
    refine HC_seq fun K2 hK2 => ?_
    refine HC_region ?_
    all_goals refine HL_r rfl rfl rfl rfl (R_move rfl) ?_
    all_goals refine HL_r rfl rfl rfl rfl (R_move rfl) ?_
    all_goals refine HL_callR rfl rfl rfl (enters_of Tryd.func80 (by kernel_rfl) rfl) h (fun q hq => Or.inr hq) ?_
    all_goals refine HL_r rfl rfl rfl rfl (R_pure rfl rfl rfl) ?_
    all_goals refine HL_r rfl rfl rfl rfl (R_assign rfl) ?_
    all_goals refine HL_nil ?_
    all_goals (
      refine HQ_then ?_
      refine hK2 _ _ _ _ ?_; clear hK2 K2
      refine HC_ret ?_
      refine HQ_post rfl rfl (.cons (res_tmp rfl) .nil) (fun w1 hs1 => ?_)
      exact ⟨rfl, hs1.keep⟩
      skip)
    skip)
theorem idx5 (n : Int) : decide (0 ≤ idxL [1, 2, 4, 8, 32] n 0) = (decide (n = 1) || decide (n = 2) || decide (n = 4) || decide (n = 8) || decide (n = 32)) := by
  simp only [idxL]
  by_cases h1 : n = 1
  · simp [h1]
  by_cases h2 : n = 2
  · simp [h2]
  by_cases h4 : n = 4
  · simp [h4]
  by_cases h8 : n = 8
  · simp [h8]
  by_cases h32 : n = 32
  · simp [h32]
  simp [h1, h2, h4, h8, h32]
set_option maxRecDepth 10000 in
theorem F_1 {R : List (Nat × Obj)} {n : Int} {p : Pl} {ins : List Ty} (ht : Ty.In R (.mk 1 n p ins)) : PureR Tryd.prog 42 [Ty.val (.mk 1 n p ins)].toArray (.bool (okForm 1 n ins.length)) R := by
  have hno := S_none ht
  have hpl := S_plain ht
  have hro := S_row ht
  have hma := fun m => S_many ht m
  cases ht with
  | mk hk hn hl hs hi =>
  refine pureR_of_HC Tryd.func42 rfl rfl fun w => ?_
  refine HC_seq fun K1 hK1 => ?_
  refine HC_region ?_
  all_goals refine HL_box (cs := #[_, _, _]) rfl rfl rfl rfl fun r1 => ?_
  all_goals refine HL_r rfl rfl rfl rfl (R_assign rfl) ?_
  all_goals refine HL_nil ?_
  all_goals (
    refine HQ_then ?_
    refine hK1 _ _ _ _ ?_; clear hK1 K1
    refine HC_seq fun K2 hK2 => ?_
    refine HC_region ?_
    all_goals (refine HL_r rfl rfl rfl rfl (R_loadA (vs := [_, _, _]) rfl (known_L (k := 0) rfl) rfl rfl rfl rfl) ?_)
    all_goals refine HL_callR rfl rfl rfl (enters_of Tryd.func43 (by kernel_rfl) rfl) hno (fun q hq => Or.inr hq) ?_
    all_goals refine HL_r rfl rfl rfl rfl (R_move rfl) ?_
    all_goals (refine HL_case 5 rfl (fun hb3 => ?_) (fun hb3 => ?_) <;> (try simp only [decide_eq_true_eq, decide_eq_false_iff_not, beq_iff_eq, beq_eq_false_iff_ne, bne_iff_ne, bne_eq_false_iff_eq, Bool.not_eq_true', Bool.not_eq_false', ne_eq, Int.not_lt, Int.not_le, ge_iff_le, gt_iff_lt] at hb3) <;> first | (refine HL_buildSlice (vs := [_, _, _, _, _]) (zs := [_, _, _, _, _]) (r := [_, _, _, _, _]) rfl rfl rfl rfl rfl rfl rfl rfl rfl (by show (madeCells #[_] _).toList = _; rw [made_one]; exact rfl) rfl fun r2 => ?_) | (refine HL_skip rfl rfl rfl ?_))
    all_goals first
      | (refine HL_r rfl rfl rfl rfl (R_fieldAddr rfl rfl (by first | (simp only [Nat.zero_add, Nat.reduceAdd, Nat.reduceMul, Nat.zero_mul, Nat.mul_one, Nat.add_zero]; exact rfl) | exact rfl)) ?_)
      | (refine HL_skip rfl rfl rfl ?_)
    all_goals first
      | (refine HL_r rfl rfl rfl rfl (R_load rfl (known_L (k := 1) rfl) rfl rfl) ?_)
      | (refine HL_skip rfl rfl rfl ?_)
    all_goals first
      | (refine HL_callR rfl rfl rfl (enters_of Tryd.func44 (by kernel_rfl) rfl) (S_Contains (R := [(r2, _)]) (xs := [1, 2, 4, 8, 32]) (p := some (⟨r2, 0, none⟩, 5)) n (by decide) ⟨by decide, fun _ => ⟨rfl, _, _, _, List.mem_cons_self, rfl⟩⟩) (fun q hq => .inl (by rw [List.mem_singleton.1 hq]; exact List.mem_cons_self)) ?_; refine HL_as (congrArg Value.bool (idx5 n)) ?_)
      | (refine HL_skip rfl rfl rfl ?_)
    all_goals first
      | (refine HL_r rfl rfl rfl rfl (R_pickT rfl rfl) ?_)
      | (refine HL_r rfl rfl rfl rfl (R_pickF rfl rfl) ?_)
    all_goals refine HL_r rfl rfl rfl rfl (R_assign rfl) ?_
    all_goals refine HL_nil ?_
    all_goals (
      refine HQ_then ?_
      refine hK2 _ _ _ _ ?_; clear hK2 K2
      refine HC_ret ?_
      refine HQ_post rfl rfl (.cons (res_tmp rfl) .nil) (fun w1 hs1 => ?_)
      refine ⟨?_, hs1.keep⟩
      unfold okForm
      simp_all [resVal]
      all_goals first | done | rfl | omega | (rw [Bool.eq_iff_iff]; simp only [Bool.and_eq_true, Bool.or_eq_true, decide_eq_true_eq, beq_iff_eq]; omega) | (simp only [decide_eq_true_eq, decide_eq_false_iff_not]; omega)
      skip)
    skip)
set_option maxRecDepth 10000 in
theorem F_2 {R : List (Nat × Obj)} {n : Int} {p : Pl} {ins : List Ty} (ht : Ty.In R (.mk 2 n p ins)) : PureR Tryd.prog 49 [Ty.val (.mk 2 n p ins)].toArray (.bool (okForm 2 n ins.length)) R := by
  have hno := S_none ht
  have hpl := S_plain ht
  have hro := S_row ht
  have hma := fun m => S_many ht m
  cases ht with
  | mk hk hn hl hs hi =>
  refine pureR_of_HC Tryd.func49 rfl rfl fun w => ?_
  refine HC_seq fun K1 hK1 => ?_
  refine HC_region ?_
  all_goals refine HL_box (cs := #[_, _, _]) rfl rfl rfl rfl fun r1 => ?_
  all_goals refine HL_r rfl rfl rfl rfl (R_assign rfl) ?_
  all_goals refine HL_nil ?_
  all_goals (
    refine HQ_then ?_
    refine hK1 _ _ _ _ ?_; clear hK1 K1
    refine HC_seq fun K2 hK2 => ?_
    refine HC_region ?_
    all_goals refine HL_r rfl rfl rfl rfl (R_loadA (vs := [_, _, _]) rfl (known_L (k := 0) rfl) rfl rfl rfl rfl) ?_
    all_goals refine HL_callR rfl rfl rfl (enters_of Tryd.func43 (by kernel_rfl) rfl) hno (fun q hq => Or.inr hq) ?_
    all_goals refine HL_r rfl rfl rfl rfl (R_move rfl) ?_
    all_goals (refine HL_case 5 rfl (fun hb3 => ?_) (fun hb3 => ?_) <;> (try simp only [decide_eq_true_eq, decide_eq_false_iff_not, beq_iff_eq, beq_eq_false_iff_ne, bne_iff_ne, bne_eq_false_iff_eq, Bool.not_eq_true', Bool.not_eq_false', ne_eq, Int.not_lt, Int.not_le, ge_iff_le, gt_iff_lt] at hb3) <;> first | (refine HL_r rfl rfl rfl rfl (R_loadA (vs := [_, _, _]) rfl (known_L (k := 0) rfl) rfl rfl rfl rfl) ?_) | (refine HL_skip rfl rfl rfl ?_))
    all_goals first
      | (refine HL_callR rfl rfl rfl (enters_of Tryd.func50 (by kernel_rfl) rfl) hpl (fun q hq => Or.inr hq) ?_)
      | (refine HL_skip rfl rfl rfl ?_)
    all_goals first
      | (refine HL_r rfl rfl rfl rfl (R_pickT rfl rfl) ?_)
      | (refine HL_r rfl rfl rfl rfl (R_pickF rfl rfl) ?_)
    all_goals refine HL_r rfl rfl rfl rfl (R_assign rfl) ?_
    all_goals refine HL_nil ?_
    all_goals (
      refine HQ_then ?_
      refine hK2 _ _ _ _ ?_; clear hK2 K2
      refine HC_ret ?_
      refine HQ_post rfl rfl (.cons (res_tmp rfl) .nil) (fun w1 hs1 => ?_)
      refine ⟨?_, hs1.keep⟩
      unfold okForm
      simp_all [resVal]
      all_goals first | done | rfl | omega | (rw [Bool.eq_iff_iff]; simp only [Bool.and_eq_true, Bool.or_eq_true, decide_eq_true_eq, beq_iff_eq]; omega) | (simp only [decide_eq_true_eq, decide_eq_false_iff_not]; omega)
      skip)
    skip)
set_option maxRecDepth 10000 in
theorem F_3 {R : List (Nat × Obj)} {n : Int} {p : Pl} {ins : List Ty} (ht : Ty.In R (.mk 3 n p ins)) : PureR Tryd.prog 55 [Ty.val (.mk 3 n p ins)].toArray (.bool (okForm 3 n ins.length)) R := by
  have hno := S_none ht
  have hpl := S_plain ht
  have hro := S_row ht
  have hma := fun m => S_many ht m
  cases ht with
  | mk hk hn hl hs hi =>
  refine pureR_of_HC Tryd.func55 rfl rfl fun w => ?_
  refine HC_seq fun K1 hK1 => ?_
  refine HC_region ?_
  all_goals refine HL_box (cs := #[_, _, _]) rfl rfl rfl rfl fun r1 => ?_
  all_goals refine HL_r rfl rfl rfl rfl (R_assign rfl) ?_
  all_goals refine HL_nil ?_
  all_goals (
    refine HQ_then ?_
    refine hK1 _ _ _ _ ?_; clear hK1 K1
    refine HC_seq fun K2 hK2 => ?_
    refine HC_region ?_
    all_goals refine HL_r rfl rfl rfl rfl (R_loadA (vs := [_, _, _]) rfl (known_L (k := 0) rfl) rfl rfl rfl rfl) ?_
    all_goals refine HL_callR rfl rfl rfl (enters_of Tryd.func56 (by kernel_rfl) rfl) (hma 1) (fun q hq => Or.inr hq) ?_
    all_goals refine HL_r rfl rfl rfl rfl (R_move rfl) ?_
    all_goals (refine HL_case 5 rfl (fun hb3 => ?_) (fun hb3 => ?_) <;> (try simp only [decide_eq_true_eq, decide_eq_false_iff_not, beq_iff_eq, beq_eq_false_iff_ne, bne_iff_ne, bne_eq_false_iff_eq, Bool.not_eq_true', Bool.not_eq_false', ne_eq, Int.not_lt, Int.not_le, ge_iff_le, gt_iff_lt] at hb3) <;> first | (refine HL_r rfl rfl rfl rfl (R_loadA (vs := [_, _, _]) rfl (known_L (k := 0) rfl) rfl rfl rfl rfl) ?_) | (refine HL_skip rfl rfl rfl ?_))
    all_goals first
      | (refine HL_callR rfl rfl rfl (enters_of Tryd.func57 (by kernel_rfl) rfl) hro (fun q hq => Or.inr hq) ?_)
      | (refine HL_skip rfl rfl rfl ?_)
    all_goals first
      | (refine HL_r rfl rfl rfl rfl (R_pickT rfl rfl) ?_)
      | (refine HL_r rfl rfl rfl rfl (R_pickF rfl rfl) ?_)
    all_goals refine HL_r rfl rfl rfl rfl (R_assign rfl) ?_
    all_goals refine HL_nil ?_
    all_goals (
      refine HQ_then ?_
      refine hK2 _ _ _ _ ?_; clear hK2 K2
      refine HC_ret ?_
      refine HQ_post rfl rfl (.cons (res_tmp rfl) .nil) (fun w1 hs1 => ?_)
      refine ⟨?_, hs1.keep⟩
      unfold okForm
      simp_all [resVal]
      all_goals first | done | rfl | omega | (rw [Bool.eq_iff_iff]; simp only [Bool.and_eq_true, Bool.or_eq_true, decide_eq_true_eq, beq_iff_eq]; omega) | (simp only [decide_eq_true_eq, decide_eq_false_iff_not]; omega)
      skip)
    skip)
set_option maxRecDepth 10000 in
theorem F_4 {R : List (Nat × Obj)} {n : Int} {p : Pl} {ins : List Ty} (ht : Ty.In R (.mk 4 n p ins)) : PureR Tryd.prog 62 [Ty.val (.mk 4 n p ins)].toArray (.bool (okForm 4 n ins.length)) R := by
  have hno := S_none ht
  have hpl := S_plain ht
  have hro := S_row ht
  have hma := fun m => S_many ht m
  cases ht with
  | mk hk hn hl hs hi =>
  refine pureR_of_HC Tryd.func62 rfl rfl fun w => ?_
  refine HC_seq fun K1 hK1 => ?_
  refine HC_region ?_
  all_goals refine HL_box (cs := #[_, _, _]) rfl rfl rfl rfl fun r1 => ?_
  all_goals refine HL_r rfl rfl rfl rfl (R_assign rfl) ?_
  all_goals refine HL_nil ?_
  all_goals (
    refine HQ_then ?_
    refine hK1 _ _ _ _ ?_; clear hK1 K1
    refine HC_seq fun K2 hK2 => ?_
    refine HC_region ?_
    all_goals refine HL_r rfl rfl rfl rfl (R_loadA (vs := [_, _, _]) rfl (known_L (k := 0) rfl) rfl rfl rfl rfl) ?_
    all_goals refine HL_callR rfl rfl rfl (enters_of Tryd.func56 (by kernel_rfl) rfl) (hma 1) (fun q hq => Or.inr hq) ?_
    all_goals refine HL_r rfl rfl rfl rfl (R_move rfl) ?_
    all_goals (refine HL_case 5 rfl (fun hb3 => ?_) (fun hb3 => ?_) <;> (try simp only [decide_eq_true_eq, decide_eq_false_iff_not, beq_iff_eq, beq_eq_false_iff_ne, bne_iff_ne, bne_eq_false_iff_eq, Bool.not_eq_true', Bool.not_eq_false', ne_eq, Int.not_lt, Int.not_le, ge_iff_le, gt_iff_lt] at hb3) <;> first | (refine HL_r rfl rfl rfl rfl (R_loadA (vs := [_, _, _]) rfl (known_L (k := 0) rfl) rfl rfl rfl rfl) ?_) | (refine HL_skip rfl rfl rfl ?_))
    all_goals first
      | (refine HL_callR rfl rfl rfl (enters_of Tryd.func57 (by kernel_rfl) rfl) hro (fun q hq => Or.inr hq) ?_)
      | (refine HL_skip rfl rfl rfl ?_)
    all_goals first
      | (refine HL_r rfl rfl rfl rfl (R_pickT rfl rfl) ?_)
      | (refine HL_r rfl rfl rfl rfl (R_pickF rfl rfl) ?_)
    all_goals refine HL_r rfl rfl rfl rfl (R_assign rfl) ?_
    all_goals refine HL_nil ?_
    all_goals (
      refine HQ_then ?_
      refine hK2 _ _ _ _ ?_; clear hK2 K2
      refine HC_ret ?_
      refine HQ_post rfl rfl (.cons (res_tmp rfl) .nil) (fun w1 hs1 => ?_)
      refine ⟨?_, hs1.keep⟩
      unfold okForm
      simp_all [resVal]
      all_goals first | done | rfl | omega | (rw [Bool.eq_iff_iff]; simp only [Bool.and_eq_true, Bool.or_eq_true, decide_eq_true_eq, beq_iff_eq]; omega) | (simp only [decide_eq_true_eq, decide_eq_false_iff_not]; omega)
      skip)
    skip)
set_option maxRecDepth 10000 in
theorem F_5 {R : List (Nat × Obj)} {n : Int} {p : Pl} {ins : List Ty} (ht : Ty.In R (.mk 5 n p ins)) : PureR Tryd.prog 64 [Ty.val (.mk 5 n p ins)].toArray (.bool (okForm 5 n ins.length)) R := by
  have hno := S_none ht
  have hpl := S_plain ht
  have hro := S_row ht
  have hma := fun m => S_many ht m
  cases ht with
  | mk hk hn hl hs hi =>
  refine pureR_of_HC Tryd.func64 rfl rfl fun w => ?_
  refine HC_seq fun K1 hK1 => ?_
  refine HC_region ?_
  all_goals refine HL_box (cs := #[_, _, _]) rfl rfl rfl rfl fun r1 => ?_
  all_goals refine HL_r rfl rfl rfl rfl (R_assign rfl) ?_
  all_goals refine HL_nil ?_
  all_goals (
    refine HQ_then ?_
    refine hK1 _ _ _ _ ?_; clear hK1 K1
    refine HC_seq fun K2 hK2 => ?_
    refine HC_region ?_
    all_goals refine HL_r rfl rfl rfl rfl (R_loadA (vs := [_, _, _]) rfl (known_L (k := 0) rfl) rfl rfl rfl rfl) ?_
    all_goals refine HL_callR rfl rfl rfl (enters_of Tryd.func43 (by kernel_rfl) rfl) hno (fun q hq => Or.inr hq) ?_
    all_goals refine HL_r rfl rfl rfl rfl (R_move rfl) ?_
    all_goals (refine HL_case 5 rfl (fun hb3 => ?_) (fun hb3 => ?_) <;> (try simp only [decide_eq_true_eq, decide_eq_false_iff_not, beq_iff_eq, beq_eq_false_iff_ne, bne_iff_ne, bne_eq_false_iff_eq, Bool.not_eq_true', Bool.not_eq_false', ne_eq, Int.not_lt, Int.not_le, ge_iff_le, gt_iff_lt] at hb3) <;> first | (refine HL_r rfl rfl rfl rfl (R_loadA (vs := [_, _, _]) rfl (known_L (k := 0) rfl) rfl rfl rfl rfl) ?_) | (refine HL_skip rfl rfl rfl ?_))
    all_goals first
      | (refine HL_callR rfl rfl rfl (enters_of Tryd.func57 (by kernel_rfl) rfl) hro (fun q hq => Or.inr hq) ?_)
      | (refine HL_skip rfl rfl rfl ?_)
    all_goals first
      | (refine HL_r rfl rfl rfl rfl (R_pickT rfl rfl) ?_)
      | (refine HL_r rfl rfl rfl rfl (R_pickF rfl rfl) ?_)
    all_goals refine HL_r rfl rfl rfl rfl (R_assign rfl) ?_
    all_goals refine HL_nil ?_
    all_goals (
      refine HQ_then ?_
      refine hK2 _ _ _ _ ?_; clear hK2 K2
      refine HC_ret ?_
      refine HQ_post rfl rfl (.cons (res_tmp rfl) .nil) (fun w1 hs1 => ?_)
      refine ⟨?_, hs1.keep⟩
      unfold okForm
      simp_all [resVal]
      all_goals first | done | rfl | omega | (rw [Bool.eq_iff_iff]; simp only [Bool.and_eq_true, Bool.or_eq_true, decide_eq_true_eq, beq_iff_eq]; omega) | (simp only [decide_eq_true_eq, decide_eq_false_iff_not]; omega)
      skip)
    skip)
set_option maxRecDepth 10000 in
theorem F_6 {R : List (Nat × Obj)} {n : Int} {p : Pl} {ins : List Ty} (ht : Ty.In R (.mk 6 n p ins)) : PureR Tryd.prog 68 [Ty.val (.mk 6 n p ins)].toArray (.bool (okForm 6 n ins.length)) R := by
  have hno := S_none ht
  have hpl := S_plain ht
  have hro := S_row ht
  have hma := fun m => S_many ht m
  cases ht with
  | mk hk hn hl hs hi =>
  refine pureR_of_HC Tryd.func68 rfl rfl fun w => ?_
  refine HC_seq fun K1 hK1 => ?_
  refine HC_region ?_
  all_goals refine HL_box (cs := #[_, _, _]) rfl rfl rfl rfl fun r1 => ?_
  all_goals refine HL_r rfl rfl rfl rfl (R_assign rfl) ?_
  all_goals refine HL_nil ?_
  all_goals (
    refine HQ_then ?_
    refine hK1 _ _ _ _ ?_; clear hK1 K1
    refine HC_seq fun K2 hK2 => ?_
    refine HC_region ?_
    all_goals refine HL_r rfl rfl rfl rfl (R_loadA (vs := [_, _, _]) rfl (known_L (k := 0) rfl) rfl rfl rfl rfl) ?_
    all_goals refine HL_callR rfl rfl rfl (enters_of Tryd.func43 (by kernel_rfl) rfl) hno (fun q hq => Or.inr hq) ?_
    all_goals refine HL_r rfl rfl rfl rfl (R_move rfl) ?_
    all_goals (refine HL_case 5 rfl (fun hb3 => ?_) (fun hb3 => ?_) <;> (try simp only [decide_eq_true_eq, decide_eq_false_iff_not, beq_iff_eq, beq_eq_false_iff_ne, bne_iff_ne, bne_eq_false_iff_eq, Bool.not_eq_true', Bool.not_eq_false', ne_eq, Int.not_lt, Int.not_le, ge_iff_le, gt_iff_lt] at hb3) <;> first | (refine HL_r rfl rfl rfl rfl (R_loadA (vs := [_, _, _]) rfl (known_L (k := 0) rfl) rfl rfl rfl rfl) ?_) | (refine HL_skip rfl rfl rfl ?_))
    all_goals first
      | (refine HL_callR rfl rfl rfl (enters_of Tryd.func57 (by kernel_rfl) rfl) hro (fun q hq => Or.inr hq) ?_)
      | (refine HL_skip rfl rfl rfl ?_)
    all_goals first
      | (refine HL_r rfl rfl rfl rfl (R_pickT rfl rfl) ?_)
      | (refine HL_r rfl rfl rfl rfl (R_pickF rfl rfl) ?_)
    all_goals refine HL_r rfl rfl rfl rfl (R_assign rfl) ?_
    all_goals refine HL_nil ?_
    all_goals (
      refine HQ_then ?_
      refine hK2 _ _ _ _ ?_; clear hK2 K2
      refine HC_ret ?_
      refine HQ_post rfl rfl (.cons (res_tmp rfl) .nil) (fun w1 hs1 => ?_)
      refine ⟨?_, hs1.keep⟩
      unfold okForm
      simp_all [resVal]
      all_goals first | done | rfl | omega | (rw [Bool.eq_iff_iff]; simp only [Bool.and_eq_true, Bool.or_eq_true, decide_eq_true_eq, beq_iff_eq]; omega) | (simp only [decide_eq_true_eq, decide_eq_false_iff_not]; omega)
      skip)
    skip)
set_option maxRecDepth 10000 in
theorem F_7 {R : List (Nat × Obj)} {n : Int} {p : Pl} {ins : List Ty} (ht : Ty.In R (.mk 7 n p ins)) : PureR Tryd.prog 70 [Ty.val (.mk 7 n p ins)].toArray (.bool (okForm 7 n ins.length)) R := by
  have hno := S_none ht
  have hpl := S_plain ht
  have hro := S_row ht
  have hma := fun m => S_many ht m
  cases ht with
  | mk hk hn hl hs hi =>
  refine pureR_of_HC Tryd.func70 rfl rfl fun w => ?_
  refine HC_seq fun K1 hK1 => ?_
  refine HC_region ?_
  all_goals refine HL_box (cs := #[_, _, _]) rfl rfl rfl rfl fun r1 => ?_
  all_goals refine HL_r rfl rfl rfl rfl (R_assign rfl) ?_
  all_goals refine HL_nil ?_
  all_goals (
    refine HQ_then ?_
    refine hK1 _ _ _ _ ?_; clear hK1 K1
    refine HC_seq fun K2 hK2 => ?_
    refine HC_region ?_
    all_goals refine HL_r rfl rfl rfl rfl (R_loadA (vs := [_, _, _]) rfl (known_L (k := 0) rfl) rfl rfl rfl rfl) ?_
    all_goals refine HL_callR rfl rfl rfl (enters_of Tryd.func56 (by kernel_rfl) rfl) (hma 16) (fun q hq => Or.inr hq) ?_
    all_goals refine HL_r rfl rfl rfl rfl (R_move rfl) ?_
    all_goals (refine HL_case 5 rfl (fun hb3 => ?_) (fun hb3 => ?_) <;> (try simp only [decide_eq_true_eq, decide_eq_false_iff_not, beq_iff_eq, beq_eq_false_iff_ne, bne_iff_ne, bne_eq_false_iff_eq, Bool.not_eq_true', Bool.not_eq_false', ne_eq, Int.not_lt, Int.not_le, ge_iff_le, gt_iff_lt] at hb3) <;> first | (refine HL_r rfl rfl rfl rfl (R_loadA (vs := [_, _, _]) rfl (known_L (k := 0) rfl) rfl rfl rfl rfl) ?_) | (refine HL_skip rfl rfl rfl ?_))
    all_goals first
      | (refine HL_callR rfl rfl rfl (enters_of Tryd.func50 (by kernel_rfl) rfl) hpl (fun q hq => Or.inr hq) ?_)
      | (refine HL_skip rfl rfl rfl ?_)
    all_goals first
      | (refine HL_r rfl rfl rfl rfl (R_pickT rfl rfl) ?_)
      | (refine HL_r rfl rfl rfl rfl (R_pickF rfl rfl) ?_)
    all_goals refine HL_r rfl rfl rfl rfl (R_assign rfl) ?_
    all_goals refine HL_nil ?_
    all_goals (
      refine HQ_then ?_
      refine hK2 _ _ _ _ ?_; clear hK2 K2
      refine HC_ret ?_
      refine HQ_post rfl rfl (.cons (res_tmp rfl) .nil) (fun w1 hs1 => ?_)
      refine ⟨?_, hs1.keep⟩
      unfold okForm
      simp_all [resVal]
      all_goals first | done | rfl | omega | (rw [Bool.eq_iff_iff]; simp only [Bool.and_eq_true, Bool.or_eq_true, decide_eq_true_eq, beq_iff_eq]; omega) | (simp only [decide_eq_true_eq, decide_eq_false_iff_not]; omega)
      skip)
    skip)
set_option maxRecDepth 10000 in
theorem F_8 {R : List (Nat × Obj)} {n : Int} {p : Pl} {ins : List Ty} (ht : Ty.In R (.mk 8 n p ins)) : PureR Tryd.prog 73 [Ty.val (.mk 8 n p ins)].toArray (.bool (okForm 8 n ins.length)) R := by
  have hno := S_none ht
  have hpl := S_plain ht
  have hro := S_row ht
  have hma := fun m => S_many ht m
  cases ht with
  | mk hk hn hl hs hi =>
  refine pureR_of_HC Tryd.func73 rfl rfl fun w => ?_
  refine HC_seq fun K1 hK1 => ?_
  refine HC_region ?_
  all_goals refine HL_box (cs := #[_, _, _]) rfl rfl rfl rfl fun r1 => ?_
  all_goals refine HL_r rfl rfl rfl rfl (R_assign rfl) ?_
  all_goals refine HL_nil ?_
  all_goals (
    refine HQ_then ?_
    refine hK1 _ _ _ _ ?_; clear hK1 K1
    refine HC_seq fun K2 hK2 => ?_
    refine HC_region ?_
    all_goals refine HL_r rfl rfl rfl rfl (R_loadA (vs := [_, _, _]) rfl (known_L (k := 0) rfl) rfl rfl rfl rfl) ?_
    all_goals refine HL_callR rfl rfl rfl (enters_of Tryd.func56 (by kernel_rfl) rfl) (hma 8) (fun q hq => Or.inr hq) ?_
    all_goals refine HL_r rfl rfl rfl rfl (R_move rfl) ?_
    all_goals (refine HL_case 5 rfl (fun hb3 => ?_) (fun hb3 => ?_) <;> (try simp only [decide_eq_true_eq, decide_eq_false_iff_not, beq_iff_eq, beq_eq_false_iff_ne, bne_iff_ne, bne_eq_false_iff_eq, Bool.not_eq_true', Bool.not_eq_false', ne_eq, Int.not_lt, Int.not_le, ge_iff_le, gt_iff_lt] at hb3) <;> first | (refine HL_r rfl rfl rfl rfl (R_loadA (vs := [_, _, _]) rfl (known_L (k := 0) rfl) rfl rfl rfl rfl) ?_) | (refine HL_skip rfl rfl rfl ?_))
    all_goals first
      | (refine HL_callR rfl rfl rfl (enters_of Tryd.func50 (by kernel_rfl) rfl) hpl (fun q hq => Or.inr hq) ?_)
      | (refine HL_skip rfl rfl rfl ?_)
    all_goals first
      | (refine HL_r rfl rfl rfl rfl (R_pickT rfl rfl) ?_)
      | (refine HL_r rfl rfl rfl rfl (R_pickF rfl rfl) ?_)
    all_goals refine HL_r rfl rfl rfl rfl (R_assign rfl) ?_
    all_goals refine HL_nil ?_
    all_goals (
      refine HQ_then ?_
      refine hK2 _ _ _ _ ?_; clear hK2 K2
      refine HC_ret ?_
      refine HQ_post rfl rfl (.cons (res_tmp rfl) .nil) (fun w1 hs1 => ?_)
      refine ⟨?_, hs1.keep⟩
      unfold okForm
      simp_all [resVal]
      all_goals first | done | rfl | omega | (rw [Bool.eq_iff_iff]; simp only [Bool.and_eq_true, Bool.or_eq_true, decide_eq_true_eq, beq_iff_eq]; omega) | (simp only [decide_eq_true_eq, decide_eq_false_iff_not]; omega)
      skip)
    skip)
theorem isK_iff {k : Int} : isK k = true ↔ 1 ≤ k ∧ k ≤ 8 := by unfold isK; simp
theorem F_all {R : List (Nat × Obj)} {k n : Int} {p : Pl} {ins : List Ty} (ht : Ty.In R (.mk k n p ins)) (h : isK k = true) : Enters Tryd.prog (formF k) ∧ PureR Tryd.prog (formF k) [Ty.val (.mk k n p ins)].toArray (.bool (okForm k n ins.length)) R := by
  have := isK_iff.1 h
  have : k = 1 ∨ k = 2 ∨ k = 3 ∨ k = 4 ∨ k = 5 ∨ k = 6 ∨ k = 7 ∨ k = 8 := by omega
  rcases this with rfl | rfl | rfl | rfl | rfl | rfl | rfl | rfl
  · exact ⟨enters_of Tryd.func42 (by kernel_rfl) rfl, F_1 ht⟩
  · exact ⟨enters_of Tryd.func49 (by kernel_rfl) rfl, F_2 ht⟩
  · exact ⟨enters_of Tryd.func55 (by kernel_rfl) rfl, F_3 ht⟩
  · exact ⟨enters_of Tryd.func62 (by kernel_rfl) rfl, F_4 ht⟩
  · exact ⟨enters_of Tryd.func64 (by kernel_rfl) rfl, F_5 ht⟩
  · exact ⟨enters_of Tryd.func68 (by kernel_rfl) rfl, F_6 ht⟩
  · exact ⟨enters_of Tryd.func70 (by kernel_rfl) rfl, F_7 ht⟩
  · exact ⟨enters_of Tryd.func73 (by kernel_rfl) rfl, F_8 ht⟩
end Go.Proofs.YtdadaddakcidjaaDoor
