import Derived.Test.YtiamhecfkcgldaaLj
namespace Go.Proofs.Ytiamhecfkcgldaa
set_option linter.all false
open Go.SL Go.RowKit Go.Shelf
theorem vl_ok {f k : Int} {j : Nat} (h : j < (vl f k).length) : okR f k ((vl f k).getD j 0) = true := by
  have : (vl f k).getD j 0 ∈ vl f k := by simp [List.getD_eq_getElem?_getD, h]
  exact (List.mem_filter.1 this).2
theorem vl_asc {f k : Int} {i j : Nat} (hij : i < j) (h : j < (vl f k).length) : (vl f k).getD i 0 < (vl f k).getD j 0 := by
  have hp : (vl f k).Pairwise (fun x y => x < y) := (base_sorted k).filter (okR f k)
  rw [List.pairwise_iff_getElem] at hp
  have := hp i j (Nat.lt_trans hij h) h hij
  simpa [List.getD_eq_getElem?_getD, h, Nat.lt_trans hij h] using this
def inB (f k : Int) : Bool := decide (f ≥ 0) && decide (f ≤ 5) && decide (k ≥ 1) && decide (k ≤ 5)
theorem okR_iff {f k v : Int} : okR f k v = true ↔ okI k v = true ∧ loI k v ≤ f ∧ f ≤ hiI k v := by
  cases h : okI k v with
  | true => rw [okR_ok h]; simp
  | false => rw [okR_no h]; simp
theorem vl_mem {f k v : Int} (hb : v ∈ baseL k) (h1 : okI k v = true) (h2 : loI k v ≤ f) (h3 : f ≤ hiI k v) : 0 < (vl f k).length :=
  List.length_pos_of_mem (List.mem_filter.2 ⟨hb, okR_iff.2 ⟨h1, h2, h3⟩⟩)
theorem vl_pos (f k : Int) : decide (((vl f k).length : Int) > 0) = inB f k := by
  rw [Bool.eq_iff_iff]
  simp only [decide_eq_true_eq, inB, Bool.and_eq_true]
  constructor
  · intro h
    obtain ⟨v, hv⟩ := List.exists_mem_of_length_pos (by omega : 0 < (vl f k).length)
    obtain ⟨h1, h2, h3⟩ := okR_iff.1 (List.mem_filter.1 hv).2
    obtain ⟨g1, g2, g3, g4, g5⟩ := span_ok h1
    exact ⟨⟨⟨by omega, by omega⟩, g4⟩, g5⟩
  · rintro ⟨⟨⟨h1, h2⟩, h3⟩, h4⟩
    suffices 0 < (vl f k).length by omega
    have hk : k = 1 ∨ k = 2 ∨ k = 3 ∨ k = 4 ∨ k = 5 := by omega
    have hf : f = 0 ∨ f = 1 ∨ f = 2 ∨ f = 3 ∨ f = 4 ∨ f = 5 := by omega
    rcases hk with rfl | rfl | rfl | rfl | rfl <;> rcases hf with rfl | rfl | rfl | rfl | rfl | rfl <;> decide
theorem code_in (f k : Int) : (codeI (vl f k) == 0) = inB f k := by
  rw [← vl_pos]
  unfold codeI
  by_cases h : vl f k = []
  · rw [if_pos h, h]; rfl
  · rw [if_neg h]
    have := List.length_pos_iff.2 h
    have h2 : (((vl f k).length : Int) > 0) := by omega
    rw [decide_eq_true h2]; rfl
theorem vl_pos' {f k : Int} (h : inB f k = true) : 0 < (vl f k).length := by
  rw [← vl_pos] at h
  simpa using h
set_option maxRecDepth 10000 in
theorem P_LegalEach (f k : Int) : Pure Try.prog 5 [.int .i64 f, .int .i64 k].toArray (.bool true) := by
  refine pure_of_HC Try.func5 rfl rfl fun w => ?_
  have hn5 := vl_len f k
  refine HC_seq fun K1 hK1 => ?_
  refine HC_region ?_
  all_goals refine HL_r rfl rfl rfl rfl (R_assign rfl) ?_
  all_goals refine HL_nil ?_
  all_goals (
    refine HQ_then ?_
    refine hK1 _ _ _ _ ?_; clear hK1 K1
    refine HC_seq fun K2 hK2 => ?_
    refine HC_region ?_
    all_goals refine HL_callP rfl rfl rfl (enters_of Try.func7 (by kernel_rfl) rfl) P_works ?_
    all_goals refine HL_r rfl rfl rfl rfl (R_assign rfl) ?_
    all_goals refine HL_nil ?_
    all_goals (
      refine HQ_then ?_
      refine hK2 _ _ _ _ ?_; clear hK2 K2
      refine HC_seq fun K3 hK3 => ?_
      refine HC_seq fun K4 hK4 => ?_
      refine HC_region ?_
      all_goals refine HL_r rfl rfl rfl rfl (R_move rfl) ?_
      all_goals refine HL_r rfl rfl rfl rfl (R_pure rfl rfl rfl) ?_
      all_goals refine HL_nil ?_
      all_goals (
        refine HQ_then ?_
        refine hK4 _ _ _ _ ?_; clear hK4 K4
        refine HC_cond rfl (fun h5 => ?_) (fun h5 => ?_)
        · try exact Bool.noConfusion h5
          all_goals try simp only [decide_eq_true_eq, decide_eq_false_iff_not, beq_iff_eq, beq_eq_false_iff_ne, bne_iff_ne, bne_eq_false_iff_eq, Bool.not_eq_true', Bool.not_eq_false', ne_eq, Int.not_lt, Int.not_le, ge_iff_le, gt_iff_lt] at h5
          all_goals (
            refine HC_seq fun K6 hK6 => ?_
            refine HC_region ?_
            all_goals refine HL_r rfl rfl rfl rfl (R_assign rfl) ?_
            all_goals refine HL_nil ?_
            all_goals (
              refine HQ_then ?_
              refine hK6 _ _ _ _ ?_; clear hK6 K6
              refine HC_ret ?_
              refine HQ_thenR ?_; clear hK3 K3
              refine HQ_post rfl rfl (.cons (res_tmp rfl) .nil) (fun w1 hs1 => ?_)
              exact ⟨rfl, hs1.keep⟩
              skip)
            skip)
        · try exact Bool.noConfusion h5
          all_goals try simp only [decide_eq_true_eq, decide_eq_false_iff_not, beq_iff_eq, beq_eq_false_iff_ne, bne_iff_ne, bne_eq_false_iff_eq, Bool.not_eq_true', Bool.not_eq_false', ne_eq, Int.not_lt, Int.not_le, ge_iff_le, gt_iff_lt] at h5
          all_goals (
            refine HC_skip ?_
            refine HQ_then ?_
            refine hK3 _ _ _ _ ?_; clear hK3 K3
            refine HC_seq fun K7 hK7 => ?_
            refine HC_region ?_
            all_goals refine HL_r rfl rfl rfl rfl (R_move rfl) ?_
            all_goals refine HL_r rfl rfl rfl rfl (R_move rfl) ?_
            all_goals refine HL_callPE rfl rfl rfl (enters_of Try.func12 (by kernel_rfl) rfl) (E_leg f k) fun x1 => ?_
            all_goals obtain ⟨row1, hrow⟩ := x1
            all_goals change HL _ _ ((_, rowV (vl f k).length row1) :: _) (rowL 3 ((vl f k).map (Value.int .i64)) row1 ++ []) _ _ _ _
            all_goals refine HL_r rfl rfl rfl rfl (R_assign rfl) ?_
            all_goals refine HL_nil ?_
            all_goals (
              refine HQ_then ?_
              refine hK7 _ _ _ _ ?_; clear hK7 K7
              refine HC_seq fun K8 hK8 => ?_
              refine HC_region ?_
              all_goals refine HL_r rfl rfl rfl rfl (R_move rfl) ?_
              all_goals refine HL_r rfl rfl rfl rfl (R_move rfl) ?_
              all_goals refine HL_callP rfl rfl rfl (enters_of Try.func14 (by kernel_rfl) rfl) (Q_lat ..) ?_
              all_goals refine HL_r rfl rfl rfl rfl (R_move rfl) ?_
              all_goals refine HL_r rfl rfl rfl rfl (R_extract rfl rfl) ?_
              all_goals refine HL_r rfl rfl rfl rfl (R_extract rfl rfl) ?_
              all_goals refine HL_r rfl rfl rfl rfl (R_assign rfl) ?_
              all_goals refine HL_r rfl rfl rfl rfl (R_assign rfl) ?_
              all_goals refine HL_nil ?_
              all_goals (
                refine HQ_then ?_
                refine hK8 _ _ _ _ ?_; clear hK8 K8
                refine HC_seq fun K9 hK9 => ?_
                refine HC_region ?_
                all_goals refine HL_r rfl rfl rfl rfl (R_move rfl) ?_
                all_goals refine HL_r rfl rfl rfl rfl (R_pure rfl rfl rfl) ?_
                all_goals refine HL_r rfl rfl rfl rfl (R_move rfl) ?_
                all_goals first
                  | (refine HL_r rfl rfl rfl rfl (R_move rfl) ?_)
                  | (refine HL_skip rfl rfl rfl ?_)
                  | (refine HL_case 25 rfl (fun hb10 => ?_) (fun hb10 => ?_) <;> (try simp only [decide_eq_true_eq, decide_eq_false_iff_not, beq_iff_eq, beq_eq_false_iff_ne, bne_iff_ne, bne_eq_false_iff_eq, Bool.not_eq_true', Bool.not_eq_false', ne_eq, Int.not_lt, Int.not_le, ge_iff_le, gt_iff_lt] at hb10) <;> first | (refine HL_r rfl rfl rfl rfl (R_move rfl) ?_) | (refine HL_skip rfl rfl rfl ?_))
                all_goals first
                  | (refine HL_r rfl rfl rfl rfl (R_pure rfl rfl rfl) ?_)
                  | (refine HL_skip rfl rfl rfl ?_)
                  | (refine HL_case 25 rfl (fun hb11 => ?_) (fun hb11 => ?_) <;> (try simp only [decide_eq_true_eq, decide_eq_false_iff_not, beq_iff_eq, beq_eq_false_iff_ne, bne_iff_ne, bne_eq_false_iff_eq, Bool.not_eq_true', Bool.not_eq_false', ne_eq, Int.not_lt, Int.not_le, ge_iff_le, gt_iff_lt] at hb11) <;> first | (refine HL_r rfl rfl rfl rfl (R_pure rfl rfl rfl) ?_) | (refine HL_skip rfl rfl rfl ?_))
                all_goals first
                  | (refine HL_r rfl rfl rfl rfl (R_pickT rfl rfl) ?_)
                  | (refine HL_r rfl rfl rfl rfl (R_pickF rfl rfl) ?_)
                all_goals refine HL_r rfl rfl rfl rfl (R_move rfl) ?_
                all_goals first
                  | (refine HL_r rfl rfl rfl rfl (R_move rfl) ?_)
                  | (refine HL_skip rfl rfl rfl ?_)
                  | (refine HL_case 29 rfl (fun hb12 => ?_) (fun hb12 => ?_) <;> (try simp only [decide_eq_true_eq, decide_eq_false_iff_not, beq_iff_eq, beq_eq_false_iff_ne, bne_iff_ne, bne_eq_false_iff_eq, Bool.not_eq_true', Bool.not_eq_false', ne_eq, Int.not_lt, Int.not_le, ge_iff_le, gt_iff_lt] at hb12) <;> first | (refine HL_r rfl rfl rfl rfl (R_move rfl) ?_) | (refine HL_skip rfl rfl rfl ?_))
                all_goals first
                  | (refine HL_r rfl rfl rfl rfl (R_pure rfl rfl rfl) ?_)
                  | (refine HL_skip rfl rfl rfl ?_)
                  | (refine HL_case 29 rfl (fun hb13 => ?_) (fun hb13 => ?_) <;> (try simp only [decide_eq_true_eq, decide_eq_false_iff_not, beq_iff_eq, beq_eq_false_iff_ne, bne_iff_ne, bne_eq_false_iff_eq, Bool.not_eq_true', Bool.not_eq_false', ne_eq, Int.not_lt, Int.not_le, ge_iff_le, gt_iff_lt] at hb13) <;> first | (refine HL_r rfl rfl rfl rfl (R_pure rfl rfl rfl) ?_) | (refine HL_skip rfl rfl rfl ?_))
                all_goals first
                  | (refine HL_r rfl rfl rfl rfl (R_pickT rfl rfl) ?_)
                  | (refine HL_r rfl rfl rfl rfl (R_pickF rfl rfl) ?_)
                all_goals refine HL_r rfl rfl rfl rfl (R_move rfl) ?_
                all_goals first
                  | (refine HL_r rfl rfl rfl rfl (R_move rfl) ?_)
                  | (refine HL_skip rfl rfl rfl ?_)
                  | (refine HL_case 33 rfl (fun hb14 => ?_) (fun hb14 => ?_) <;> (try simp only [decide_eq_true_eq, decide_eq_false_iff_not, beq_iff_eq, beq_eq_false_iff_ne, bne_iff_ne, bne_eq_false_iff_eq, Bool.not_eq_true', Bool.not_eq_false', ne_eq, Int.not_lt, Int.not_le, ge_iff_le, gt_iff_lt] at hb14) <;> first | (refine HL_r rfl rfl rfl rfl (R_move rfl) ?_) | (refine HL_skip rfl rfl rfl ?_))
                all_goals first
                  | (refine HL_r rfl rfl rfl rfl (R_pure rfl rfl rfl) ?_)
                  | (refine HL_skip rfl rfl rfl ?_)
                  | (refine HL_case 33 rfl (fun hb15 => ?_) (fun hb15 => ?_) <;> (try simp only [decide_eq_true_eq, decide_eq_false_iff_not, beq_iff_eq, beq_eq_false_iff_ne, bne_iff_ne, bne_eq_false_iff_eq, Bool.not_eq_true', Bool.not_eq_false', ne_eq, Int.not_lt, Int.not_le, ge_iff_le, gt_iff_lt] at hb15) <;> first | (refine HL_r rfl rfl rfl rfl (R_pure rfl rfl rfl) ?_) | (refine HL_skip rfl rfl rfl ?_))
                all_goals first
                  | (refine HL_r rfl rfl rfl rfl (R_pickT rfl rfl) ?_)
                  | (refine HL_r rfl rfl rfl rfl (R_pickF rfl rfl) ?_)
                all_goals refine HL_as (show _ = Value.bool (inB f k) from by unfold inB; first | (simp [*]; done) | (simp; intros; omega) | (simp [*]; intros; omega)) ?_
                all_goals refine HL_r rfl rfl rfl rfl (R_assign rfl) ?_
                all_goals refine HL_nil ?_
                all_goals (
                  refine HQ_then ?_
                  refine hK9 _ _ _ _ ?_; clear hK9 K9
                  refine HC_seq fun K16 hK16 => ?_
                  refine HC_seq fun K17 hK17 => ?_
                  refine HC_region ?_
                  all_goals refine HL_r rfl rfl rfl rfl (R_assign rfl) ?_
                  all_goals refine HL_nil ?_
                  all_goals (
                    refine HQ_then ?_
                    refine hK17 _ _ _ _ ?_; clear hK17 K17
                    refine HC_block ?_
                    refine HC_loop (σ := Nat) (fun j => j ≤ (vl f k).length) (fun j => [(0, .int .i64 f), (1, .int .i64 k), (5, .bool true), (6, rowV (vl f k).length row1), (7, .int .i64 (lastI (vl f k))), (8, .int .i64 (codeI (vl f k))), (9, .bool (inB f k)), (10, .int .i64 (j : Int))]) (fun _ => rowL 3 ((vl f k).map (Value.int .i64)) row1) (fun _ _ _ => True) (fun j => (vl f k).length - j) 0 (Nat.zero_le _) (.cons rfl (.cons rfl (.cons rfl (.cons rfl (.cons rfl (.cons rfl (.cons rfl (.cons rfl .nil)))))))) (List.sublist_append_left _ _) (fun _ _ h => h) ?_
                    intro j hj
                    refine HC_seq fun K18 hK18 => ?_
                    refine HC_seq fun K19 hK19 => ?_
                    refine HC_region ?_
                    all_goals refine HL_r rfl rfl rfl rfl (R_move rfl) ?_
                    all_goals refine HL_r rfl rfl rfl rfl (R_move rfl) ?_
                    all_goals refine HL_r rfl rfl rfl rfl (R_lenRow (n := (vl f k).length) (row := row1) rfl hrow.zero rfl) ?_
                    all_goals refine HL_r rfl rfl rfl rfl (R_pure rfl rfl rfl) ?_
                    all_goals refine HL_nil ?_
                    all_goals (
                      refine HQ_then ?_
                      refine hK19 _ _ _ _ ?_; clear hK19 K19
                      refine HC_cond rfl (fun h20 => ?_) (fun h20 => ?_)
                      · try exact Bool.noConfusion h20
                        all_goals try simp only [decide_eq_true_eq, decide_eq_false_iff_not, beq_iff_eq, beq_eq_false_iff_ne, bne_iff_ne, bne_eq_false_iff_eq, Bool.not_eq_true', Bool.not_eq_false', ne_eq, Int.not_lt, Int.not_le, ge_iff_le, gt_iff_lt] at h20
                        all_goals (
                          refine HC_skip ?_
                          refine HQ_then ?_
                          refine hK18 _ _ _ _ ?_; clear hK18 K18
                          refine HC_seq fun K21 hK21 => ?_
                          refine HC_block ?_
                          refine HC_seq fun K22 hK22 => ?_
                          refine HC_draw 24 (by kernel_rfl) (by kernel_rfl) ?_
                          all_goals refine HD_r rfl rfl rfl (R_move rfl) ?_
                          all_goals refine HD_r rfl rfl rfl (R_move rfl) ?_
                          all_goals refine HD_r rfl rfl rfl (R_move rfl) ?_
                          all_goals refine HD_r rfl rfl rfl (R_move rfl) ?_
                          all_goals refine HD_r rfl rfl rfl (R_indexRow (m := 1) (n := (vl f k).length) (row := row1) (off' := j) rfl hrow rfl rfl rfl rfl (by omega) (by omega)) ?_
                          all_goals refine HD_r rfl rfl rfl (R_loadRow (row := row1) rfl hrow (fun p hp => .inl hp) rfl (map_get (by omega))) ?_
                          all_goals refine HD_callP rfl rfl rfl (enters_of Try.func16 (by kernel_rfl) rfl) (Q_leg ..) ?_
                          all_goals refine HD_as (show _ = Value.bool true from congrArg Value.bool (vl_ok (by omega))) ?_
                          all_goals refine HD_r rfl rfl rfl (R_pure rfl rfl rfl) ?_
                          all_goals refine HD_r rfl rfl rfl (R_move rfl) ?_
                          all_goals first
                            | (refine HD_r rfl rfl rfl (R_move rfl) ?_)
                            | (refine HD_skip rfl rfl rfl ?_)
                            | (refine HD_case 51 rfl (fun hb23 => ?_) (fun hb23 => ?_) <;> (try simp only [decide_eq_true_eq, decide_eq_false_iff_not, beq_iff_eq, beq_eq_false_iff_ne, bne_iff_ne, bne_eq_false_iff_eq, Bool.not_eq_true', Bool.not_eq_false', ne_eq, Int.not_lt, Int.not_le, ge_iff_le, gt_iff_lt] at hb23) <;> first | (refine HD_r rfl rfl rfl (R_move rfl) ?_) | (refine HD_skip rfl rfl rfl ?_))
                          all_goals first
                            | (refine HD_r rfl rfl rfl (R_pure rfl rfl rfl) ?_)
                            | (refine HD_skip rfl rfl rfl ?_)
                            | (refine HD_case 51 rfl (fun hb24 => ?_) (fun hb24 => ?_) <;> (try simp only [decide_eq_true_eq, decide_eq_false_iff_not, beq_iff_eq, beq_eq_false_iff_ne, bne_iff_ne, bne_eq_false_iff_eq, Bool.not_eq_true', Bool.not_eq_false', ne_eq, Int.not_lt, Int.not_le, ge_iff_le, gt_iff_lt] at hb24) <;> first | (refine HD_r rfl rfl rfl (R_pure rfl rfl rfl) ?_) | (refine HD_skip rfl rfl rfl ?_))
                          all_goals first
                            | (refine HD_r rfl rfl rfl (R_move rfl) ?_)
                            | (refine HD_skip rfl rfl rfl ?_)
                            | (refine HD_case 51 rfl (fun hb25 => ?_) (fun hb25 => ?_) <;> (try simp only [decide_eq_true_eq, decide_eq_false_iff_not, beq_iff_eq, beq_eq_false_iff_ne, bne_iff_ne, bne_eq_false_iff_eq, Bool.not_eq_true', Bool.not_eq_false', ne_eq, Int.not_lt, Int.not_le, ge_iff_le, gt_iff_lt] at hb25) <;> first | (refine HD_r rfl rfl rfl (R_move rfl) ?_) | (refine HD_skip rfl rfl rfl ?_))
                          all_goals first
                            | (refine HD_r rfl rfl rfl (R_move rfl) ?_)
                            | (refine HD_skip rfl rfl rfl ?_)
                            | (refine HD_case 54 rfl (fun hb26 => ?_) (fun hb26 => ?_) <;> (try simp only [decide_eq_true_eq, decide_eq_false_iff_not, beq_iff_eq, beq_eq_false_iff_ne, bne_iff_ne, bne_eq_false_iff_eq, Bool.not_eq_true', Bool.not_eq_false', ne_eq, Int.not_lt, Int.not_le, ge_iff_le, gt_iff_lt] at hb26) <;> first | (refine HD_r rfl rfl rfl (R_move rfl) ?_) | (refine HD_skip rfl rfl rfl ?_))
                          all_goals first
                            | (refine HD_r rfl rfl rfl (R_move rfl) ?_)
                            | (refine HD_skip rfl rfl rfl ?_)
                            | (refine HD_case 54 rfl (fun hb27 => ?_) (fun hb27 => ?_) <;> (try simp only [decide_eq_true_eq, decide_eq_false_iff_not, beq_iff_eq, beq_eq_false_iff_ne, bne_iff_ne, bne_eq_false_iff_eq, Bool.not_eq_true', Bool.not_eq_false', ne_eq, Int.not_lt, Int.not_le, ge_iff_le, gt_iff_lt] at hb27) <;> first | (refine HD_r rfl rfl rfl (R_move rfl) ?_) | (refine HD_skip rfl rfl rfl ?_))
                          all_goals first | refine HD_r rfl rfl rfl (R_indexRow (m := 1) (n := (vl f k).length) (row := row1) (off' := j) rfl hrow rfl rfl rfl rfl (by omega) (by omega)) ?_ | refine HD_skip rfl rfl rfl ?_
                          all_goals first | refine HD_r rfl rfl rfl (R_loadRow (row := row1) rfl hrow (fun p hp => .inl hp) rfl (map_get (by omega))) ?_ | refine HD_skip rfl rfl rfl ?_
                          all_goals first
                            | (refine HD_r rfl rfl rfl (R_move rfl) ?_)
                            | (refine HD_skip rfl rfl rfl ?_)
                            | (refine HD_case 54 rfl (fun hb28 => ?_) (fun hb28 => ?_) <;> (try simp only [decide_eq_true_eq, decide_eq_false_iff_not, beq_iff_eq, beq_eq_false_iff_ne, bne_iff_ne, bne_eq_false_iff_eq, Bool.not_eq_true', Bool.not_eq_false', ne_eq, Int.not_lt, Int.not_le, ge_iff_le, gt_iff_lt] at hb28) <;> first | (refine HD_r rfl rfl rfl (R_move rfl) ?_) | (refine HD_skip rfl rfl rfl ?_))
                          all_goals first
                            | (refine HD_r rfl rfl rfl (R_move rfl) ?_)
                            | (refine HD_skip rfl rfl rfl ?_)
                            | (refine HD_case 54 rfl (fun hb29 => ?_) (fun hb29 => ?_) <;> (try simp only [decide_eq_true_eq, decide_eq_false_iff_not, beq_iff_eq, beq_eq_false_iff_ne, bne_iff_ne, bne_eq_false_iff_eq, Bool.not_eq_true', Bool.not_eq_false', ne_eq, Int.not_lt, Int.not_le, ge_iff_le, gt_iff_lt] at hb29) <;> first | (refine HD_r rfl rfl rfl (R_move rfl) ?_) | (refine HD_skip rfl rfl rfl ?_))
                          all_goals first
                            | (refine HD_r rfl rfl rfl (R_pure rfl rfl rfl) ?_; refine HD_wrap_i64 (by omega) (by omega) ?_)
                            | (refine HD_r rfl rfl rfl (R_pure rfl rfl rfl) ?_)
                            | (refine HD_skip rfl rfl rfl ?_)
                            | (refine HD_case 54 rfl (fun hb30 => ?_) (fun hb30 => ?_) <;> (try simp only [decide_eq_true_eq, decide_eq_false_iff_not, beq_iff_eq, beq_eq_false_iff_ne, bne_iff_ne, bne_eq_false_iff_eq, Bool.not_eq_true', Bool.not_eq_false', ne_eq, Int.not_lt, Int.not_le, ge_iff_le, gt_iff_lt] at hb30) <;> first | (refine HD_r rfl rfl rfl (R_pure rfl rfl rfl) ?_; refine HD_wrap_i64 (by omega) (by omega) ?_) | (refine HD_r rfl rfl rfl (R_pure rfl rfl rfl) ?_) | (refine HD_skip rfl rfl rfl ?_))
                          all_goals first | refine HD_r rfl rfl rfl (R_indexRow (j := j - 1) (m := 1) (n := (vl f k).length) (row := row1) (off' := j - 1) rfl hrow rfl rfl rfl (by omega) (by omega) (by omega)) ?_ | refine HD_skip rfl rfl rfl ?_
                          all_goals first | refine HD_r rfl rfl rfl (R_loadRow (row := row1) rfl hrow (fun p hp => .inl hp) rfl (map_get (by omega))) ?_ | refine HD_skip rfl rfl rfl ?_
                          all_goals first
                            | (refine HD_r rfl rfl rfl (R_pure rfl rfl rfl) ?_)
                            | (refine HD_skip rfl rfl rfl ?_)
                            | (refine HD_case 54 rfl (fun hb31 => ?_) (fun hb31 => ?_) <;> (try simp only [decide_eq_true_eq, decide_eq_false_iff_not, beq_iff_eq, beq_eq_false_iff_ne, bne_iff_ne, bne_eq_false_iff_eq, Bool.not_eq_true', Bool.not_eq_false', ne_eq, Int.not_lt, Int.not_le, ge_iff_le, gt_iff_lt] at hb31) <;> first | (refine HD_r rfl rfl rfl (R_pure rfl rfl rfl) ?_) | (refine HD_skip rfl rfl rfl ?_))
                          all_goals try refine HD_as (show _ = Value.bool false from by have := vl_asc (f := f) (k := k) (i := j - 1) (j := j) (by omega) (by omega); first | (simp; omega) | (rw [decide_eq_false (by omega)])) ?_
                          all_goals first
                            | (refine HD_r rfl rfl rfl (R_pickT rfl rfl) ?_)
                            | (refine HD_r rfl rfl rfl (R_pickF rfl rfl) ?_)
                            | (refine HD_skip rfl rfl rfl ?_)
                            | (refine HD_case 51 rfl (fun hb32 => ?_) (fun hb32 => ?_) <;> (try simp only [decide_eq_true_eq, decide_eq_false_iff_not, beq_iff_eq, beq_eq_false_iff_ne, bne_iff_ne, bne_eq_false_iff_eq, Bool.not_eq_true', Bool.not_eq_false', ne_eq, Int.not_lt, Int.not_le, ge_iff_le, gt_iff_lt] at hb32) <;> first | (refine HD_r rfl rfl rfl (R_pickT rfl rfl) ?_) | (refine HD_r rfl rfl rfl (R_pickF rfl rfl) ?_) | (refine HD_skip rfl rfl rfl ?_))
                          all_goals first
                            | (refine HD_r rfl rfl rfl (R_pickT rfl rfl) ?_)
                            | (refine HD_r rfl rfl rfl (R_pickF rfl rfl) ?_)
                          all_goals refine HD_end ?_
                          all_goals refine HL_nil ?_
                          all_goals (
                            refine HQ_then ?_
                            refine hK22 _ _ _ _ ?_; clear hK22 K22
                            refine HC_cond rfl (fun h33 => ?_) (fun h33 => ?_)
                            · try exact Bool.noConfusion h33
                              all_goals try simp only [decide_eq_true_eq, decide_eq_false_iff_not, beq_iff_eq, beq_eq_false_iff_ne, bne_iff_ne, bne_eq_false_iff_eq, Bool.not_eq_true', Bool.not_eq_false', ne_eq, Int.not_lt, Int.not_le, ge_iff_le, gt_iff_lt] at h33
                              all_goals (
                                refine HC_seq fun K34 hK34 => ?_
                                refine HC_region ?_
                                all_goals refine HL_r rfl rfl rfl rfl (R_assign rfl) ?_
                                all_goals refine HL_nil ?_
                                all_goals (
                                  refine HQ_then ?_
                                  refine hK34 _ _ _ _ ?_; clear hK34 K34
                                  refine HC_ret ?_
                                  refine HQ_blockR ?_
                                  refine HQ_thenR ?_; clear hK21 K21
                                  refine HQ_thenR ?_
                                  refine HQ_blockR ?_
                                  refine HQ_thenR ?_; clear hK16 K16
                                  refine HQ_post rfl rfl (.cons (res_tmp rfl) .nil) (fun w1 hs1 => ?_)
                                  exact ⟨rfl, hs1.keep⟩
                                  skip)
                                skip)
                            · try exact Bool.noConfusion h33
                              all_goals try simp only [decide_eq_true_eq, decide_eq_false_iff_not, beq_iff_eq, beq_eq_false_iff_ne, bne_iff_ne, bne_eq_false_iff_eq, Bool.not_eq_true', Bool.not_eq_false', ne_eq, Int.not_lt, Int.not_le, ge_iff_le, gt_iff_lt] at h33
                              all_goals (
                                refine HC_skip ?_
                                refine HQ_blockN ?_
                                refine HQ_then ?_
                                refine hK21 _ _ _ _ ?_; clear hK21 K21
                                refine HC_region ?_
                                all_goals refine HL_r rfl rfl rfl rfl (R_move rfl) ?_
                                all_goals first
                                  | (refine HL_r rfl rfl rfl rfl (R_pure rfl rfl rfl) ?_; refine HL_wrap_i64 (by omega) (by omega) ?_)
                                  | (refine HL_r rfl rfl rfl rfl (R_pure rfl rfl rfl) ?_)
                                all_goals refine HL_r rfl rfl rfl rfl (R_assign rfl) ?_
                                all_goals refine HL_nil ?_
                                all_goals (
                                  refine HQ_then ?_
                                  exact HQ_again (j + 1) (by omega) (by omega) (.cons rfl (.cons rfl (.cons rfl (.cons rfl (.cons rfl (.cons rfl (.cons rfl (.cons rfl .nil)))))))) (List.Sublist.refl _) (fun _ _ h => h)
                                  skip)
                                skip)
                            skip)
                          skip)
                      · try exact Bool.noConfusion h20
                        all_goals try simp only [decide_eq_true_eq, decide_eq_false_iff_not, beq_iff_eq, beq_eq_false_iff_ne, bne_iff_ne, bne_eq_false_iff_eq, Bool.not_eq_true', Bool.not_eq_false', ne_eq, Int.not_lt, Int.not_le, ge_iff_le, gt_iff_lt] at h20
                        all_goals (
                          refine HC_exit ?_
                          refine HQ_thenE ?_; clear hK18 K18
                          refine HQ_thenE ?_
                          refine HQ_blockE ?_
                          refine HQ_then ?_
                          refine hK16 _ _ _ _ ?_; clear hK16 K16
                          refine HC_seq fun K35 hK35 => ?_
                          refine HC_region ?_
                          all_goals refine HL_r rfl rfl rfl rfl (R_move rfl) ?_
                          all_goals refine HL_r rfl rfl rfl rfl (R_move rfl) ?_
                          all_goals first
                            | (refine HL_r rfl rfl rfl rfl (R_move rfl) ?_)
                            | (refine HL_skip rfl rfl rfl ?_)
                            | (refine HL_case 68 rfl (fun hb36 => ?_) (fun hb36 => ?_) <;> (try simp only [decide_eq_true_eq, decide_eq_false_iff_not, beq_iff_eq, beq_eq_false_iff_ne, bne_iff_ne, bne_eq_false_iff_eq, Bool.not_eq_true', Bool.not_eq_false', ne_eq, Int.not_lt, Int.not_le, ge_iff_le, gt_iff_lt] at hb36) <;> first | (refine HL_r rfl rfl rfl rfl (R_move rfl) ?_) | (refine HL_skip rfl rfl rfl ?_))
                          all_goals refine HL_r rfl rfl rfl rfl (R_lenRow (n := (vl f k).length) (row := row1) rfl hrow.zero rfl) ?_
                          all_goals first
                            | (refine HL_r rfl rfl rfl rfl (R_pure rfl rfl rfl) ?_)
                            | (refine HL_skip rfl rfl rfl ?_)
                            | (refine HL_case 68 rfl (fun hb37 => ?_) (fun hb37 => ?_) <;> (try simp only [decide_eq_true_eq, decide_eq_false_iff_not, beq_iff_eq, beq_eq_false_iff_ne, bne_iff_ne, bne_eq_false_iff_eq, Bool.not_eq_true', Bool.not_eq_false', ne_eq, Int.not_lt, Int.not_le, ge_iff_le, gt_iff_lt] at hb37) <;> first | (refine HL_r rfl rfl rfl rfl (R_pure rfl rfl rfl) ?_) | (refine HL_skip rfl rfl rfl ?_))
                          all_goals first
                            | (refine HL_r rfl rfl rfl rfl (R_move rfl) ?_)
                            | (refine HL_skip rfl rfl rfl ?_)
                            | (refine HL_case 68 rfl (fun hb38 => ?_) (fun hb38 => ?_) <;> (try simp only [decide_eq_true_eq, decide_eq_false_iff_not, beq_iff_eq, beq_eq_false_iff_ne, bne_iff_ne, bne_eq_false_iff_eq, Bool.not_eq_true', Bool.not_eq_false', ne_eq, Int.not_lt, Int.not_le, ge_iff_le, gt_iff_lt] at hb38) <;> first | (refine HL_r rfl rfl rfl rfl (R_move rfl) ?_) | (refine HL_skip rfl rfl rfl ?_))
                          all_goals first
                            | (refine HL_r rfl rfl rfl rfl (R_pure rfl rfl rfl) ?_)
                            | (refine HL_skip rfl rfl rfl ?_)
                            | (refine HL_case 68 rfl (fun hb39 => ?_) (fun hb39 => ?_) <;> (try simp only [decide_eq_true_eq, decide_eq_false_iff_not, beq_iff_eq, beq_eq_false_iff_ne, bne_iff_ne, bne_eq_false_iff_eq, Bool.not_eq_true', Bool.not_eq_false', ne_eq, Int.not_lt, Int.not_le, ge_iff_le, gt_iff_lt] at hb39) <;> first | (refine HL_r rfl rfl rfl rfl (R_pure rfl rfl rfl) ?_) | (refine HL_skip rfl rfl rfl ?_))
                          all_goals refine HL_as (bool_eq (vl_pos f k)) ?_
                          all_goals first
                            | (refine HL_r rfl rfl rfl rfl (R_pickT rfl rfl) ?_)
                            | (refine HL_r rfl rfl rfl rfl (R_pickF rfl rfl) ?_)
                          all_goals refine HL_r rfl rfl rfl rfl (R_move rfl) ?_
                          all_goals first
                            | (refine HL_r rfl rfl rfl rfl (R_move rfl) ?_)
                            | (refine HL_skip rfl rfl rfl ?_)
                            | (refine HL_case 75 rfl (fun hb40 => ?_) (fun hb40 => ?_) <;> (try simp only [decide_eq_true_eq, decide_eq_false_iff_not, beq_iff_eq, beq_eq_false_iff_ne, bne_iff_ne, bne_eq_false_iff_eq, Bool.not_eq_true', Bool.not_eq_false', ne_eq, Int.not_lt, Int.not_le, ge_iff_le, gt_iff_lt] at hb40) <;> first | (refine HL_r rfl rfl rfl rfl (R_move rfl) ?_) | (refine HL_skip rfl rfl rfl ?_))
                          all_goals first
                            | (refine HL_r rfl rfl rfl rfl (R_pure rfl rfl rfl) ?_)
                            | (refine HL_skip rfl rfl rfl ?_)
                            | (refine HL_case 75 rfl (fun hb41 => ?_) (fun hb41 => ?_) <;> (try simp only [decide_eq_true_eq, decide_eq_false_iff_not, beq_iff_eq, beq_eq_false_iff_ne, bne_iff_ne, bne_eq_false_iff_eq, Bool.not_eq_true', Bool.not_eq_false', ne_eq, Int.not_lt, Int.not_le, ge_iff_le, gt_iff_lt] at hb41) <;> first | (refine HL_r rfl rfl rfl rfl (R_pure rfl rfl rfl) ?_) | (refine HL_skip rfl rfl rfl ?_))
                          all_goals first
                            | (refine HL_r rfl rfl rfl rfl (R_move rfl) ?_)
                            | (refine HL_skip rfl rfl rfl ?_)
                            | (refine HL_case 75 rfl (fun hb42 => ?_) (fun hb42 => ?_) <;> (try simp only [decide_eq_true_eq, decide_eq_false_iff_not, beq_iff_eq, beq_eq_false_iff_ne, bne_iff_ne, bne_eq_false_iff_eq, Bool.not_eq_true', Bool.not_eq_false', ne_eq, Int.not_lt, Int.not_le, ge_iff_le, gt_iff_lt] at hb42) <;> first | (refine HL_r rfl rfl rfl rfl (R_move rfl) ?_) | (refine HL_skip rfl rfl rfl ?_))
                          all_goals first
                            | (refine HL_r rfl rfl rfl rfl (R_pure rfl rfl rfl) ?_)
                            | (refine HL_skip rfl rfl rfl ?_)
                            | (refine HL_case 75 rfl (fun hb43 => ?_) (fun hb43 => ?_) <;> (try simp only [decide_eq_true_eq, decide_eq_false_iff_not, beq_iff_eq, beq_eq_false_iff_ne, bne_iff_ne, bne_eq_false_iff_eq, Bool.not_eq_true', Bool.not_eq_false', ne_eq, Int.not_lt, Int.not_le, ge_iff_le, gt_iff_lt] at hb43) <;> first | (refine HL_r rfl rfl rfl rfl (R_pure rfl rfl rfl) ?_) | (refine HL_skip rfl rfl rfl ?_))
                          all_goals refine HL_as (bool_eq (code_in f k)) ?_
                          all_goals first
                            | (refine HL_r rfl rfl rfl rfl (R_pickT rfl rfl) ?_)
                            | (refine HL_r rfl rfl rfl rfl (R_pickF rfl rfl) ?_)
                          all_goals refine HL_r rfl rfl rfl rfl (R_move rfl) ?_
                          all_goals first
                            | (refine HL_r rfl rfl rfl rfl (R_move rfl) ?_)
                            | (refine HL_skip rfl rfl rfl ?_)
                            | (refine HL_case 81 rfl (fun hb44 => ?_) (fun hb44 => ?_) <;> (try simp only [decide_eq_true_eq, decide_eq_false_iff_not, beq_iff_eq, beq_eq_false_iff_ne, bne_iff_ne, bne_eq_false_iff_eq, Bool.not_eq_true', Bool.not_eq_false', ne_eq, Int.not_lt, Int.not_le, ge_iff_le, gt_iff_lt] at hb44) <;> first | (refine HL_r rfl rfl rfl rfl (R_move rfl) ?_) | (refine HL_skip rfl rfl rfl ?_))
                          all_goals first
                            | (refine HL_r rfl rfl rfl rfl (R_pure rfl rfl rfl) ?_)
                            | (refine HL_skip rfl rfl rfl ?_)
                            | (refine HL_case 81 rfl (fun hb45 => ?_) (fun hb45 => ?_) <;> (try simp only [decide_eq_true_eq, decide_eq_false_iff_not, beq_iff_eq, beq_eq_false_iff_ne, bne_iff_ne, bne_eq_false_iff_eq, Bool.not_eq_true', Bool.not_eq_false', ne_eq, Int.not_lt, Int.not_le, ge_iff_le, gt_iff_lt] at hb45) <;> first | (refine HL_r rfl rfl rfl rfl (R_pure rfl rfl rfl) ?_) | (refine HL_skip rfl rfl rfl ?_))
                          all_goals first
                            | (refine HL_r rfl rfl rfl rfl (R_move rfl) ?_)
                            | (refine HL_skip rfl rfl rfl ?_)
                            | (refine HL_case 81 rfl (fun hb46 => ?_) (fun hb46 => ?_) <;> (try simp only [decide_eq_true_eq, decide_eq_false_iff_not, beq_iff_eq, beq_eq_false_iff_ne, bne_iff_ne, bne_eq_false_iff_eq, Bool.not_eq_true', Bool.not_eq_false', ne_eq, Int.not_lt, Int.not_le, ge_iff_le, gt_iff_lt] at hb46) <;> first | (refine HL_r rfl rfl rfl rfl (R_move rfl) ?_) | (refine HL_skip rfl rfl rfl ?_))
                          all_goals first
                            | (refine HL_r rfl rfl rfl rfl (R_move rfl) ?_)
                            | (refine HL_skip rfl rfl rfl ?_)
                            | (refine HL_case 84 rfl (fun hb47 => ?_) (fun hb47 => ?_) <;> (try simp only [decide_eq_true_eq, decide_eq_false_iff_not, beq_iff_eq, beq_eq_false_iff_ne, bne_iff_ne, bne_eq_false_iff_eq, Bool.not_eq_true', Bool.not_eq_false', ne_eq, Int.not_lt, Int.not_le, ge_iff_le, gt_iff_lt] at hb47) <;> first | (refine HL_r rfl rfl rfl rfl (R_move rfl) ?_) | (refine HL_skip rfl rfl rfl ?_))
                          all_goals first
                            | (refine HL_r rfl rfl rfl rfl (R_move rfl) ?_)
                            | (refine HL_skip rfl rfl rfl ?_)
                            | (refine HL_case 84 rfl (fun hb48 => ?_) (fun hb48 => ?_) <;> (try simp only [decide_eq_true_eq, decide_eq_false_iff_not, beq_iff_eq, beq_eq_false_iff_ne, bne_iff_ne, bne_eq_false_iff_eq, Bool.not_eq_true', Bool.not_eq_false', ne_eq, Int.not_lt, Int.not_le, ge_iff_le, gt_iff_lt] at hb48) <;> first | (refine HL_r rfl rfl rfl rfl (R_move rfl) ?_) | (refine HL_skip rfl rfl rfl ?_))
                          all_goals first
                            | (refine HL_r rfl rfl rfl rfl (R_move rfl) ?_)
                            | (refine HL_skip rfl rfl rfl ?_)
                            | (refine HL_case 84 rfl (fun hb49 => ?_) (fun hb49 => ?_) <;> (try simp only [decide_eq_true_eq, decide_eq_false_iff_not, beq_iff_eq, beq_eq_false_iff_ne, bne_iff_ne, bne_eq_false_iff_eq, Bool.not_eq_true', Bool.not_eq_false', ne_eq, Int.not_lt, Int.not_le, ge_iff_le, gt_iff_lt] at hb49) <;> first | (refine HL_r rfl rfl rfl rfl (R_move rfl) ?_) | (refine HL_skip rfl rfl rfl ?_))
                          all_goals first | refine HL_r rfl rfl rfl rfl (R_lenRow (n := (vl f k).length) (row := row1) rfl hrow.zero rfl) ?_ | refine HL_skip rfl rfl rfl ?_
                          all_goals first
                            | (refine HL_r rfl rfl rfl rfl (R_pure rfl rfl rfl) ?_; refine HL_wrap_i64 (by omega) (by omega) ?_)
                            | (refine HL_r rfl rfl rfl rfl (R_pure rfl rfl rfl) ?_)
                            | (refine HL_skip rfl rfl rfl ?_)
                            | (refine HL_case 84 rfl (fun hb50 => ?_) (fun hb50 => ?_) <;> (try simp only [decide_eq_true_eq, decide_eq_false_iff_not, beq_iff_eq, beq_eq_false_iff_ne, bne_iff_ne, bne_eq_false_iff_eq, Bool.not_eq_true', Bool.not_eq_false', ne_eq, Int.not_lt, Int.not_le, ge_iff_le, gt_iff_lt] at hb50) <;> first | (refine HL_r rfl rfl rfl rfl (R_pure rfl rfl rfl) ?_; refine HL_wrap_i64 (by omega) (by omega) ?_) | (refine HL_r rfl rfl rfl rfl (R_pure rfl rfl rfl) ?_) | (refine HL_skip rfl rfl rfl ?_))
                          all_goals first | refine HL_r rfl rfl rfl rfl (R_indexRow (j := (vl f k).length - 1) (m := 1) (n := (vl f k).length) (row := row1) (off' := (vl f k).length - 1) rfl hrow rfl rfl rfl (by have := vl_pos' (f := f) (k := k) (by assumption); omega) (by have := vl_pos' (f := f) (k := k) (by assumption); omega) (by omega)) ?_ | refine HL_skip rfl rfl rfl ?_
                          all_goals first | refine HL_r rfl rfl rfl rfl (R_loadRow (row := row1) rfl hrow (fun p hp => .inl hp) rfl (map_get (by have := vl_pos' (f := f) (k := k) (by assumption); omega))) ?_ | refine HL_skip rfl rfl rfl ?_
                          all_goals first
                            | (refine HL_r rfl rfl rfl rfl (R_pure rfl rfl rfl) ?_)
                            | (refine HL_skip rfl rfl rfl ?_)
                            | (refine HL_case 84 rfl (fun hb51 => ?_) (fun hb51 => ?_) <;> (try simp only [decide_eq_true_eq, decide_eq_false_iff_not, beq_iff_eq, beq_eq_false_iff_ne, bne_iff_ne, bne_eq_false_iff_eq, Bool.not_eq_true', Bool.not_eq_false', ne_eq, Int.not_lt, Int.not_le, ge_iff_le, gt_iff_lt] at hb51) <;> first | (refine HL_r rfl rfl rfl rfl (R_pure rfl rfl rfl) ?_) | (refine HL_skip rfl rfl rfl ?_))
                          all_goals try refine HL_as (int_eq rfl) ?_
                          all_goals first
                            | (refine HL_r rfl rfl rfl rfl (R_pickT rfl rfl) ?_)
                            | (refine HL_r rfl rfl rfl rfl (R_pickF rfl rfl) ?_)
                            | (refine HL_skip rfl rfl rfl ?_)
                            | (refine HL_case 81 rfl (fun hb52 => ?_) (fun hb52 => ?_) <;> (try simp only [decide_eq_true_eq, decide_eq_false_iff_not, beq_iff_eq, beq_eq_false_iff_ne, bne_iff_ne, bne_eq_false_iff_eq, Bool.not_eq_true', Bool.not_eq_false', ne_eq, Int.not_lt, Int.not_le, ge_iff_le, gt_iff_lt] at hb52) <;> first | (refine HL_r rfl rfl rfl rfl (R_pickT rfl rfl) ?_) | (refine HL_r rfl rfl rfl rfl (R_pickF rfl rfl) ?_) | (refine HL_skip rfl rfl rfl ?_))
                          all_goals first
                            | (refine HL_r rfl rfl rfl rfl (R_pickT rfl rfl) ?_)
                            | (refine HL_r rfl rfl rfl rfl (R_pickF rfl rfl) ?_)
                          all_goals refine HL_r rfl rfl rfl rfl (R_assign rfl) ?_
                          all_goals refine HL_nil ?_
                          all_goals (
                            refine HQ_then ?_
                            refine hK35 _ _ _ _ ?_; clear hK35 K35
                            refine HC_ret ?_
                            refine HQ_post rfl rfl (.cons (res_tmp rfl) .nil) (fun w1 hs1 => ?_)
                            exact ⟨rfl, hs1.keep⟩
                            skip)
                          skip)
                      skip)
                    skip)
                  skip)
                skip)
              skip)
            skip)
        skip)
      skip)
    skip)
def lateB (k : Int) : Bool := k == 1 || k == 3 || k == 4
theorem grow {a b c k v : Int} (h1 : a ≤ b) (h2 : b ≤ c) (ha : okR a k v = true) (hc : okR c k v = true) : okR b k v = true := by
  obtain ⟨a1, a2, a3⟩ := okR_iff.1 ha
  obtain ⟨c1, c2, c3⟩ := okR_iff.1 hc
  exact okR_iff.2 ⟨a1, by omega, by omega⟩
theorem late_hi {k v : Int} (hk : lateB k = true) (h : okI k v = true) : hiI k v = 5 := by
  simp only [lateB, Bool.or_eq_true, beq_iff_eq] at hk
  have h' := h
  unfold hiI
  rw [if_pos h]
  unfold okI spanI at h'
  unfold spanI
  rcases hk with (rfl | rfl) | rfl
  · by_cases h4 : v = 4 <;> simp [h4]
  · simp
  · simp
theorem late {a b k v : Int} (hk : lateB k = true) (h1 : a ≤ b) (h5 : b ≤ 5) (ha : okR a k v = true) : okR b k v = true := by
  obtain ⟨a1, a2, a3⟩ := okR_iff.1 ha
  have := late_hi hk a1
  exact okR_iff.2 ⟨a1, by omega, by omega⟩
set_option maxRecDepth 10000 in
theorem P_LegalGrows (a b c k v : Int) : Pure Try.prog 6 [.int .i64 a, .int .i64 b, .int .i64 c, .int .i64 k, .int .i64 v].toArray (.bool true) := by
  refine pure_of_HC Try.func6 rfl rfl fun w => ?_
  refine HC_seq fun K1 hK1 => ?_
  refine HC_region ?_
  all_goals refine HL_r rfl rfl rfl rfl (R_assign rfl) ?_
  all_goals refine HL_nil ?_
  all_goals (
    refine HQ_then ?_
    refine hK1 _ _ _ _ ?_; clear hK1 K1
    refine HC_seq fun K2 hK2 => ?_
    refine HC_region ?_
    all_goals refine HL_callP rfl rfl rfl (enters_of Try.func7 (by kernel_rfl) rfl) P_works ?_
    all_goals refine HL_r rfl rfl rfl rfl (R_assign rfl) ?_
    all_goals refine HL_nil ?_
    all_goals (
      refine HQ_then ?_
      refine hK2 _ _ _ _ ?_; clear hK2 K2
      refine HC_seq fun K3 hK3 => ?_
      refine HC_seq fun K4 hK4 => ?_
      refine HC_region ?_
      all_goals refine HL_r rfl rfl rfl rfl (R_move rfl) ?_
      all_goals refine HL_r rfl rfl rfl rfl (R_pure rfl rfl rfl) ?_
      all_goals refine HL_nil ?_
      all_goals (
        refine HQ_then ?_
        refine hK4 _ _ _ _ ?_; clear hK4 K4
        refine HC_cond rfl (fun h5 => ?_) (fun h5 => ?_)
        · try exact Bool.noConfusion h5
          all_goals try simp only [decide_eq_true_eq, decide_eq_false_iff_not, beq_iff_eq, beq_eq_false_iff_ne, bne_iff_ne, bne_eq_false_iff_eq, Bool.not_eq_true', Bool.not_eq_false', ne_eq, Int.not_lt, Int.not_le, ge_iff_le, gt_iff_lt] at h5
          all_goals (
            refine HC_seq fun K6 hK6 => ?_
            refine HC_region ?_
            all_goals refine HL_r rfl rfl rfl rfl (R_assign rfl) ?_
            all_goals refine HL_nil ?_
            all_goals (
              refine HQ_then ?_
              refine hK6 _ _ _ _ ?_; clear hK6 K6
              refine HC_ret ?_
              refine HQ_thenR ?_; clear hK3 K3
              refine HQ_post rfl rfl (.cons (res_tmp rfl) .nil) (fun w1 hs1 => ?_)
              refine ⟨?_, hs1.keep⟩
              first
                | rfl
                | (have g1 := fun h1 h2 => grow (a := a) (b := b) (c := c) (k := k) (v := v) (by omega) (by omega) h1 h2
                   have g2 := fun h1 h2 h3 => late (a := a) (b := b) (k := k) (v := v) h1 (by omega) h2 h3
                   simp_all [resVal]; done)
                | (have g1 := fun h1 h2 => grow (a := a) (b := b) (c := c) (k := k) (v := v) (by omega) (by omega) h1 h2
                   have g2 := fun h1 h2 h3 => late (a := a) (b := b) (k := k) (v := v) h1 (by omega) h2 h3
                   simp_all [resVal]; omega)
              skip)
            skip)
        · try exact Bool.noConfusion h5
          all_goals try simp only [decide_eq_true_eq, decide_eq_false_iff_not, beq_iff_eq, beq_eq_false_iff_ne, bne_iff_ne, bne_eq_false_iff_eq, Bool.not_eq_true', Bool.not_eq_false', ne_eq, Int.not_lt, Int.not_le, ge_iff_le, gt_iff_lt] at h5
          all_goals (
            refine HC_skip ?_
            refine HQ_then ?_
            refine hK3 _ _ _ _ ?_; clear hK3 K3
            refine HC_seq fun K7 hK7 => ?_
            refine HC_seq fun K8 hK8 => ?_
            refine HC_region ?_
            all_goals refine HL_r rfl rfl rfl rfl (R_move rfl) ?_
            all_goals refine HL_r rfl rfl rfl rfl (R_move rfl) ?_
            all_goals refine HL_r rfl rfl rfl rfl (R_pure rfl rfl rfl) ?_
            all_goals refine HL_r rfl rfl rfl rfl (R_move rfl) ?_
            all_goals first
              | (refine HL_r rfl rfl rfl rfl (R_move rfl) ?_)
              | (refine HL_skip rfl rfl rfl ?_)
              | (refine HL_case 22 rfl (fun hb9 => ?_) (fun hb9 => ?_) <;> (try simp only [decide_eq_true_eq, decide_eq_false_iff_not, beq_iff_eq, beq_eq_false_iff_ne, bne_iff_ne, bne_eq_false_iff_eq, Bool.not_eq_true', Bool.not_eq_false', ne_eq, Int.not_lt, Int.not_le, ge_iff_le, gt_iff_lt] at hb9) <;> first | (refine HL_r rfl rfl rfl rfl (R_move rfl) ?_) | (refine HL_skip rfl rfl rfl ?_))
            all_goals first
              | (refine HL_r rfl rfl rfl rfl (R_move rfl) ?_)
              | (refine HL_skip rfl rfl rfl ?_)
              | (refine HL_case 22 rfl (fun hb10 => ?_) (fun hb10 => ?_) <;> (try simp only [decide_eq_true_eq, decide_eq_false_iff_not, beq_iff_eq, beq_eq_false_iff_ne, bne_iff_ne, bne_eq_false_iff_eq, Bool.not_eq_true', Bool.not_eq_false', ne_eq, Int.not_lt, Int.not_le, ge_iff_le, gt_iff_lt] at hb10) <;> first | (refine HL_r rfl rfl rfl rfl (R_move rfl) ?_) | (refine HL_skip rfl rfl rfl ?_))
            all_goals first
              | (refine HL_r rfl rfl rfl rfl (R_pure rfl rfl rfl) ?_)
              | (refine HL_skip rfl rfl rfl ?_)
              | (refine HL_case 22 rfl (fun hb11 => ?_) (fun hb11 => ?_) <;> (try simp only [decide_eq_true_eq, decide_eq_false_iff_not, beq_iff_eq, beq_eq_false_iff_ne, bne_iff_ne, bne_eq_false_iff_eq, Bool.not_eq_true', Bool.not_eq_false', ne_eq, Int.not_lt, Int.not_le, ge_iff_le, gt_iff_lt] at hb11) <;> first | (refine HL_r rfl rfl rfl rfl (R_pure rfl rfl rfl) ?_) | (refine HL_skip rfl rfl rfl ?_))
            all_goals first
              | (refine HL_r rfl rfl rfl rfl (R_pickT rfl rfl) ?_)
              | (refine HL_r rfl rfl rfl rfl (R_pickF rfl rfl) ?_)
            all_goals refine HL_nil ?_
            all_goals (
              refine HQ_then ?_
              refine hK8 _ _ _ _ ?_; clear hK8 K8
              refine HC_cond rfl (fun h12 => ?_) (fun h12 => ?_)
              · try exact Bool.noConfusion h12
                all_goals try simp only [decide_eq_true_eq, decide_eq_false_iff_not, beq_iff_eq, beq_eq_false_iff_ne, bne_iff_ne, bne_eq_false_iff_eq, Bool.not_eq_true', Bool.not_eq_false', ne_eq, Int.not_lt, Int.not_le, ge_iff_le, gt_iff_lt] at h12
                all_goals (
                  refine HC_seq fun K13 hK13 => ?_
                  refine HC_region ?_
                  all_goals refine HL_r rfl rfl rfl rfl (R_move rfl) ?_
                  all_goals refine HL_r rfl rfl rfl rfl (R_assign rfl) ?_
                  all_goals refine HL_nil ?_
                  all_goals (
                    refine HQ_then ?_
                    refine hK13 _ _ _ _ ?_; clear hK13 K13
                    refine HC_ret ?_
                    refine HQ_thenR ?_; clear hK7 K7
                    refine HQ_post rfl rfl (.cons (res_tmp rfl) .nil) (fun w1 hs1 => ?_)
                    refine ⟨?_, hs1.keep⟩
                    first
                      | rfl
                      | (have g1 := fun h1 h2 => grow (a := a) (b := b) (c := c) (k := k) (v := v) (by omega) (by omega) h1 h2
                         have g2 := fun h1 h2 h3 => late (a := a) (b := b) (k := k) (v := v) h1 (by omega) h2 h3
                         simp_all [resVal]; done)
                      | (have g1 := fun h1 h2 => grow (a := a) (b := b) (c := c) (k := k) (v := v) (by omega) (by omega) h1 h2
                         have g2 := fun h1 h2 h3 => late (a := a) (b := b) (k := k) (v := v) h1 (by omega) h2 h3
                         simp_all [resVal]; omega)
                    skip)
                  skip)
              · try exact Bool.noConfusion h12
                all_goals try simp only [decide_eq_true_eq, decide_eq_false_iff_not, beq_iff_eq, beq_eq_false_iff_ne, bne_iff_ne, bne_eq_false_iff_eq, Bool.not_eq_true', Bool.not_eq_false', ne_eq, Int.not_lt, Int.not_le, ge_iff_le, gt_iff_lt] at h12
                all_goals (
                  refine HC_skip ?_
                  refine HQ_then ?_
                  refine hK7 _ _ _ _ ?_; clear hK7 K7
                  refine HC_seq fun K14 hK14 => ?_
                  refine HC_region ?_
                  all_goals refine HL_r rfl rfl rfl rfl (R_move rfl) ?_
                  all_goals refine HL_r rfl rfl rfl rfl (R_move rfl) ?_
                  all_goals refine HL_r rfl rfl rfl rfl (R_move rfl) ?_
                  all_goals refine HL_callP rfl rfl rfl (enters_of Try.func16 (by kernel_rfl) rfl) (Q_leg ..) ?_
                  all_goals refine HL_r rfl rfl rfl rfl (R_assign rfl) ?_
                  all_goals refine HL_nil ?_
                  all_goals (
                    refine HQ_then ?_
                    refine hK14 _ _ _ _ ?_; clear hK14 K14
                    refine HC_seq fun K15 hK15 => ?_
                    refine HC_region ?_
                    all_goals refine HL_r rfl rfl rfl rfl (R_move rfl) ?_
                    all_goals refine HL_r rfl rfl rfl rfl (R_move rfl) ?_
                    all_goals refine HL_r rfl rfl rfl rfl (R_move rfl) ?_
                    all_goals refine HL_callP rfl rfl rfl (enters_of Try.func16 (by kernel_rfl) rfl) (Q_leg ..) ?_
                    all_goals refine HL_r rfl rfl rfl rfl (R_assign rfl) ?_
                    all_goals refine HL_nil ?_
                    all_goals (
                      refine HQ_then ?_
                      refine hK15 _ _ _ _ ?_; clear hK15 K15
                      refine HC_seq fun K16 hK16 => ?_
                      refine HC_region ?_
                      all_goals refine HL_r rfl rfl rfl rfl (R_move rfl) ?_
                      all_goals refine HL_r rfl rfl rfl rfl (R_move rfl) ?_
                      all_goals refine HL_r rfl rfl rfl rfl (R_move rfl) ?_
                      all_goals refine HL_callP rfl rfl rfl (enters_of Try.func16 (by kernel_rfl) rfl) (Q_leg ..) ?_
                      all_goals refine HL_r rfl rfl rfl rfl (R_assign rfl) ?_
                      all_goals refine HL_nil ?_
                      all_goals (
                        refine HQ_then ?_
                        refine hK16 _ _ _ _ ?_; clear hK16 K16
                        refine HC_seq fun K17 hK17 => ?_
                        refine HC_region ?_
                        all_goals refine HL_r rfl rfl rfl rfl (R_move rfl) ?_
                        all_goals refine HL_r rfl rfl rfl rfl (R_pure rfl rfl rfl) ?_
                        all_goals refine HL_r rfl rfl rfl rfl (R_move rfl) ?_
                        all_goals first
                          | (refine HL_r rfl rfl rfl rfl (R_move rfl) ?_)
                          | (refine HL_skip rfl rfl rfl ?_)
                          | (refine HL_case 42 rfl (fun hb18 => ?_) (fun hb18 => ?_) <;> (try simp only [decide_eq_true_eq, decide_eq_false_iff_not, beq_iff_eq, beq_eq_false_iff_ne, bne_iff_ne, bne_eq_false_iff_eq, Bool.not_eq_true', Bool.not_eq_false', ne_eq, Int.not_lt, Int.not_le, ge_iff_le, gt_iff_lt] at hb18) <;> first | (refine HL_r rfl rfl rfl rfl (R_move rfl) ?_) | (refine HL_skip rfl rfl rfl ?_))
                        all_goals first
                          | (refine HL_r rfl rfl rfl rfl (R_pure rfl rfl rfl) ?_)
                          | (refine HL_skip rfl rfl rfl ?_)
                          | (refine HL_case 42 rfl (fun hb19 => ?_) (fun hb19 => ?_) <;> (try simp only [decide_eq_true_eq, decide_eq_false_iff_not, beq_iff_eq, beq_eq_false_iff_ne, bne_iff_ne, bne_eq_false_iff_eq, Bool.not_eq_true', Bool.not_eq_false', ne_eq, Int.not_lt, Int.not_le, ge_iff_le, gt_iff_lt] at hb19) <;> first | (refine HL_r rfl rfl rfl rfl (R_pure rfl rfl rfl) ?_) | (refine HL_skip rfl rfl rfl ?_))
                        all_goals first
                          | (refine HL_r rfl rfl rfl rfl (R_pickT rfl rfl) ?_)
                          | (refine HL_r rfl rfl rfl rfl (R_pickF rfl rfl) ?_)
                        all_goals refine HL_r rfl rfl rfl rfl (R_move rfl) ?_
                        all_goals first
                          | (refine HL_r rfl rfl rfl rfl (R_move rfl) ?_)
                          | (refine HL_skip rfl rfl rfl ?_)
                          | (refine HL_case 46 rfl (fun hb20 => ?_) (fun hb20 => ?_) <;> (try simp only [decide_eq_true_eq, decide_eq_false_iff_not, beq_iff_eq, beq_eq_false_iff_ne, bne_iff_ne, bne_eq_false_iff_eq, Bool.not_eq_true', Bool.not_eq_false', ne_eq, Int.not_lt, Int.not_le, ge_iff_le, gt_iff_lt] at hb20) <;> first | (refine HL_r rfl rfl rfl rfl (R_move rfl) ?_) | (refine HL_skip rfl rfl rfl ?_))
                        all_goals first
                          | (refine HL_r rfl rfl rfl rfl (R_pure rfl rfl rfl) ?_)
                          | (refine HL_skip rfl rfl rfl ?_)
                          | (refine HL_case 46 rfl (fun hb21 => ?_) (fun hb21 => ?_) <;> (try simp only [decide_eq_true_eq, decide_eq_false_iff_not, beq_iff_eq, beq_eq_false_iff_ne, bne_iff_ne, bne_eq_false_iff_eq, Bool.not_eq_true', Bool.not_eq_false', ne_eq, Int.not_lt, Int.not_le, ge_iff_le, gt_iff_lt] at hb21) <;> first | (refine HL_r rfl rfl rfl rfl (R_pure rfl rfl rfl) ?_) | (refine HL_skip rfl rfl rfl ?_))
                        all_goals first
                          | (refine HL_r rfl rfl rfl rfl (R_pickT rfl rfl) ?_)
                          | (refine HL_r rfl rfl rfl rfl (R_pickF rfl rfl) ?_)
                        all_goals refine HL_as (show _ = Value.bool (lateB k) from by unfold lateB; first | (simp [*]; done) | (simp_all; done)) ?_
                        all_goals refine HL_r rfl rfl rfl rfl (R_assign rfl) ?_
                        all_goals refine HL_nil ?_
                        all_goals (
                          refine HQ_then ?_
                          refine hK17 _ _ _ _ ?_; clear hK17 K17
                          refine HC_seq fun K22 hK22 => ?_
                          refine HC_region ?_
                          all_goals refine HL_r rfl rfl rfl rfl (R_move rfl) ?_
                          all_goals refine HL_r rfl rfl rfl rfl (R_move rfl) ?_
                          all_goals first
                            | (refine HL_r rfl rfl rfl rfl (R_move rfl) ?_)
                            | (refine HL_skip rfl rfl rfl ?_)
                            | (refine HL_case 51 rfl (fun hb23 => ?_) (fun hb23 => ?_) <;> (try simp only [decide_eq_true_eq, decide_eq_false_iff_not, beq_iff_eq, beq_eq_false_iff_ne, bne_iff_ne, bne_eq_false_iff_eq, Bool.not_eq_true', Bool.not_eq_false', ne_eq, Int.not_lt, Int.not_le, ge_iff_le, gt_iff_lt] at hb23) <;> first | (refine HL_r rfl rfl rfl rfl (R_move rfl) ?_) | (refine HL_skip rfl rfl rfl ?_))
                          all_goals first
                            | (refine HL_r rfl rfl rfl rfl (R_pure rfl rfl rfl) ?_)
                            | (refine HL_skip rfl rfl rfl ?_)
                            | (refine HL_case 51 rfl (fun hb24 => ?_) (fun hb24 => ?_) <;> (try simp only [decide_eq_true_eq, decide_eq_false_iff_not, beq_iff_eq, beq_eq_false_iff_ne, bne_iff_ne, bne_eq_false_iff_eq, Bool.not_eq_true', Bool.not_eq_false', ne_eq, Int.not_lt, Int.not_le, ge_iff_le, gt_iff_lt] at hb24) <;> first | (refine HL_r rfl rfl rfl rfl (R_pure rfl rfl rfl) ?_) | (refine HL_skip rfl rfl rfl ?_))
                          all_goals first
                            | (refine HL_r rfl rfl rfl rfl (R_move rfl) ?_)
                            | (refine HL_skip rfl rfl rfl ?_)
                            | (refine HL_case 51 rfl (fun hb25 => ?_) (fun hb25 => ?_) <;> (try simp only [decide_eq_true_eq, decide_eq_false_iff_not, beq_iff_eq, beq_eq_false_iff_ne, bne_iff_ne, bne_eq_false_iff_eq, Bool.not_eq_true', Bool.not_eq_false', ne_eq, Int.not_lt, Int.not_le, ge_iff_le, gt_iff_lt] at hb25) <;> first | (refine HL_r rfl rfl rfl rfl (R_move rfl) ?_) | (refine HL_skip rfl rfl rfl ?_))
                          all_goals first
                            | (refine HL_r rfl rfl rfl rfl (R_move rfl) ?_)
                            | (refine HL_skip rfl rfl rfl ?_)
                            | (refine HL_case 54 rfl (fun hb26 => ?_) (fun hb26 => ?_) <;> (try simp only [decide_eq_true_eq, decide_eq_false_iff_not, beq_iff_eq, beq_eq_false_iff_ne, bne_iff_ne, bne_eq_false_iff_eq, Bool.not_eq_true', Bool.not_eq_false', ne_eq, Int.not_lt, Int.not_le, ge_iff_le, gt_iff_lt] at hb26) <;> first | (refine HL_r rfl rfl rfl rfl (R_move rfl) ?_) | (refine HL_skip rfl rfl rfl ?_))
                          all_goals first
                            | (refine HL_r rfl rfl rfl rfl (R_pure rfl rfl rfl) ?_)
                            | (refine HL_skip rfl rfl rfl ?_)
                            | (refine HL_case 54 rfl (fun hb27 => ?_) (fun hb27 => ?_) <;> (try simp only [decide_eq_true_eq, decide_eq_false_iff_not, beq_iff_eq, beq_eq_false_iff_ne, bne_iff_ne, bne_eq_false_iff_eq, Bool.not_eq_true', Bool.not_eq_false', ne_eq, Int.not_lt, Int.not_le, ge_iff_le, gt_iff_lt] at hb27) <;> first | (refine HL_r rfl rfl rfl rfl (R_pure rfl rfl rfl) ?_) | (refine HL_skip rfl rfl rfl ?_))
                          all_goals first
                            | (refine HL_r rfl rfl rfl rfl (R_pickT rfl rfl) ?_)
                            | (refine HL_r rfl rfl rfl rfl (R_pickF rfl rfl) ?_)
                            | (refine HL_skip rfl rfl rfl ?_)
                            | (refine HL_case 51 rfl (fun hb28 => ?_) (fun hb28 => ?_) <;> (try simp only [decide_eq_true_eq, decide_eq_false_iff_not, beq_iff_eq, beq_eq_false_iff_ne, bne_iff_ne, bne_eq_false_iff_eq, Bool.not_eq_true', Bool.not_eq_false', ne_eq, Int.not_lt, Int.not_le, ge_iff_le, gt_iff_lt] at hb28) <;> first | (refine HL_r rfl rfl rfl rfl (R_pickT rfl rfl) ?_) | (refine HL_r rfl rfl rfl rfl (R_pickF rfl rfl) ?_) | (refine HL_skip rfl rfl rfl ?_))
                          all_goals first
                            | (refine HL_r rfl rfl rfl rfl (R_move rfl) ?_)
                            | (refine HL_skip rfl rfl rfl ?_)
                            | (refine HL_case 51 rfl (fun hb29 => ?_) (fun hb29 => ?_) <;> (try simp only [decide_eq_true_eq, decide_eq_false_iff_not, beq_iff_eq, beq_eq_false_iff_ne, bne_iff_ne, bne_eq_false_iff_eq, Bool.not_eq_true', Bool.not_eq_false', ne_eq, Int.not_lt, Int.not_le, ge_iff_le, gt_iff_lt] at hb29) <;> first | (refine HL_r rfl rfl rfl rfl (R_move rfl) ?_) | (refine HL_skip rfl rfl rfl ?_))
                          all_goals first
                            | (refine HL_r rfl rfl rfl rfl (R_move rfl) ?_)
                            | (refine HL_skip rfl rfl rfl ?_)
                            | (refine HL_case 58 rfl (fun hb30 => ?_) (fun hb30 => ?_) <;> (try simp only [decide_eq_true_eq, decide_eq_false_iff_not, beq_iff_eq, beq_eq_false_iff_ne, bne_iff_ne, bne_eq_false_iff_eq, Bool.not_eq_true', Bool.not_eq_false', ne_eq, Int.not_lt, Int.not_le, ge_iff_le, gt_iff_lt] at hb30) <;> first | (refine HL_r rfl rfl rfl rfl (R_move rfl) ?_) | (refine HL_skip rfl rfl rfl ?_))
                          all_goals first
                            | (refine HL_r rfl rfl rfl rfl (R_pickT rfl rfl) ?_)
                            | (refine HL_r rfl rfl rfl rfl (R_pickF rfl rfl) ?_)
                            | (refine HL_skip rfl rfl rfl ?_)
                            | (refine HL_case 51 rfl (fun hb31 => ?_) (fun hb31 => ?_) <;> (try simp only [decide_eq_true_eq, decide_eq_false_iff_not, beq_iff_eq, beq_eq_false_iff_ne, bne_iff_ne, bne_eq_false_iff_eq, Bool.not_eq_true', Bool.not_eq_false', ne_eq, Int.not_lt, Int.not_le, ge_iff_le, gt_iff_lt] at hb31) <;> first | (refine HL_r rfl rfl rfl rfl (R_pickT rfl rfl) ?_) | (refine HL_r rfl rfl rfl rfl (R_pickF rfl rfl) ?_) | (refine HL_skip rfl rfl rfl ?_))
                          all_goals first
                            | (refine HL_r rfl rfl rfl rfl (R_pickT rfl rfl) ?_)
                            | (refine HL_r rfl rfl rfl rfl (R_pickF rfl rfl) ?_)
                          all_goals refine HL_r rfl rfl rfl rfl (R_move rfl) ?_
                          all_goals first
                            | (refine HL_r rfl rfl rfl rfl (R_move rfl) ?_)
                            | (refine HL_skip rfl rfl rfl ?_)
                            | (refine HL_case 62 rfl (fun hb32 => ?_) (fun hb32 => ?_) <;> (try simp only [decide_eq_true_eq, decide_eq_false_iff_not, beq_iff_eq, beq_eq_false_iff_ne, bne_iff_ne, bne_eq_false_iff_eq, Bool.not_eq_true', Bool.not_eq_false', ne_eq, Int.not_lt, Int.not_le, ge_iff_le, gt_iff_lt] at hb32) <;> first | (refine HL_r rfl rfl rfl rfl (R_move rfl) ?_) | (refine HL_skip rfl rfl rfl ?_))
                          all_goals first
                            | (refine HL_r rfl rfl rfl rfl (R_pure rfl rfl rfl) ?_)
                            | (refine HL_skip rfl rfl rfl ?_)
                            | (refine HL_case 62 rfl (fun hb33 => ?_) (fun hb33 => ?_) <;> (try simp only [decide_eq_true_eq, decide_eq_false_iff_not, beq_iff_eq, beq_eq_false_iff_ne, bne_iff_ne, bne_eq_false_iff_eq, Bool.not_eq_true', Bool.not_eq_false', ne_eq, Int.not_lt, Int.not_le, ge_iff_le, gt_iff_lt] at hb33) <;> first | (refine HL_r rfl rfl rfl rfl (R_pure rfl rfl rfl) ?_) | (refine HL_skip rfl rfl rfl ?_))
                          all_goals first
                            | (refine HL_r rfl rfl rfl rfl (R_move rfl) ?_)
                            | (refine HL_skip rfl rfl rfl ?_)
                            | (refine HL_case 62 rfl (fun hb34 => ?_) (fun hb34 => ?_) <;> (try simp only [decide_eq_true_eq, decide_eq_false_iff_not, beq_iff_eq, beq_eq_false_iff_ne, bne_iff_ne, bne_eq_false_iff_eq, Bool.not_eq_true', Bool.not_eq_false', ne_eq, Int.not_lt, Int.not_le, ge_iff_le, gt_iff_lt] at hb34) <;> first | (refine HL_r rfl rfl rfl rfl (R_move rfl) ?_) | (refine HL_skip rfl rfl rfl ?_))
                          all_goals first
                            | (refine HL_r rfl rfl rfl rfl (R_move rfl) ?_)
                            | (refine HL_skip rfl rfl rfl ?_)
                            | (refine HL_case 65 rfl (fun hb35 => ?_) (fun hb35 => ?_) <;> (try simp only [decide_eq_true_eq, decide_eq_false_iff_not, beq_iff_eq, beq_eq_false_iff_ne, bne_iff_ne, bne_eq_false_iff_eq, Bool.not_eq_true', Bool.not_eq_false', ne_eq, Int.not_lt, Int.not_le, ge_iff_le, gt_iff_lt] at hb35) <;> first | (refine HL_r rfl rfl rfl rfl (R_move rfl) ?_) | (refine HL_skip rfl rfl rfl ?_))
                          all_goals first
                            | (refine HL_r rfl rfl rfl rfl (R_pure rfl rfl rfl) ?_)
                            | (refine HL_skip rfl rfl rfl ?_)
                            | (refine HL_case 65 rfl (fun hb36 => ?_) (fun hb36 => ?_) <;> (try simp only [decide_eq_true_eq, decide_eq_false_iff_not, beq_iff_eq, beq_eq_false_iff_ne, bne_iff_ne, bne_eq_false_iff_eq, Bool.not_eq_true', Bool.not_eq_false', ne_eq, Int.not_lt, Int.not_le, ge_iff_le, gt_iff_lt] at hb36) <;> first | (refine HL_r rfl rfl rfl rfl (R_pure rfl rfl rfl) ?_) | (refine HL_skip rfl rfl rfl ?_))
                          all_goals first
                            | (refine HL_r rfl rfl rfl rfl (R_pickT rfl rfl) ?_)
                            | (refine HL_r rfl rfl rfl rfl (R_pickF rfl rfl) ?_)
                            | (refine HL_skip rfl rfl rfl ?_)
                            | (refine HL_case 62 rfl (fun hb37 => ?_) (fun hb37 => ?_) <;> (try simp only [decide_eq_true_eq, decide_eq_false_iff_not, beq_iff_eq, beq_eq_false_iff_ne, bne_iff_ne, bne_eq_false_iff_eq, Bool.not_eq_true', Bool.not_eq_false', ne_eq, Int.not_lt, Int.not_le, ge_iff_le, gt_iff_lt] at hb37) <;> first | (refine HL_r rfl rfl rfl rfl (R_pickT rfl rfl) ?_) | (refine HL_r rfl rfl rfl rfl (R_pickF rfl rfl) ?_) | (refine HL_skip rfl rfl rfl ?_))
                          all_goals first
                            | (refine HL_r rfl rfl rfl rfl (R_move rfl) ?_)
                            | (refine HL_skip rfl rfl rfl ?_)
                            | (refine HL_case 62 rfl (fun hb38 => ?_) (fun hb38 => ?_) <;> (try simp only [decide_eq_true_eq, decide_eq_false_iff_not, beq_iff_eq, beq_eq_false_iff_ne, bne_iff_ne, bne_eq_false_iff_eq, Bool.not_eq_true', Bool.not_eq_false', ne_eq, Int.not_lt, Int.not_le, ge_iff_le, gt_iff_lt] at hb38) <;> first | (refine HL_r rfl rfl rfl rfl (R_move rfl) ?_) | (refine HL_skip rfl rfl rfl ?_))
                          all_goals first
                            | (refine HL_r rfl rfl rfl rfl (R_move rfl) ?_)
                            | (refine HL_skip rfl rfl rfl ?_)
                            | (refine HL_case 69 rfl (fun hb39 => ?_) (fun hb39 => ?_) <;> (try simp only [decide_eq_true_eq, decide_eq_false_iff_not, beq_iff_eq, beq_eq_false_iff_ne, bne_iff_ne, bne_eq_false_iff_eq, Bool.not_eq_true', Bool.not_eq_false', ne_eq, Int.not_lt, Int.not_le, ge_iff_le, gt_iff_lt] at hb39) <;> first | (refine HL_r rfl rfl rfl rfl (R_move rfl) ?_) | (refine HL_skip rfl rfl rfl ?_))
                          all_goals first
                            | (refine HL_r rfl rfl rfl rfl (R_pure rfl rfl rfl) ?_)
                            | (refine HL_skip rfl rfl rfl ?_)
                            | (refine HL_case 69 rfl (fun hb40 => ?_) (fun hb40 => ?_) <;> (try simp only [decide_eq_true_eq, decide_eq_false_iff_not, beq_iff_eq, beq_eq_false_iff_ne, bne_iff_ne, bne_eq_false_iff_eq, Bool.not_eq_true', Bool.not_eq_false', ne_eq, Int.not_lt, Int.not_le, ge_iff_le, gt_iff_lt] at hb40) <;> first | (refine HL_r rfl rfl rfl rfl (R_pure rfl rfl rfl) ?_) | (refine HL_skip rfl rfl rfl ?_))
                          all_goals first
                            | (refine HL_r rfl rfl rfl rfl (R_pickT rfl rfl) ?_)
                            | (refine HL_r rfl rfl rfl rfl (R_pickF rfl rfl) ?_)
                            | (refine HL_skip rfl rfl rfl ?_)
                            | (refine HL_case 62 rfl (fun hb41 => ?_) (fun hb41 => ?_) <;> (try simp only [decide_eq_true_eq, decide_eq_false_iff_not, beq_iff_eq, beq_eq_false_iff_ne, bne_iff_ne, bne_eq_false_iff_eq, Bool.not_eq_true', Bool.not_eq_false', ne_eq, Int.not_lt, Int.not_le, ge_iff_le, gt_iff_lt] at hb41) <;> first | (refine HL_r rfl rfl rfl rfl (R_pickT rfl rfl) ?_) | (refine HL_r rfl rfl rfl rfl (R_pickF rfl rfl) ?_) | (refine HL_skip rfl rfl rfl ?_))
                          all_goals first
                            | (refine HL_r rfl rfl rfl rfl (R_move rfl) ?_)
                            | (refine HL_skip rfl rfl rfl ?_)
                            | (refine HL_case 62 rfl (fun hb42 => ?_) (fun hb42 => ?_) <;> (try simp only [decide_eq_true_eq, decide_eq_false_iff_not, beq_iff_eq, beq_eq_false_iff_ne, bne_iff_ne, bne_eq_false_iff_eq, Bool.not_eq_true', Bool.not_eq_false', ne_eq, Int.not_lt, Int.not_le, ge_iff_le, gt_iff_lt] at hb42) <;> first | (refine HL_r rfl rfl rfl rfl (R_move rfl) ?_) | (refine HL_skip rfl rfl rfl ?_))
                          all_goals first
                            | (refine HL_r rfl rfl rfl rfl (R_move rfl) ?_)
                            | (refine HL_skip rfl rfl rfl ?_)
                            | (refine HL_case 73 rfl (fun hb43 => ?_) (fun hb43 => ?_) <;> (try simp only [decide_eq_true_eq, decide_eq_false_iff_not, beq_iff_eq, beq_eq_false_iff_ne, bne_iff_ne, bne_eq_false_iff_eq, Bool.not_eq_true', Bool.not_eq_false', ne_eq, Int.not_lt, Int.not_le, ge_iff_le, gt_iff_lt] at hb43) <;> first | (refine HL_r rfl rfl rfl rfl (R_move rfl) ?_) | (refine HL_skip rfl rfl rfl ?_))
                          all_goals first
                            | (refine HL_r rfl rfl rfl rfl (R_pickT rfl rfl) ?_)
                            | (refine HL_r rfl rfl rfl rfl (R_pickF rfl rfl) ?_)
                            | (refine HL_skip rfl rfl rfl ?_)
                            | (refine HL_case 62 rfl (fun hb44 => ?_) (fun hb44 => ?_) <;> (try simp only [decide_eq_true_eq, decide_eq_false_iff_not, beq_iff_eq, beq_eq_false_iff_ne, bne_iff_ne, bne_eq_false_iff_eq, Bool.not_eq_true', Bool.not_eq_false', ne_eq, Int.not_lt, Int.not_le, ge_iff_le, gt_iff_lt] at hb44) <;> first | (refine HL_r rfl rfl rfl rfl (R_pickT rfl rfl) ?_) | (refine HL_r rfl rfl rfl rfl (R_pickF rfl rfl) ?_) | (refine HL_skip rfl rfl rfl ?_))
                          all_goals first
                            | (refine HL_r rfl rfl rfl rfl (R_pickT rfl rfl) ?_)
                            | (refine HL_r rfl rfl rfl rfl (R_pickF rfl rfl) ?_)
                          all_goals refine HL_r rfl rfl rfl rfl (R_assign rfl) ?_
                          all_goals refine HL_nil ?_
                          all_goals (
                            refine HQ_then ?_
                            refine hK22 _ _ _ _ ?_; clear hK22 K22
                            refine HC_ret ?_
                            refine HQ_post rfl rfl (.cons (res_tmp rfl) .nil) (fun w1 hs1 => ?_)
                            refine ⟨?_, hs1.keep⟩
                            first
                              | rfl
                              | (have g1 := fun h1 h2 => grow (a := a) (b := b) (c := c) (k := k) (v := v) (by omega) (by omega) h1 h2
                                 have g2 := fun h1 h2 h3 => late (a := a) (b := b) (k := k) (v := v) h1 (by omega) h2 h3
                                 simp_all [resVal]; done)
                              | (have g1 := fun h1 h2 => grow (a := a) (b := b) (c := c) (k := k) (v := v) (by omega) (by omega) h1 h2
                                 have g2 := fun h1 h2 h3 => late (a := a) (b := b) (k := k) (v := v) h1 (by omega) h2 h3
                                 simp_all [resVal]; omega)
                            skip)
                          skip)
                        skip)
                      skip)
                    skip)
                  skip)
              skip)
            skip)
        skip)
      skip)
    skip)
end Go.Proofs.Ytiamhecfkcgldaa
