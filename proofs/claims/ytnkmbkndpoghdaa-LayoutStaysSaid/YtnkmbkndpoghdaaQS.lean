import Derived.Test.YtnkmbkndpoghdaaQSe
namespace Go.Proofs.Ytnkmbkndpoghdaa
set_option linter.all false
open Go.SL Go.RowKit Go.Shelf
theorem wq_eq {R : List (Nat × Obj)} {p : List AcE × Int} (x : StRes R p) (h : x.err = 0) : p = (x.s.er, 0) := x.eq.symm.trans (by rw [h])
/-! ### rescriptref22.SameAcct; the law of what stays -/
theorem acct_eq' (a b : AcL) : a.er = b.er ↔ a.addr = b.addr ∧ a.nonce = b.nonce ∧ a.bal = b.bal ∧ a.code = b.code ∧ a.slots = b.slots := by
  unfold AcL.er
  simp
theorem same_no {a b : AcL} (h : ¬ a.addr = b.addr ∨ ¬ a.nonce = b.nonce ∨ ¬ a.bal = b.bal ∨ ¬ a.code = b.code ∨ ¬ a.slots.length = b.slots.length) : ¬ a.er = b.er := fun e => by
  obtain ⟨h1, h2, h3, h4, h5⟩ := (acct_eq' a b).1 e
  rcases h with h | h | h | h | h
  · exact h h1
  · exact h h2
  · exact h h3
  · exact h h4
  · exact h (by rw [h5])
set_option maxRecDepth 10000 in
theorem S_SameAcct {R : List (Nat × Obj)} {a b : AcL} (ha : a.In R) (hb : b.In R) : PureR Try.prog 9 [a.val, b.val].toArray (.bool (decide (a.er = b.er))) R := by
  have hl : a.slots.length ≤ 9223372036854775807 := ha.len
  have hl2 : b.slots.length ≤ 9223372036854775807 := hb.len
  have h1 := ha.seg
  have h2 := hb.seg
  refine pureR_of_HC Try.func9 rfl rfl fun w => ?_
  refine HC_seq fun K1 hK1 => ?_
  refine HC_region ?_
  all_goals refine HL_box (cs := a.cells.toArray) rfl rfl rfl rfl fun ra => ?_
  all_goals refine HL_box (cs := b.cells.toArray) rfl rfl rfl rfl fun rb => ?_
  all_goals refine HL_r rfl rfl rfl rfl (R_assign rfl) ?_
  all_goals refine HL_nil ?_
  all_goals (
    refine HQ_then ?_
    refine hK1 _ _ _ _ ?_; clear hK1 K1
    refine HC_seq fun K2 hK2 => ?_
    refine HC_seq fun K3 hK3 => ?_
    refine HC_region ?_
    all_goals refine HL_r rfl rfl rfl rfl (R_fieldAddr rfl rfl (by first | (simp only [Nat.zero_add, Nat.reduceAdd, Nat.reduceMul, Nat.zero_mul, Nat.mul_one, Nat.add_zero]; exact rfl) | exact rfl)) ?_
    all_goals (refine HL_r rfl rfl rfl rfl (R_load rfl (known_L (k := 1) rfl) rfl rfl) ?_)
    all_goals refine HL_r rfl rfl rfl rfl (R_fieldAddr rfl rfl (by first | (simp only [Nat.zero_add, Nat.reduceAdd, Nat.reduceMul, Nat.zero_mul, Nat.mul_one, Nat.add_zero]; exact rfl) | exact rfl)) ?_
    all_goals (refine HL_r rfl rfl rfl rfl (R_load rfl (known_L (k := 0) rfl) rfl rfl) ?_)
    all_goals refine HL_r rfl rfl rfl rfl (R_strNe rfl rfl) ?_
    all_goals refine HL_r rfl rfl rfl rfl (R_move rfl) ?_
    all_goals (refine HL_case 11 rfl (fun hb4 => ?_) (fun hb4 => ?_) <;> (try simp only [decide_eq_true_eq, decide_eq_false_iff_not, beq_iff_eq, beq_eq_false_iff_ne, bne_iff_ne, bne_eq_false_iff_eq, Bool.not_eq_true', Bool.not_eq_false', ne_eq, Int.not_lt, Int.not_le, ge_iff_le, gt_iff_lt] at hb4) <;> first | (refine HL_r rfl rfl rfl rfl (R_fieldAddr rfl rfl (by first | (simp only [Nat.zero_add, Nat.reduceAdd, Nat.reduceMul, Nat.zero_mul, Nat.mul_one, Nat.add_zero]; exact rfl) | exact rfl)) ?_) | (refine HL_skip rfl rfl rfl ?_))
    all_goals first
      | (refine HL_r rfl rfl rfl rfl (R_load rfl (known_L (k := 1) rfl) rfl rfl) ?_)
      | (refine HL_skip rfl rfl rfl ?_)
    all_goals first
      | (refine HL_r rfl rfl rfl rfl (R_fieldAddr rfl rfl (by first | (simp only [Nat.zero_add, Nat.reduceAdd, Nat.reduceMul, Nat.zero_mul, Nat.mul_one, Nat.add_zero]; exact rfl) | exact rfl)) ?_)
      | (refine HL_skip rfl rfl rfl ?_)
    all_goals first
      | (refine HL_r rfl rfl rfl rfl (R_load rfl (known_L (k := 0) rfl) rfl rfl) ?_)
      | (refine HL_skip rfl rfl rfl ?_)
    all_goals first
      | (refine HL_r rfl rfl rfl rfl (R_pure rfl rfl rfl) ?_)
      | (refine HL_skip rfl rfl rfl ?_)
    all_goals first | (refine HL_as (congrArg (fun b => Value.bool (!b)) (eqU a.nonce b.nonce)) ?_) | skip
    all_goals first
      | (refine HL_r rfl rfl rfl rfl (R_pickT rfl rfl) ?_)
      | (refine HL_r rfl rfl rfl rfl (R_pickF rfl rfl) ?_)
    all_goals refine HL_r rfl rfl rfl rfl (R_move rfl) ?_
    all_goals first
      | (refine HL_skip rfl rfl rfl ?_)
      | (refine HL_case 18 rfl (fun hb9 => ?_) (fun hb9 => ?_) <;> (try simp only [decide_eq_true_eq, decide_eq_false_iff_not, beq_iff_eq, beq_eq_false_iff_ne, bne_iff_ne, bne_eq_false_iff_eq, Bool.not_eq_true', Bool.not_eq_false', ne_eq, Int.not_lt, Int.not_le, ge_iff_le, gt_iff_lt] at hb9) <;> first | (refine HL_r rfl rfl rfl rfl (R_fieldAddr rfl rfl (by first | (simp only [Nat.zero_add, Nat.reduceAdd, Nat.reduceMul, Nat.zero_mul, Nat.mul_one, Nat.add_zero]; exact rfl) | exact rfl)) ?_) | (refine HL_skip rfl rfl rfl ?_))
    all_goals first
      | (refine HL_r rfl rfl rfl rfl (R_loadA (vs := [_, _, _, _]) rfl (known_L (k := 1) rfl) rfl rfl rfl rfl) ?_)
      | (refine HL_skip rfl rfl rfl ?_)
    all_goals first
      | (refine HL_r rfl rfl rfl rfl (R_fieldAddr rfl rfl (by first | (simp only [Nat.zero_add, Nat.reduceAdd, Nat.reduceMul, Nat.zero_mul, Nat.mul_one, Nat.add_zero]; exact rfl) | exact rfl)) ?_)
      | (refine HL_skip rfl rfl rfl ?_)
    all_goals first
      | (refine HL_r rfl rfl rfl rfl (R_loadA (vs := [_, _, _, _]) rfl (known_L (k := 0) rfl) rfl rfl rfl rfl) ?_)
      | (refine HL_skip rfl rfl rfl ?_)
    all_goals first
      | (refine HL_r rfl rfl rfl rfl (R_neArr rfl rfl rfl rfl rfl (by kernel_rfl) rfl rfl rfl rfl) ?_)
      | (refine HL_skip rfl rfl rfl ?_)
    all_goals first | (refine HL_as (congrArg (fun b => Value.bool (!b)) (eqW a.bal b.bal)) ?_) | skip
    all_goals first
      | (refine HL_r rfl rfl rfl rfl (R_pickT rfl rfl) ?_)
      | (refine HL_r rfl rfl rfl rfl (R_pickF rfl rfl) ?_)
    all_goals refine HL_r rfl rfl rfl rfl (R_move rfl) ?_
    all_goals first
      | (refine HL_skip rfl rfl rfl ?_)
      | (refine HL_case 25 rfl (fun hb14 => ?_) (fun hb14 => ?_) <;> (try simp only [decide_eq_true_eq, decide_eq_false_iff_not, beq_iff_eq, beq_eq_false_iff_ne, bne_iff_ne, bne_eq_false_iff_eq, Bool.not_eq_true', Bool.not_eq_false', ne_eq, Int.not_lt, Int.not_le, ge_iff_le, gt_iff_lt] at hb14) <;> first | (refine HL_r rfl rfl rfl rfl (R_fieldAddr rfl rfl (by first | (simp only [Nat.zero_add, Nat.reduceAdd, Nat.reduceMul, Nat.zero_mul, Nat.mul_one, Nat.add_zero]; exact rfl) | exact rfl)) ?_) | (refine HL_skip rfl rfl rfl ?_))
    all_goals first
      | (refine HL_r rfl rfl rfl rfl (R_load rfl (known_L (k := 1) rfl) rfl rfl) ?_)
      | (refine HL_skip rfl rfl rfl ?_)
    all_goals first
      | (refine HL_r rfl rfl rfl rfl (R_fieldAddr rfl rfl (by first | (simp only [Nat.zero_add, Nat.reduceAdd, Nat.reduceMul, Nat.zero_mul, Nat.mul_one, Nat.add_zero]; exact rfl) | exact rfl)) ?_)
      | (refine HL_skip rfl rfl rfl ?_)
    all_goals first
      | (refine HL_r rfl rfl rfl rfl (R_load rfl (known_L (k := 0) rfl) rfl rfl) ?_)
      | (refine HL_skip rfl rfl rfl ?_)
    all_goals first
      | (refine HL_r rfl rfl rfl rfl (R_strNe rfl rfl) ?_)
      | (refine HL_skip rfl rfl rfl ?_)
    all_goals first
      | (refine HL_r rfl rfl rfl rfl (R_pickT rfl rfl) ?_)
      | (refine HL_r rfl rfl rfl rfl (R_pickF rfl rfl) ?_)
    all_goals refine HL_r rfl rfl rfl rfl (R_move rfl) ?_
    all_goals first
      | (refine HL_skip rfl rfl rfl ?_)
      | (refine HL_case 32 rfl (fun hb19 => ?_) (fun hb19 => ?_) <;> (try simp only [decide_eq_true_eq, decide_eq_false_iff_not, beq_iff_eq, beq_eq_false_iff_ne, bne_iff_ne, bne_eq_false_iff_eq, Bool.not_eq_true', Bool.not_eq_false', ne_eq, Int.not_lt, Int.not_le, ge_iff_le, gt_iff_lt] at hb19) <;> first | (refine HL_r rfl rfl rfl rfl (R_fieldAddr rfl rfl (by first | (simp only [Nat.zero_add, Nat.reduceAdd, Nat.reduceMul, Nat.zero_mul, Nat.mul_one, Nat.add_zero]; exact rfl) | exact rfl)) ?_) | (refine HL_skip rfl rfl rfl ?_))
    all_goals first
      | (refine HL_r rfl rfl rfl rfl (R_load rfl (known_L (k := 1) rfl) rfl rfl) ?_)
      | (refine HL_skip rfl rfl rfl ?_)
    all_goals first
      | (refine HL_r rfl rfl rfl rfl (R_lenPl rfl h1 rfl) ?_)
      | (refine HL_skip rfl rfl rfl ?_)
    all_goals first
      | (refine HL_r rfl rfl rfl rfl (R_fieldAddr rfl rfl (by first | (simp only [Nat.zero_add, Nat.reduceAdd, Nat.reduceMul, Nat.zero_mul, Nat.mul_one, Nat.add_zero]; exact rfl) | exact rfl)) ?_)
      | (refine HL_skip rfl rfl rfl ?_)
    all_goals first
      | (refine HL_r rfl rfl rfl rfl (R_load rfl (known_L (k := 0) rfl) rfl rfl) ?_)
      | (refine HL_skip rfl rfl rfl ?_)
    all_goals first
      | (refine HL_r rfl rfl rfl rfl (R_lenPl rfl h2 rfl) ?_)
      | (refine HL_skip rfl rfl rfl ?_)
    all_goals first
      | (refine HL_r rfl rfl rfl rfl (R_pure rfl rfl rfl) ?_)
      | (refine HL_skip rfl rfl rfl ?_)
    all_goals first
      | (refine HL_r rfl rfl rfl rfl (R_pickT rfl rfl) ?_)
      | (refine HL_r rfl rfl rfl rfl (R_pickF rfl rfl) ?_)
    all_goals refine HL_nil ?_
    all_goals (
      refine HQ_then ?_
      refine hK3 _ _ _ _ ?_; clear hK3 K3
      refine HC_cond rfl (fun h26 => ?_) (fun h26 => ?_)
      · try exact Bool.noConfusion h26
        all_goals try simp only [decide_eq_true_eq, decide_eq_false_iff_not, beq_iff_eq, beq_eq_false_iff_ne, bne_iff_ne, bne_eq_false_iff_eq, Bool.not_eq_true', Bool.not_eq_false', ne_eq, Int.not_lt, Int.not_le, ge_iff_le, gt_iff_lt] at h26
        all_goals (
          refine HC_seq fun K27 hK27 => ?_
          refine HC_region ?_
          all_goals refine HL_r rfl rfl rfl rfl (R_assign rfl) ?_
          all_goals refine HL_nil ?_
          all_goals (
            refine HQ_then ?_
            refine hK27 _ _ _ _ ?_; clear hK27 K27
            refine HC_ret ?_
            refine HQ_thenR ?_; clear hK2 K2
            refine HQ_post rfl rfl (.cons (res_tmp rfl) .nil) (fun w1 hs1 => ?_)
            refine ⟨?_, hs1.keep⟩
            first
              | (rw [decide_eq_false (show ¬ a.er = b.er from fun e => lst_ne hx hy (by simp_all) ((acct_eq' a b).1 e).2.2.2.2)]; rfl)
              | (rw [decide_eq_true ((acct_eq' a b).2 ⟨hflat.1, hflat.2.1, hflat.2.2.1, hflat.2.2.2, lst_eq hll (by omega) hinv⟩)]; rfl)
              | (rw [decide_eq_false (same_no (.inl (by assumption)))]; rfl)
              | (rw [decide_eq_false (same_no (.inr (.inl (by assumption))))]; rfl)
              | (rw [decide_eq_false (same_no (.inr (.inr (.inl (by assumption)))))]; rfl)
              | (rw [decide_eq_false (same_no (.inr (.inr (.inr (.inl (by assumption))))))]; rfl)
              | (rw [decide_eq_false (same_no (.inr (.inr (.inr (.inr (by omega))))))]; rfl)
              | trace_state
            skip)
          skip)
      · try exact Bool.noConfusion h26
        all_goals try simp only [decide_eq_true_eq, decide_eq_false_iff_not, beq_iff_eq, beq_eq_false_iff_ne, bne_iff_ne, bne_eq_false_iff_eq, Bool.not_eq_true', Bool.not_eq_false', ne_eq, Int.not_lt, Int.not_le, ge_iff_le, gt_iff_lt] at h26
        all_goals (
          refine HC_skip ?_
          refine HQ_then ?_
          refine hK2 _ _ _ _ ?_; clear hK2 K2
          refine HC_seq fun K28 hK28 => ?_
          refine HC_seq fun K29 hK29 => ?_
          refine HC_region ?_
          all_goals refine HL_r rfl rfl rfl rfl (R_assign rfl) ?_
          all_goals refine HL_nil ?_
          all_goals (
            refine HQ_then ?_
            refine hK29 _ _ _ _ ?_; clear hK29 K29
            refine HC_block ?_
            have hll : a.slots.length = b.slots.length := by omega
            have hflat : a.addr = b.addr ∧ a.nonce = b.nonce ∧ a.bal = b.bal ∧ a.code = b.code := by simp_all
            refine HC_loop (σ := Nat) (fun i => i ≤ a.slots.length ∧ ∀ j, j < i → a.slots[j]? = b.slots[j]?) (fun i => [(2, ptV ra 0), (3, ptV rb 0), (5, .int .i64 (i : Int))]) (fun _ => [(rb, .cells b.cells.toArray 37 (0, 0)), (ra, .cells a.cells.toArray 37 (0, 0))]) (fun _ _ _ => True) (fun i => a.slots.length - i) 0 ⟨by omega, fun j hj => absurd hj (by omega)⟩ (.cons rfl (.cons rfl (.cons rfl .nil))) (List.Sublist.refl _) (fun _ _ h => h) ?_
            rintro i ⟨hi1, hinv⟩
            refine HC_seq fun K30 hK30 => ?_
            refine HC_seq fun K31 hK31 => ?_
            refine HC_region ?_
            all_goals refine HL_r rfl rfl rfl rfl (R_move rfl) ?_
            all_goals refine HL_r rfl rfl rfl rfl (R_fieldAddr rfl rfl (by first | (simp only [Nat.zero_add, Nat.reduceAdd, Nat.reduceMul, Nat.zero_mul, Nat.mul_one, Nat.add_zero]; exact rfl) | exact rfl)) ?_
            all_goals (refine HL_r rfl rfl rfl rfl (R_load rfl (known_L (k := 1) rfl) rfl rfl) ?_)
            all_goals (refine HL_r rfl rfl rfl rfl (R_lenPl rfl h1 rfl) ?_)
            all_goals refine HL_r rfl rfl rfl rfl (R_pure rfl rfl rfl) ?_
            all_goals refine HL_nil ?_
            all_goals (
              refine HQ_then ?_
              refine hK31 _ _ _ _ ?_; clear hK31 K31
              refine HC_cond rfl (fun h32 => ?_) (fun h32 => ?_)
              · try exact Bool.noConfusion h32
                all_goals try simp only [decide_eq_true_eq, decide_eq_false_iff_not, beq_iff_eq, beq_eq_false_iff_ne, bne_iff_ne, bne_eq_false_iff_eq, Bool.not_eq_true', Bool.not_eq_false', ne_eq, Int.not_lt, Int.not_le, ge_iff_le, gt_iff_lt] at h32
                all_goals (
                  refine HC_skip ?_
                  refine HQ_then ?_
                  refine hK30 _ _ _ _ ?_; clear hK30 K30
                  refine HC_seq fun K33 hK33 => ?_
                  refine HC_block ?_
                  refine HC_seq fun K34 hK34 => ?_
                  obtain ⟨x, hx, hmx⟩ := getI (show i < a.slots.length by omega)
                  obtain ⟨y, hy, hmy⟩ := getI (show i < b.slots.length by omega)
                  refine HC_draw 11 (by kernel_rfl) (by kernel_rfl) ?_
                  all_goals refine HD_r rfl rfl rfl (R_fieldAddr rfl rfl (by first | (simp only [Nat.zero_add, Nat.reduceAdd, Nat.reduceMul, Nat.zero_mul, Nat.mul_one, Nat.add_zero]; exact rfl) | exact rfl)) ?_
                  all_goals (refine HD_r rfl rfl rfl (R_load rfl (known_L (k := 1) rfl) rfl rfl) ?_)
                  all_goals refine HD_r rfl rfl rfl (R_move rfl) ?_
                  all_goals refine HD_r rfl rfl rfl (R_indexPl (j := i) rfl h1 rfl rfl rfl (by first | rfl | omega) (by omega)) ?_
                  all_goals refine HD_r rfl rfl rfl (R_loadEl slC_len (fun q hq => Or.inr hq) rfl h1 hx rfl rfl) ?_
                  all_goals refine HD_r rfl rfl rfl (R_fieldAddr rfl rfl (by first | (simp only [Nat.zero_add, Nat.reduceAdd, Nat.reduceMul, Nat.zero_mul, Nat.mul_one, Nat.add_zero]; exact rfl) | exact rfl)) ?_
                  all_goals (refine HD_r rfl rfl rfl (R_load rfl (known_L (k := 0) rfl) rfl rfl) ?_)
                  all_goals refine HD_r rfl rfl rfl (R_move rfl) ?_
                  all_goals refine HD_r rfl rfl rfl (R_indexPl (j := i) rfl h2 rfl rfl rfl (by first | rfl | omega) (by omega)) ?_
                  all_goals refine HD_r rfl rfl rfl (R_loadEl slC_len (fun q hq => Or.inr hq) rfl h2 hy rfl rfl) ?_
                  all_goals refine HD_r rfl rfl rfl (R_neStr rfl rfl rfl (by kernel_rfl) (by kernel_rfl) (.scal (by decide) rfl rfl rfl rfl rfl (.scal (by decide) rfl rfl rfl rfl rfl .nil))) ?_; refine HD_as (congrArg (fun b => Value.bool (!b)) (slot_eq x y)) ?_
                  all_goals refine HD_end ?_
                  all_goals refine HL_nil ?_
                  all_goals (
                    refine HQ_then ?_
                    refine hK34 _ _ _ _ ?_; clear hK34 K34
                    refine HC_cond rfl (fun h35 => ?_) (fun h35 => ?_)
                    · try exact Bool.noConfusion h35
                      all_goals try simp only [decide_eq_true_eq, decide_eq_false_iff_not, beq_iff_eq, beq_eq_false_iff_ne, bne_iff_ne, bne_eq_false_iff_eq, Bool.not_eq_true', Bool.not_eq_false', ne_eq, Int.not_lt, Int.not_le, ge_iff_le, gt_iff_lt] at h35
                      all_goals (
                        refine HC_seq fun K36 hK36 => ?_
                        refine HC_region ?_
                        all_goals refine HL_r rfl rfl rfl rfl (R_assign rfl) ?_
                        all_goals refine HL_nil ?_
                        all_goals (
                          refine HQ_then ?_
                          refine hK36 _ _ _ _ ?_; clear hK36 K36
                          refine HC_ret ?_
                          refine HQ_blockR ?_
                          refine HQ_thenR ?_; clear hK33 K33
                          refine HQ_thenR ?_
                          refine HQ_blockR ?_
                          refine HQ_thenR ?_; clear hK28 K28
                          refine HQ_post rfl rfl (.cons (res_tmp rfl) .nil) (fun w1 hs1 => ?_)
                          refine ⟨?_, hs1.keep⟩
                          first
                            | (rw [decide_eq_false (show ¬ a.er = b.er from fun e => lst_ne hx hy (by simp_all) ((acct_eq' a b).1 e).2.2.2.2)]; rfl)
                            | (rw [decide_eq_true ((acct_eq' a b).2 ⟨hflat.1, hflat.2.1, hflat.2.2.1, hflat.2.2.2, lst_eq hll (by omega) hinv⟩)]; rfl)
                            | (rw [decide_eq_false (same_no (.inl (by assumption)))]; rfl)
                            | (rw [decide_eq_false (same_no (.inr (.inl (by assumption))))]; rfl)
                            | (rw [decide_eq_false (same_no (.inr (.inr (.inl (by assumption)))))]; rfl)
                            | (rw [decide_eq_false (same_no (.inr (.inr (.inr (.inl (by assumption))))))]; rfl)
                            | (rw [decide_eq_false (same_no (.inr (.inr (.inr (.inr (by omega))))))]; rfl)
                            | trace_state
                          skip)
                        skip)
                    · try exact Bool.noConfusion h35
                      all_goals try simp only [decide_eq_true_eq, decide_eq_false_iff_not, beq_iff_eq, beq_eq_false_iff_ne, bne_iff_ne, bne_eq_false_iff_eq, Bool.not_eq_true', Bool.not_eq_false', ne_eq, Int.not_lt, Int.not_le, ge_iff_le, gt_iff_lt] at h35
                      all_goals (
                        refine HC_skip ?_
                        refine HQ_blockN ?_
                        refine HQ_then ?_
                        refine hK33 _ _ _ _ ?_; clear hK33 K33
                        refine HC_region ?_
                        all_goals refine HL_r rfl rfl rfl rfl (R_move rfl) ?_
                        all_goals (refine HL_r rfl rfl rfl rfl (R_pure rfl rfl rfl) ?_; refine HL_wrap_i64 (by omega) (by omega) ?_)
                        all_goals refine HL_r rfl rfl rfl rfl (R_assign rfl) ?_
                        all_goals refine HL_nil ?_
                        all_goals (
                          refine HQ_then ?_
                          exact HQ_again (i + 1) ⟨by omega, fun j hj => by
                            rcases Nat.lt_succ_iff_lt_or_eq.1 hj with hj | rfl
                            · exact hinv j hj
                            · rw [hx, hy]; simp_all⟩ (by omega) (.cons rfl (.cons rfl (.cons rfl .nil))) (List.Sublist.refl _) (fun _ _ h => h)
                          skip)
                        skip)
                    skip)
                  skip)
              · try exact Bool.noConfusion h32
                all_goals try simp only [decide_eq_true_eq, decide_eq_false_iff_not, beq_iff_eq, beq_eq_false_iff_ne, bne_iff_ne, bne_eq_false_iff_eq, Bool.not_eq_true', Bool.not_eq_false', ne_eq, Int.not_lt, Int.not_le, ge_iff_le, gt_iff_lt] at h32
                all_goals (
                  refine HC_exit ?_
                  refine HQ_thenE ?_; clear hK30 K30
                  refine HQ_thenE ?_
                  refine HQ_blockE ?_
                  refine HQ_then ?_
                  refine hK28 _ _ _ _ ?_; clear hK28 K28
                  refine HC_seq fun K37 hK37 => ?_
                  refine HC_region ?_
                  all_goals refine HL_r rfl rfl rfl rfl (R_assign rfl) ?_
                  all_goals refine HL_nil ?_
                  all_goals (
                    refine HQ_then ?_
                    refine hK37 _ _ _ _ ?_; clear hK37 K37
                    refine HC_ret ?_
                    refine HQ_post rfl rfl (.cons (res_tmp rfl) .nil) (fun w1 hs1 => ?_)
                    refine ⟨?_, hs1.keep⟩
                    first
                      | (rw [decide_eq_false (show ¬ a.er = b.er from fun e => lst_ne hx hy (by simp_all) ((acct_eq' a b).1 e).2.2.2.2)]; rfl)
                      | (rw [decide_eq_true ((acct_eq' a b).2 ⟨hflat.1, hflat.2.1, hflat.2.2.1, hflat.2.2.2, lst_eq hll (by omega) hinv⟩)]; rfl)
                      | (rw [decide_eq_false (same_no (.inl (by assumption)))]; rfl)
                      | (rw [decide_eq_false (same_no (.inr (.inl (by assumption))))]; rfl)
                      | (rw [decide_eq_false (same_no (.inr (.inr (.inl (by assumption)))))]; rfl)
                      | (rw [decide_eq_false (same_no (.inr (.inr (.inr (.inl (by assumption))))))]; rfl)
                      | (rw [decide_eq_false (same_no (.inr (.inr (.inr (.inr (by omega))))))]; rfl)
                      | trace_state
                    skip)
                  skip)
              skip)
            skip)
          skip)
      skip)
    skip)
def lowB (k : BS) : Nat → Bool
  | 0 => true
  | i + 1 => lowB k i && decide ((k.getD i 0).toNat = 0)
theorem nz (n : Nat) : ((n : Int) == 0) = decide (n = 0) := by
  by_cases h : n = 0
  · subst h; rfl
  · rw [decide_eq_false h]; exact ieqF (by omega)
theorem tabled_mine {k : BS} (h : Tabled k) : lowB k 31 = true ∧ (k.getD 31 0).toNat ≤ 8 ∧ (k.getD 31 0).toNat ≠ 2 ∧ (k.getD 31 0).toNat ≠ 4 := by
  obtain ⟨i, hi, rfl⟩ := h
  have key : ∀ i ∈ tab, lowB (keyE (keyN i)) 31 = true ∧ ((keyE (keyN i)).getD 31 0).toNat ≤ 8 ∧ ((keyE (keyN i)).getD 31 0).toNat ≠ 2 ∧ ((keyE (keyN i)).getD 31 0).toNat ≠ 4 := by decide +kernel
  exact key i hi
/-- What stays, as the accounts that are found. -/
structure Stay (s t : StL) (a key : BS) : Prop where
  there : foundB s a = true → foundB t a = true
  oth : a ≠ A0 → a ≠ A1 → foundB s a = foundB t a ∧ (findL s a).er = (findL t a).er
  nonce : (findL s a).nonce = (findL t a).nonce
  bal : (findL s a).bal = (findL t a).bal
  slot : (a = A0 → ¬ Tabled key) → slotE (findL s a).er key = slotE (findL t a).er key
theorem _root_.Go.SL.Kept.stay {s t : StL} (h : Kept s.er t.er) (a key : BS) : Stay s t a key := by
  have e1 := find_er s a
  have e2 := find_er t a
  refine ⟨fun h1 => ?_, fun h0 h1 => ⟨?_, ?_⟩, ?_, ?_, fun hk => ?_⟩
  · rw [found_eq] at h1 ⊢; exact h.there a h1
  · rw [found_eq, found_eq, h.others a h0 h1]
  · rw [e1, e2, h.others a h0 h1]
  · show (findL s a).er.nonce = (findL t a).er.nonce
    rw [e1, e2]; exact (h.nonce a).symm
  · show (findL s a).er.bal = (findL t a).er.bal
    rw [e1, e2]; exact (h.bal a).symm
  · rw [e1, e2]; exact (h.slot a key hk).symm
set_option maxHeartbeats 2000000 in
set_option maxRecDepth 10000 in
theorem L_Stays {R : List (Nat × Obj)} (f : Int) {s : StL} (hs : s.In R) {r : Rec} (hr : r.ok) (a key : BS) : PureR Try.prog 3 [.int .i64 f, s.val, r.val, strV a, strV key].toArray (.bool true) R := by
  refine pureR_of_HC Try.func3 rfl rfl fun w => ?_
  refine HC_seq fun K1 hK1 => ?_
  refine HC_region ?_
  all_goals refine HL_box (cs := s.cells.toArray) rfl rfl rfl rfl fun rs => ?_
  all_goals refine HL_box (cs := r.cells.toArray) rfl rfl rfl rfl fun rr => ?_
  all_goals refine HL_r rfl rfl rfl rfl (R_assign rfl) ?_
  all_goals refine HL_nil ?_
  all_goals (
    refine HQ_then ?_
    refine hK1 _ _ _ _ ?_; clear hK1 K1
    refine HC_seq fun K2 hK2 => ?_
    refine HC_region ?_
    all_goals refine HL_callR rfl rfl rfl (enters_of Try.func4 (by kernel_rfl) rfl) S_works23 (fun q hq => Or.inr hq) ?_
    all_goals refine HL_r rfl rfl rfl rfl (R_assign rfl) ?_
    all_goals refine HL_nil ?_
    all_goals (
      refine HQ_then ?_
      refine hK2 _ _ _ _ ?_; clear hK2 K2
      refine HC_seq fun K3 hK3 => ?_
      refine HC_seq fun K4 hK4 => ?_
      refine HC_region ?_
      all_goals refine HL_r rfl rfl rfl rfl (R_move rfl) ?_
      all_goals refine HL_r rfl rfl rfl rfl (R_pure rfl rfl rfl) ?_
      all_goals refine HL_nil ?_
      all_goals (
        refine HQ_then ?_
        refine hK4 _ _ _ _ ?_; clear hK4 K4
        refine HC_cond rfl (fun h5 => ?_) (fun h5 => ?_)
        · try exact Bool.noConfusion h5
          all_goals try simp only [decide_eq_true_eq, decide_eq_false_iff_not, beq_iff_eq, beq_eq_false_iff_ne, bne_iff_ne, bne_eq_false_iff_eq, Bool.not_eq_true', Bool.not_eq_false', ne_eq, Int.not_lt, Int.not_le, ge_iff_le, gt_iff_lt] at h5
          all_goals (
            refine HC_seq fun K6 hK6 => ?_
            refine HC_region ?_
            all_goals refine HL_r rfl rfl rfl rfl (R_assign rfl) ?_
            all_goals refine HL_nil ?_
            all_goals (
              refine HQ_then ?_
              refine hK6 _ _ _ _ ?_; clear hK6 K6
              refine HC_ret ?_
              refine HQ_thenR ?_; clear hK3 K3
              refine HQ_post rfl rfl (.cons (res_tmp rfl) .nil) (fun w1 hs1 => ?_)
              first
                | exact ⟨rfl, hs1.keep⟩
                | (exfalso; simp_all; done)
                | trace_state
              skip)
            skip)
        · try exact Bool.noConfusion h5
          all_goals try simp only [decide_eq_true_eq, decide_eq_false_iff_not, beq_iff_eq, beq_eq_false_iff_ne, bne_iff_ne, bne_eq_false_iff_eq, Bool.not_eq_true', Bool.not_eq_false', ne_eq, Int.not_lt, Int.not_le, ge_iff_le, gt_iff_lt] at h5
          all_goals (
            refine HC_skip ?_
            refine HQ_then ?_
            refine hK3 _ _ _ _ ?_; clear hK3 K3
            refine HC_seq fun K7 hK7 => ?_
            refine HC_region ?_
            all_goals refine HL_r rfl rfl rfl rfl (R_loadArr (xs := s.cells) (n := 1) rfl (known_L (k := 1) rfl) rfl rfl rfl) ?_
            all_goals refine HL_callR rfl rfl rfl (enters_of Try.func5 (by kernel_rfl) rfl) (S_Few hs) (fun q hq => Or.inr hq) ?_
            all_goals refine HL_r rfl rfl rfl rfl (R_assign rfl) ?_
            all_goals refine HL_nil ?_
            all_goals (
              refine HQ_then ?_
              refine hK7 _ _ _ _ ?_; clear hK7 K7
              refine HC_seq fun K8 hK8 => ?_
              refine HC_seq fun K9 hK9 => ?_
              refine HC_region ?_
              all_goals refine HL_r rfl rfl rfl rfl (R_move rfl) ?_
              all_goals refine HL_r rfl rfl rfl rfl (R_pure rfl rfl rfl) ?_
              all_goals refine HL_r rfl rfl rfl rfl (R_move rfl) ?_
              all_goals (refine HL_case 30 rfl (fun hb10 => ?_) (fun hb10 => ?_) <;> (try simp only [decide_eq_true_eq, decide_eq_false_iff_not, beq_iff_eq, beq_eq_false_iff_ne, bne_iff_ne, bne_eq_false_iff_eq, Bool.not_eq_true', Bool.not_eq_false', ne_eq, Int.not_lt, Int.not_le, ge_iff_le, gt_iff_lt] at hb10) <;> first | (refine HL_r rfl rfl rfl rfl (R_move rfl) ?_) | (refine HL_skip rfl rfl rfl ?_))
              all_goals first
                | (refine HL_r rfl rfl rfl rfl (R_lenBs rfl rfl) ?_)
                | (refine HL_skip rfl rfl rfl ?_)
              all_goals first
                | (refine HL_r rfl rfl rfl rfl (R_pure rfl rfl rfl) ?_)
                | (refine HL_skip rfl rfl rfl ?_)
              all_goals first
                | (refine HL_r rfl rfl rfl rfl (R_pickT rfl rfl) ?_)
                | (refine HL_r rfl rfl rfl rfl (R_pickF rfl rfl) ?_)
              all_goals refine HL_r rfl rfl rfl rfl (R_move rfl) ?_
              all_goals first
                | (refine HL_skip rfl rfl rfl ?_)
                | (refine HL_case 35 rfl (fun hb13 => ?_) (fun hb13 => ?_) <;> (try simp only [decide_eq_true_eq, decide_eq_false_iff_not, beq_iff_eq, beq_eq_false_iff_ne, bne_iff_ne, bne_eq_false_iff_eq, Bool.not_eq_true', Bool.not_eq_false', ne_eq, Int.not_lt, Int.not_le, ge_iff_le, gt_iff_lt] at hb13) <;> first | (refine HL_r rfl rfl rfl rfl (R_move rfl) ?_) | (refine HL_skip rfl rfl rfl ?_))
              all_goals first
                | (refine HL_r rfl rfl rfl rfl (R_lenBs rfl rfl) ?_)
                | (refine HL_skip rfl rfl rfl ?_)
              all_goals first
                | (refine HL_r rfl rfl rfl rfl (R_pure rfl rfl rfl) ?_)
                | (refine HL_skip rfl rfl rfl ?_)
              all_goals first
                | (refine HL_r rfl rfl rfl rfl (R_pickT rfl rfl) ?_)
                | (refine HL_r rfl rfl rfl rfl (R_pickF rfl rfl) ?_)
              all_goals refine HL_nil ?_
              all_goals (
                refine HQ_then ?_
                refine hK9 _ _ _ _ ?_; clear hK9 K9
                refine HC_cond rfl (fun h16 => ?_) (fun h16 => ?_)
                · try exact Bool.noConfusion h16
                  all_goals try simp only [decide_eq_true_eq, decide_eq_false_iff_not, beq_iff_eq, beq_eq_false_iff_ne, bne_iff_ne, bne_eq_false_iff_eq, Bool.not_eq_true', Bool.not_eq_false', ne_eq, Int.not_lt, Int.not_le, ge_iff_le, gt_iff_lt] at h16
                  all_goals (
                    refine HC_seq fun K17 hK17 => ?_
                    refine HC_region ?_
                    all_goals refine HL_r rfl rfl rfl rfl (R_move rfl) ?_
                    all_goals refine HL_r rfl rfl rfl rfl (R_assign rfl) ?_
                    all_goals refine HL_nil ?_
                    all_goals (
                      refine HQ_then ?_
                      refine hK17 _ _ _ _ ?_; clear hK17 K17
                      refine HC_ret ?_
                      refine HQ_thenR ?_; clear hK8 K8
                      refine HQ_post rfl rfl (.cons (res_tmp rfl) .nil) (fun w1 hs1 => ?_)
                      first
                        | exact ⟨rfl, hs1.keep⟩
                        | (exfalso; simp_all; done)
                        | trace_state
                      skip)
                    skip)
                · try exact Bool.noConfusion h16
                  all_goals try simp only [decide_eq_true_eq, decide_eq_false_iff_not, beq_iff_eq, beq_eq_false_iff_ne, bne_iff_ne, bne_eq_false_iff_eq, Bool.not_eq_true', Bool.not_eq_false', ne_eq, Int.not_lt, Int.not_le, ge_iff_le, gt_iff_lt] at h16
                  all_goals (
                    refine HC_skip ?_
                    refine HQ_then ?_
                    refine hK8 _ _ _ _ ?_; clear hK8 K8
                    refine HC_seq fun K18 hK18 => ?_
                    refine HC_region ?_
                    all_goals refine HL_r rfl rfl rfl rfl (R_move rfl) ?_
                    all_goals refine HL_r rfl rfl rfl rfl (R_loadArr (xs := s.cells) (n := 1) rfl (known_L (k := 1) rfl) rfl rfl rfl) ?_
                    all_goals refine HL_r rfl rfl rfl rfl (R_loadArr (xs := r.cells) (n := 17) rfl (known_L (k := 0) rfl) rfl rfl rfl) ?_
                    all_goals refine HL_callRE rfl rfl rfl (enters_of Try.func6 (by kernel_rfl) rfl) (S_Write (R := R) f hs hr) (fun q hq => Or.inr hq) fun x => ?_
                    all_goals refine HL_perm List.perm_append_comm ?_
                    all_goals change HL _ _ ((45, .tuple #[x.s.val, .int .i64 x.err]) :: _) ((rr, _) :: (rs, _) :: x.L) _ _ _ _
                    all_goals refine HL_r rfl rfl rfl rfl (R_move rfl) ?_
                    all_goals refine HL_r rfl rfl rfl rfl (R_extract rfl rfl) ?_
                    all_goals refine HL_r rfl rfl rfl rfl (R_extract rfl rfl) ?_
                    all_goals refine HL_alloc (cs := #[_]) rfl rfl rfl rfl fun r1 => ?_
                    all_goals refine HL_storeArr (k := 0) (n := 1) (ys := x.s.cells) rfl rfl rfl rfl rfl rfl rfl rfl rfl ?_
                    all_goals refine HL_r rfl rfl rfl rfl (R_assign rfl) ?_
                    all_goals refine HL_nil ?_
                    all_goals (
                      refine HQ_then ?_
                      refine hK18 _ _ _ _ ?_; clear hK18 K18
                      refine HC_seq fun K19 hK19 => ?_
                      refine HC_seq fun K20 hK20 => ?_
                      refine HC_region ?_
                      all_goals refine HL_r rfl rfl rfl rfl (R_move rfl) ?_
                      all_goals refine HL_r rfl rfl rfl rfl (R_pure rfl rfl rfl) ?_
                      all_goals refine HL_nil ?_
                      all_goals (
                        refine HQ_then ?_
                        refine hK20 _ _ _ _ ?_; clear hK20 K20
                        refine HC_cond rfl (fun h21 => ?_) (fun h21 => ?_)
                        · try exact Bool.noConfusion h21
                          all_goals try simp only [decide_eq_true_eq, decide_eq_false_iff_not, beq_iff_eq, beq_eq_false_iff_ne, bne_iff_ne, bne_eq_false_iff_eq, Bool.not_eq_true', Bool.not_eq_false', ne_eq, Int.not_lt, Int.not_le, ge_iff_le, gt_iff_lt] at h21
                          all_goals (
                            refine HC_seq fun K22 hK22 => ?_
                            refine HC_region ?_
                            all_goals refine HL_r rfl rfl rfl rfl (R_move rfl) ?_
                            all_goals refine HL_r rfl rfl rfl rfl (R_assign rfl) ?_
                            all_goals refine HL_nil ?_
                            all_goals (
                              refine HQ_then ?_
                              refine hK22 _ _ _ _ ?_; clear hK22 K22
                              refine HC_ret ?_
                              refine HQ_thenR ?_; clear hK19 K19
                              refine HQ_post rfl rfl (.cons (res_tmp rfl) .nil) (fun w1 hs1 => ?_)
                              first
                                | exact ⟨rfl, hs1.keep⟩
                                | (exfalso; simp_all; done)
                                | trace_state
                              skip)
                            skip)
                        · try exact Bool.noConfusion h21
                          all_goals try simp only [decide_eq_true_eq, decide_eq_false_iff_not, beq_iff_eq, beq_eq_false_iff_ne, bne_iff_ne, bne_eq_false_iff_eq, Bool.not_eq_true', Bool.not_eq_false', ne_eq, Int.not_lt, Int.not_le, ge_iff_le, gt_iff_lt] at h21
                          all_goals (
                            refine HC_skip ?_
                            refine HQ_then ?_
                            refine hK19 _ _ _ _ ?_; clear hK19 K19
                            refine HC_seq fun K23 hK23 => ?_
                            have he : x.err = 0 := by assumption
                            have K : Stay s x.s a key := (wrote (wq_eq x he)).kept.stay a key
                            obtain ⟨is, his⟩ : ∃ b, b = foundB s a := ⟨_, rfl⟩
                            obtain ⟨as_, has⟩ : ∃ b, b = foundB x.s a := ⟨_, rfl⟩
                            have hth : is = true → as_ = true := by rw [his, has]; exact K.there
                            refine HC_region ?_
                            all_goals refine HL_r rfl rfl rfl rfl (R_loadArr (xs := s.cells) (n := 1) rfl (known_L (k := 2) rfl) rfl rfl rfl) ?_
                            all_goals refine HL_r rfl rfl rfl rfl (R_move rfl) ?_
                            all_goals refine HL_callR rfl rfl rfl (enters_of Try.func7 (by kernel_rfl) rfl) (S_Find hs a) (fun q hq => Or.inr hq) ?_; refine HL_as (congrArg (fun z => Value.tuple #[(findL s a).val, .bool z]) his.symm) ?_
                            all_goals refine HL_r rfl rfl rfl rfl (R_move rfl) ?_
                            all_goals refine HL_r rfl rfl rfl rfl (R_extract rfl rfl) ?_
                            all_goals refine HL_r rfl rfl rfl rfl (R_extract rfl rfl) ?_
                            all_goals refine HL_alloc (cs := #[_, _, _, _, _, _, _, _]) rfl rfl rfl rfl fun r2 => ?_
                            all_goals refine HL_storeArr (k := 0) (n := 8) (ys := (findL s a).cells) rfl rfl rfl rfl rfl rfl rfl rfl rfl ?_
                            all_goals refine HL_r rfl rfl rfl rfl (R_assign rfl) ?_
                            all_goals refine HL_nil ?_
                            all_goals (
                              refine HQ_then ?_
                              refine hK23 _ _ _ _ ?_; clear hK23 K23
                              refine HC_seq fun K24 hK24 => ?_
                              refine HC_region ?_
                              all_goals refine HL_r rfl rfl rfl rfl (R_loadArr (xs := x.s.cells) (n := 1) rfl (known_L (k := 1) rfl) rfl rfl rfl) ?_
                              all_goals refine HL_r rfl rfl rfl rfl (R_move rfl) ?_
                              all_goals refine HL_callR rfl rfl rfl (enters_of Try.func7 (by kernel_rfl) rfl) (S_Find x.ok a) (fun q hq => (List.mem_append.1 hq).elim (fun h => Or.inl (List.mem_cons_of_mem _ (List.mem_cons_of_mem _ (List.mem_cons_of_mem _ (List.mem_cons_of_mem _ h))))) (fun hq => Or.inr hq)) ?_; refine HL_as (congrArg (fun z => Value.tuple #[(findL x.s a).val, .bool z]) has.symm) ?_
                              all_goals refine HL_r rfl rfl rfl rfl (R_move rfl) ?_
                              all_goals refine HL_r rfl rfl rfl rfl (R_extract rfl rfl) ?_
                              all_goals refine HL_r rfl rfl rfl rfl (R_extract rfl rfl) ?_
                              all_goals refine HL_alloc (cs := #[_, _, _, _, _, _, _, _]) rfl rfl rfl rfl fun r3 => ?_
                              all_goals refine HL_storeArr (k := 0) (n := 8) (ys := (findL x.s a).cells) rfl rfl rfl rfl rfl rfl rfl rfl rfl ?_
                              all_goals refine HL_r rfl rfl rfl rfl (R_assign rfl) ?_
                              all_goals refine HL_nil ?_
                              all_goals (
                                refine HQ_then ?_
                                refine hK24 _ _ _ _ ?_; clear hK24 K24
                                refine HC_seq fun K25 hK25 => ?_
                                refine HC_seq fun K26 hK26 => ?_
                                refine HC_region ?_
                                all_goals refine HL_r rfl rfl rfl rfl (R_move rfl) ?_
                                all_goals refine HL_callP rfl rfl rfl (enters_of Try.func8 (by kernel_rfl) rfl) (P_Addr 0) ?_
                                all_goals refine HL_r rfl rfl rfl rfl (R_strNe rfl rfl) ?_
                                all_goals refine HL_r rfl rfl rfl rfl (R_move rfl) ?_
                                all_goals (refine HL_case 66 rfl (fun hb27 => ?_) (fun hb27 => ?_) <;> (try simp only [decide_eq_true_eq, decide_eq_false_iff_not, beq_iff_eq, beq_eq_false_iff_ne, bne_iff_ne, bne_eq_false_iff_eq, Bool.not_eq_true', Bool.not_eq_false', ne_eq, Int.not_lt, Int.not_le, ge_iff_le, gt_iff_lt] at hb27) <;> first | (refine HL_r rfl rfl rfl rfl (R_move rfl) ?_) | (refine HL_skip rfl rfl rfl ?_))
                                all_goals first
                                  | (refine HL_callP rfl rfl rfl (enters_of Try.func8 (by kernel_rfl) rfl) (P_Addr 1) ?_)
                                  | (refine HL_skip rfl rfl rfl ?_)
                                all_goals first
                                  | (refine HL_r rfl rfl rfl rfl (R_strNe rfl rfl) ?_)
                                  | (refine HL_skip rfl rfl rfl ?_)
                                all_goals first
                                  | (refine HL_r rfl rfl rfl rfl (R_pickT rfl rfl) ?_)
                                  | (refine HL_r rfl rfl rfl rfl (R_pickF rfl rfl) ?_)
                                all_goals refine HL_nil ?_
                                all_goals (
                                  refine HQ_then ?_
                                  refine hK26 _ _ _ _ ?_; clear hK26 K26
                                  refine HC_cond rfl (fun h30 => ?_) (fun h30 => ?_)
                                  · try exact Bool.noConfusion h30
                                    all_goals try simp only [decide_eq_true_eq, decide_eq_false_iff_not, beq_iff_eq, beq_eq_false_iff_ne, bne_iff_ne, bne_eq_false_iff_eq, Bool.not_eq_true', Bool.not_eq_false', ne_eq, Int.not_lt, Int.not_le, ge_iff_le, gt_iff_lt] at h30
                                    all_goals (
                                      refine HC_seq fun K31 hK31 => ?_
                                      have hoth := K.oth (by assumption) (by assumption)
                                      refine HC_region ?_
                                      all_goals refine HL_r rfl rfl rfl rfl (R_loadArr (xs := (findL s a).cells) (n := 8) rfl (known_L (k := 1) rfl) rfl rfl rfl) ?_
                                      all_goals refine HL_r rfl rfl rfl rfl (R_loadArr (xs := (findL x.s a).cells) (n := 8) rfl (known_L (k := 0) rfl) rfl rfl rfl) ?_
                                      all_goals refine HL_callR rfl rfl rfl (enters_of Try.func9 (by kernel_rfl) rfl) (S_SameAcct (R := x.L ++ R) ((find_in hs a).mono fun q hq => List.mem_append_right _ hq) (find_in x.ok a)) (fun q hq => (List.mem_append.1 hq).elim (fun h => Or.inl (List.mem_cons_of_mem _ (List.mem_cons_of_mem _ (List.mem_cons_of_mem _ (List.mem_cons_of_mem _ (List.mem_cons_of_mem _ h)))))) (fun hq => Or.inr hq)) ?_; refine HL_as (as_bool (decide_eq_true hoth.2)) ?_
                                      all_goals refine HL_r rfl rfl rfl rfl (R_assign rfl) ?_
                                      all_goals refine HL_nil ?_
                                      all_goals (
                                        refine HQ_then ?_
                                        refine hK31 _ _ _ _ ?_; clear hK31 K31
                                        refine HC_seq fun K32 hK32 => ?_
                                        refine HC_region ?_
                                        all_goals refine HL_r rfl rfl rfl rfl (R_move rfl) ?_
                                        all_goals refine HL_r rfl rfl rfl rfl (R_move rfl) ?_
                                        all_goals (refine HL_r rfl rfl rfl rfl (R_move rfl) ?_)
                                        all_goals (refine HL_r rfl rfl rfl rfl (R_move rfl) ?_)
                                        all_goals refine HL_r rfl rfl rfl rfl (R_pure rfl rfl rfl) ?_; refine HL_as (as_bool (show _ = true by rw [show is = as_ by rw [his, has]; exact hoth.1]; cases as_ <;> rfl)) ?_
                                        all_goals (refine HL_r rfl rfl rfl rfl (R_pickT rfl rfl) ?_)
                                        all_goals refine HL_r rfl rfl rfl rfl (R_move rfl) ?_
                                        all_goals (refine HL_r rfl rfl rfl rfl (R_move rfl) ?_)
                                        all_goals (refine HL_r rfl rfl rfl rfl (R_pickT rfl rfl) ?_)
                                        all_goals refine HL_r rfl rfl rfl rfl (R_assign rfl) ?_
                                        all_goals refine HL_nil ?_
                                        all_goals (
                                          refine HQ_then ?_
                                          refine hK32 _ _ _ _ ?_; clear hK32 K32
                                          refine HC_ret ?_
                                          refine HQ_thenR ?_; clear hK25 K25
                                          refine HQ_post rfl rfl (.cons (res_tmp rfl) .nil) (fun w1 hs1 => ?_)
                                          first
                                            | exact ⟨rfl, hs1.keep⟩
                                            | (exfalso; simp_all; done)
                                            | trace_state
                                          skip)
                                        skip)
                                      skip)
                                  · try exact Bool.noConfusion h30
                                    all_goals try simp only [decide_eq_true_eq, decide_eq_false_iff_not, beq_iff_eq, beq_eq_false_iff_ne, bne_iff_ne, bne_eq_false_iff_eq, Bool.not_eq_true', Bool.not_eq_false', ne_eq, Int.not_lt, Int.not_le, ge_iff_le, gt_iff_lt] at h30
                                    all_goals (
                                      refine HC_skip ?_
                                      refine HQ_then ?_
                                      refine hK25 _ _ _ _ ?_; clear hK25 K25
                                      refine HC_seq fun K36 hK36 => ?_
                                      refine HC_region ?_
                                      all_goals refine HL_r rfl rfl rfl rfl (R_assign rfl) ?_
                                      all_goals refine HL_nil ?_
                                      all_goals (
                                        refine HQ_then ?_
                                        refine hK36 _ _ _ _ ?_; clear hK36 K36
                                        refine HC_seq fun K37 hK37 => ?_
                                        refine HC_seq fun K38 hK38 => ?_
                                        refine HC_region ?_
                                        all_goals refine HL_r rfl rfl rfl rfl (R_assign rfl) ?_
                                        all_goals refine HL_nil ?_
                                        all_goals (
                                          refine HQ_then ?_
                                          refine hK38 _ _ _ _ ?_; clear hK38 K38
                                          refine HC_block ?_
                                          have hlen : key.length = 32 := by omega
                                          refine HC_loop (σ := Nat) (fun i => i ≤ 31) (fun i => [(3, strV a), (4, strV key), (11, .bool true), (15, ptV r2 0), (16, .bool is), (17, ptV r3 0), (18, .bool as_), (20, .bool (lowB key i)), (21, .int .i64 (i : Int))]) (fun _ => (r3, .cells (findL x.s a).cells.toArray 37 (0, 0)) :: (r2, .cells (findL s a).cells.toArray 37 (0, 0)) :: (r1, .cells x.s.cells.toArray 24 (0, 0)) :: (rr, _) :: (rs, _) :: x.L) (fun _ _ _ => True) (fun i => 31 - i) 0 (by omega) (.cons rfl (.cons rfl (.cons rfl (.cons rfl (.cons rfl (.cons rfl (.cons rfl (.cons rfl (.cons rfl .nil))))))))) (List.Sublist.refl _) (fun _ _ h => h) ?_
                                          intro i hi1
                                          refine HC_seq fun K39 hK39 => ?_
                                          refine HC_seq fun K40 hK40 => ?_
                                          refine HC_region ?_
                                          all_goals refine HL_r rfl rfl rfl rfl (R_move rfl) ?_
                                          all_goals refine HL_r rfl rfl rfl rfl (R_pure rfl rfl rfl) ?_
                                          all_goals refine HL_nil ?_
                                          all_goals (
                                            refine HQ_then ?_
                                            refine hK40 _ _ _ _ ?_; clear hK40 K40
                                            refine HC_cond rfl (fun h41 => ?_) (fun h41 => ?_)
                                            · try exact Bool.noConfusion h41
                                              all_goals try simp only [decide_eq_true_eq, decide_eq_false_iff_not, beq_iff_eq, beq_eq_false_iff_ne, bne_iff_ne, bne_eq_false_iff_eq, Bool.not_eq_true', Bool.not_eq_false', ne_eq, Int.not_lt, Int.not_le, ge_iff_le, gt_iff_lt] at h41
                                              all_goals (
                                                refine HC_skip ?_
                                                refine HQ_then ?_
                                                refine hK39 _ _ _ _ ?_; clear hK39 K39
                                                refine HC_seq fun K42 hK42 => ?_
                                                refine HC_block ?_
                                                refine HC_region ?_
                                                all_goals refine HL_r rfl rfl rfl rfl (R_move rfl) ?_
                                                all_goals refine HL_r rfl rfl rfl rfl (R_move rfl) ?_
                                                all_goals (refine HL_case 88 rfl (fun hb43 => ?_) (fun hb43 => ?_) <;> (try simp only [decide_eq_true_eq, decide_eq_false_iff_not, beq_iff_eq, beq_eq_false_iff_ne, bne_iff_ne, bne_eq_false_iff_eq, Bool.not_eq_true', Bool.not_eq_false', ne_eq, Int.not_lt, Int.not_le, ge_iff_le, gt_iff_lt] at hb43) <;> first | (refine HL_r rfl rfl rfl rfl (R_move rfl) ?_) | (refine HL_skip rfl rfl rfl ?_))
                                                all_goals first
                                                  | (refine HL_r rfl rfl rfl rfl (R_move rfl) ?_)
                                                  | (refine HL_skip rfl rfl rfl ?_)
                                                all_goals first
                                                  | (refine HL_r rfl rfl rfl rfl (R_indexBs (j := i) (a := key) rfl rfl rfl rfl (by omega) rfl) ?_)
                                                  | (refine HL_skip rfl rfl rfl ?_)
                                                all_goals first
                                                  | (refine HL_r rfl rfl rfl rfl (R_pure rfl rfl rfl) ?_; refine HL_as (as_bool (nz _)) ?_)
                                                  | (refine HL_skip rfl rfl rfl ?_)
                                                all_goals first
                                                  | (refine HL_r rfl rfl rfl rfl (R_pickT rfl rfl) ?_)
                                                  | (refine HL_r rfl rfl rfl rfl (R_pickF rfl rfl) ?_)
                                                all_goals refine HL_r rfl rfl rfl rfl (R_assign rfl) ?_
                                                all_goals refine HL_nil ?_
                                                all_goals (
                                                  refine HQ_blockN ?_
                                                  refine HQ_then ?_
                                                  refine hK42 _ _ _ _ ?_; clear hK42 K42
                                                  refine HC_region ?_
                                                  all_goals refine HL_r rfl rfl rfl rfl (R_move rfl) ?_
                                                  all_goals (refine HL_r rfl rfl rfl rfl (R_pure rfl rfl rfl) ?_; refine HL_wrap_i64 (by omega) (by omega) ?_)
                                                  all_goals refine HL_r rfl rfl rfl rfl (R_assign rfl) ?_
                                                  all_goals refine HL_nil ?_
                                                  all_goals (
                                                    refine HQ_then ?_
                                                    exact HQ_again (i + 1) (by omega) (by omega) (.cons rfl (.cons rfl (.cons rfl (.cons rfl (.cons rfl (.cons rfl (.cons rfl (.cons (by first | rfl | (show some (Value.bool _) = some (Value.bool _); simp_all [lowB]; done) | trace_state) (.cons rfl .nil))))))))) (List.Sublist.refl _) (fun _ _ h => h)
                                                    skip)
                                                  skip)
                                                skip)
                                            · try exact Bool.noConfusion h41
                                              all_goals try simp only [decide_eq_true_eq, decide_eq_false_iff_not, beq_iff_eq, beq_eq_false_iff_ne, bne_iff_ne, bne_eq_false_iff_eq, Bool.not_eq_true', Bool.not_eq_false', ne_eq, Int.not_lt, Int.not_le, ge_iff_le, gt_iff_lt] at h41
                                              all_goals (
                                                refine HC_exit ?_
                                                refine HQ_thenE ?_; clear hK39 K39
                                                refine HQ_thenE ?_
                                                refine HQ_blockE ?_
                                                refine HQ_then ?_
                                                refine hK37 _ _ _ _ ?_; clear hK37 K37
                                                refine HC_seq fun K47 hK47 => ?_
                                                have hlen : key.length = 32 := by omega
                                                obtain rfl : i = 31 := by omega
                                                obtain ⟨n31, hn31⟩ : ∃ n : Int, n = ((key.getD 31 0).toNat : Int) := ⟨_, rfl⟩
                                                refine HC_region ?_
                                                all_goals refine HL_r rfl rfl rfl rfl (R_move rfl) ?_
                                                all_goals refine HL_r rfl rfl rfl rfl (R_move rfl) ?_
                                                all_goals (refine HL_case 95 rfl (fun hb48 => ?_) (fun hb48 => ?_) <;> (try simp only [decide_eq_true_eq, decide_eq_false_iff_not, beq_iff_eq, beq_eq_false_iff_ne, bne_iff_ne, bne_eq_false_iff_eq, Bool.not_eq_true', Bool.not_eq_false', ne_eq, Int.not_lt, Int.not_le, ge_iff_le, gt_iff_lt] at hb48) <;> first | (refine HL_r rfl rfl rfl rfl (R_move rfl) ?_) | (refine HL_skip rfl rfl rfl ?_))
                                                all_goals first
                                                  | (refine HL_r rfl rfl rfl rfl (R_indexBs (j := 31) (a := key) rfl rfl rfl rfl (by omega) hn31.symm) ?_)
                                                  | (refine HL_skip rfl rfl rfl ?_)
                                                all_goals first
                                                  | (refine HL_r rfl rfl rfl rfl (R_pure rfl rfl rfl) ?_)
                                                  | (refine HL_skip rfl rfl rfl ?_)
                                                all_goals first
                                                  | (refine HL_r rfl rfl rfl rfl (R_pickT rfl rfl) ?_)
                                                  | (refine HL_r rfl rfl rfl rfl (R_pickF rfl rfl) ?_)
                                                all_goals refine HL_r rfl rfl rfl rfl (R_move rfl) ?_
                                                all_goals first
                                                  | (refine HL_skip rfl rfl rfl ?_)
                                                  | (refine HL_case 100 rfl (fun hb51 => ?_) (fun hb51 => ?_) <;> (try simp only [decide_eq_true_eq, decide_eq_false_iff_not, beq_iff_eq, beq_eq_false_iff_ne, bne_iff_ne, bne_eq_false_iff_eq, Bool.not_eq_true', Bool.not_eq_false', ne_eq, Int.not_lt, Int.not_le, ge_iff_le, gt_iff_lt] at hb51) <;> first | (refine HL_r rfl rfl rfl rfl (R_move rfl) ?_) | (refine HL_skip rfl rfl rfl ?_))
                                                all_goals first
                                                  | (refine HL_r rfl rfl rfl rfl (R_indexBs (j := 31) (a := key) rfl rfl rfl rfl (by omega) hn31.symm) ?_)
                                                  | (refine HL_skip rfl rfl rfl ?_)
                                                all_goals first
                                                  | (refine HL_r rfl rfl rfl rfl (R_pure rfl rfl rfl) ?_)
                                                  | (refine HL_skip rfl rfl rfl ?_)
                                                all_goals first
                                                  | (refine HL_r rfl rfl rfl rfl (R_pickT rfl rfl) ?_)
                                                  | (refine HL_r rfl rfl rfl rfl (R_pickF rfl rfl) ?_)
                                                all_goals refine HL_r rfl rfl rfl rfl (R_move rfl) ?_
                                                all_goals first
                                                  | (refine HL_skip rfl rfl rfl ?_)
                                                  | (refine HL_case 105 rfl (fun hb54 => ?_) (fun hb54 => ?_) <;> (try simp only [decide_eq_true_eq, decide_eq_false_iff_not, beq_iff_eq, beq_eq_false_iff_ne, bne_iff_ne, bne_eq_false_iff_eq, Bool.not_eq_true', Bool.not_eq_false', ne_eq, Int.not_lt, Int.not_le, ge_iff_le, gt_iff_lt] at hb54) <;> first | (refine HL_r rfl rfl rfl rfl (R_move rfl) ?_) | (refine HL_skip rfl rfl rfl ?_))
                                                all_goals first
                                                  | (refine HL_r rfl rfl rfl rfl (R_indexBs (j := 31) (a := key) rfl rfl rfl rfl (by omega) hn31.symm) ?_)
                                                  | (refine HL_skip rfl rfl rfl ?_)
                                                all_goals first
                                                  | (refine HL_r rfl rfl rfl rfl (R_pure rfl rfl rfl) ?_)
                                                  | (refine HL_skip rfl rfl rfl ?_)
                                                all_goals first
                                                  | (refine HL_r rfl rfl rfl rfl (R_pickT rfl rfl) ?_)
                                                  | (refine HL_r rfl rfl rfl rfl (R_pickF rfl rfl) ?_)
                                                all_goals refine HL_r rfl rfl rfl rfl (R_move rfl) ?_
                                                all_goals first
                                                  | (refine HL_skip rfl rfl rfl ?_)
                                                  | (refine HL_case 110 rfl (fun hb57 => ?_) (fun hb57 => ?_) <;> (try simp only [decide_eq_true_eq, decide_eq_false_iff_not, beq_iff_eq, beq_eq_false_iff_ne, bne_iff_ne, bne_eq_false_iff_eq, Bool.not_eq_true', Bool.not_eq_false', ne_eq, Int.not_lt, Int.not_le, ge_iff_le, gt_iff_lt] at hb57) <;> first | (refine HL_r rfl rfl rfl rfl (R_move rfl) ?_) | (refine HL_skip rfl rfl rfl ?_))
                                                all_goals first
                                                  | (refine HL_callP rfl rfl rfl (enters_of Try.func8 (by kernel_rfl) rfl) (P_Addr 0) ?_)
                                                  | (refine HL_skip rfl rfl rfl ?_)
                                                all_goals first
                                                  | (refine HL_r rfl rfl rfl rfl (R_strEq rfl rfl) ?_)
                                                  | (refine HL_skip rfl rfl rfl ?_)
                                                all_goals first
                                                  | (refine HL_r rfl rfl rfl rfl (R_pickT rfl rfl) ?_)
                                                  | (refine HL_r rfl rfl rfl rfl (R_pickF rfl rfl) ?_)
                                                all_goals refine HL_r rfl rfl rfl rfl (R_assign rfl) ?_
                                                all_goals refine HL_nil ?_
                                                all_goals (
                                                  refine HQ_then ?_
                                                  refine hK47 _ _ _ _ ?_; clear hK47 K47
                                                  refine HC_seq fun K60 hK60 => ?_
                                                  refine HC_draw 35 (by kernel_rfl) (by kernel_rfl) ?_
                                                  all_goals refine HD_r rfl rfl rfl (R_move rfl) ?_
                                                  all_goals refine HD_r rfl rfl rfl (R_move rfl) ?_
                                                  all_goals (refine HD_r rfl rfl rfl (R_move rfl) ?_)
                                                  all_goals (refine HD_r rfl rfl rfl (R_pure rfl rfl rfl) ?_)
                                                  all_goals (refine HD_r rfl rfl rfl (R_move rfl) ?_)
                                                  all_goals (refine HD_case 119 rfl (fun hb64 => ?_) (fun hb64 => ?_) <;> (try simp only [decide_eq_true_eq, decide_eq_false_iff_not, beq_iff_eq, beq_eq_false_iff_ne, bne_iff_ne, bne_eq_false_iff_eq, Bool.not_eq_true', Bool.not_eq_false', ne_eq, Int.not_lt, Int.not_le, ge_iff_le, gt_iff_lt] at hb64) <;> first | (refine HD_r rfl rfl rfl (R_move rfl) ?_) | (refine HD_skip rfl rfl rfl ?_))
                                                  all_goals first
                                                    | (refine HD_r rfl rfl rfl (R_pickT rfl rfl) ?_)
                                                    | (refine HD_r rfl rfl rfl (R_pickF rfl rfl) ?_)
                                                  all_goals (refine HD_r rfl rfl rfl (R_pickT rfl rfl) ?_)
                                                  all_goals refine HD_r rfl rfl rfl (R_move rfl) ?_
                                                  all_goals first
                                                    | (refine HD_r rfl rfl rfl (R_fieldAddr rfl rfl (by first | (simp only [Nat.zero_add, Nat.reduceAdd, Nat.reduceMul, Nat.zero_mul, Nat.mul_one, Nat.add_zero]; exact rfl) | exact rfl)) ?_)
                                                    | (refine HD_case 123 rfl (fun hb66 => ?_) (fun hb66 => ?_) <;> (try simp only [decide_eq_true_eq, decide_eq_false_iff_not, beq_iff_eq, beq_eq_false_iff_ne, bne_iff_ne, bne_eq_false_iff_eq, Bool.not_eq_true', Bool.not_eq_false', ne_eq, Int.not_lt, Int.not_le, ge_iff_le, gt_iff_lt] at hb66) <;> first | (refine HD_r rfl rfl rfl (R_fieldAddr rfl rfl (by first | (simp only [Nat.zero_add, Nat.reduceAdd, Nat.reduceMul, Nat.zero_mul, Nat.mul_one, Nat.add_zero]; exact rfl) | exact rfl)) ?_) | (refine HD_skip rfl rfl rfl ?_))
                                                  all_goals first
                                                    | (refine HD_r rfl rfl rfl (R_load rfl (known_L (k := 1) rfl) rfl rfl) ?_)
                                                    | (refine HD_skip rfl rfl rfl ?_)
                                                  all_goals first
                                                    | (refine HD_r rfl rfl rfl (R_fieldAddr rfl rfl (by first | (simp only [Nat.zero_add, Nat.reduceAdd, Nat.reduceMul, Nat.zero_mul, Nat.mul_one, Nat.add_zero]; exact rfl) | exact rfl)) ?_)
                                                    | (refine HD_skip rfl rfl rfl ?_)
                                                  all_goals first
                                                    | (refine HD_r rfl rfl rfl (R_load rfl (known_L (k := 0) rfl) rfl rfl) ?_)
                                                    | (refine HD_skip rfl rfl rfl ?_)
                                                  all_goals first
                                                    | (refine HD_r rfl rfl rfl (R_pure rfl rfl rfl) ?_; refine HD_as (as_bool (show _ = true from (eqU _ _).trans (decide_eq_true K.nonce))) ?_)
                                                    | (refine HD_skip rfl rfl rfl ?_)
                                                  all_goals first
                                                    | (refine HD_r rfl rfl rfl (R_pickT rfl rfl) ?_)
                                                    | (refine HD_r rfl rfl rfl (R_pickF rfl rfl) ?_)
                                                  all_goals refine HD_r rfl rfl rfl (R_move rfl) ?_
                                                  all_goals first
                                                    | (refine HD_r rfl rfl rfl (R_fieldAddr rfl rfl (by first | (simp only [Nat.zero_add, Nat.reduceAdd, Nat.reduceMul, Nat.zero_mul, Nat.mul_one, Nat.add_zero]; exact rfl) | exact rfl)) ?_)
                                                    | (refine HD_skip rfl rfl rfl ?_)
                                                  all_goals first
                                                    | (refine HD_r rfl rfl rfl (R_loadA (vs := [_, _, _, _]) rfl (known_L (k := 1) rfl) rfl rfl rfl rfl) ?_)
                                                    | (refine HD_skip rfl rfl rfl ?_)
                                                  all_goals first
                                                    | (refine HD_r rfl rfl rfl (R_fieldAddr rfl rfl (by first | (simp only [Nat.zero_add, Nat.reduceAdd, Nat.reduceMul, Nat.zero_mul, Nat.mul_one, Nat.add_zero]; exact rfl) | exact rfl)) ?_)
                                                    | (refine HD_skip rfl rfl rfl ?_)
                                                  all_goals first
                                                    | (refine HD_r rfl rfl rfl (R_loadA (vs := [_, _, _, _]) rfl (known_L (k := 0) rfl) rfl rfl rfl rfl) ?_)
                                                    | (refine HD_skip rfl rfl rfl ?_)
                                                  all_goals first
                                                    | (refine HD_r rfl rfl rfl (R_eqArr rfl rfl rfl rfl rfl (by kernel_rfl) rfl rfl rfl rfl) ?_; refine HD_as (as_bool (show _ = true from (eqW _ _).trans (decide_eq_true K.bal))) ?_)
                                                    | (refine HD_skip rfl rfl rfl ?_)
                                                  all_goals first
                                                    | (refine HD_r rfl rfl rfl (R_pickT rfl rfl) ?_)
                                                    | (refine HD_r rfl rfl rfl (R_pickF rfl rfl) ?_)
                                                  all_goals refine HD_r rfl rfl rfl (R_move rfl) ?_
                                                  all_goals first
                                                    | (refine HD_r rfl rfl rfl (R_move rfl) ?_)
                                                    | (refine HD_skip rfl rfl rfl ?_)
                                                  all_goals first
                                                    | (refine HD_r rfl rfl rfl (R_move rfl) ?_)
                                                    | (refine HD_skip rfl rfl rfl ?_)
                                                  all_goals first
                                                    | (refine HD_r rfl rfl rfl (R_loadArr (xs := (findL s a).cells) (n := 8) rfl (known_L (k := 1) rfl) rfl rfl rfl) ?_)
                                                    | (refine HD_skip rfl rfl rfl ?_)
                                                    | (refine HD_case 139 rfl (fun hb78 => ?_) (fun hb78 => ?_) <;> (try simp only [decide_eq_true_eq, decide_eq_false_iff_not, beq_iff_eq, beq_eq_false_iff_ne, bne_iff_ne, bne_eq_false_iff_eq, Bool.not_eq_true', Bool.not_eq_false', ne_eq, Int.not_lt, Int.not_le, ge_iff_le, gt_iff_lt] at hb78) <;> first | (refine HD_r rfl rfl rfl (R_loadArr (xs := (findL s a).cells) (n := 8) rfl (known_L (k := 1) rfl) rfl rfl rfl) ?_) | (refine HD_skip rfl rfl rfl ?_))
                                                  all_goals first
                                                    | (refine HD_r rfl rfl rfl (R_move rfl) ?_)
                                                    | (refine HD_skip rfl rfl rfl ?_)
                                                  all_goals first
                                                    | (refine HD_callR rfl rfl rfl (enters_of Try.func10 (by kernel_rfl) rfl) (S_Slot (find_in hs a) key) (fun q hq => Or.inr hq) ?_)
                                                    | (refine HD_skip rfl rfl rfl ?_)
                                                  all_goals first
                                                    | (refine HD_r rfl rfl rfl (R_loadArr (xs := (findL x.s a).cells) (n := 8) rfl (known_L (k := 0) rfl) rfl rfl rfl) ?_)
                                                    | (refine HD_skip rfl rfl rfl ?_)
                                                  all_goals first
                                                    | (refine HD_r rfl rfl rfl (R_move rfl) ?_)
                                                    | (refine HD_skip rfl rfl rfl ?_)
                                                  all_goals first
                                                    | (refine HD_callR rfl rfl rfl (enters_of Try.func10 (by kernel_rfl) rfl) (S_Slot (find_in x.ok a) key) (fun q hq => (List.mem_append.1 hq).elim (fun h => Or.inl (List.mem_cons_of_mem _ (List.mem_cons_of_mem _ (List.mem_cons_of_mem _ (List.mem_cons_of_mem _ (List.mem_cons_of_mem _ h)))))) (fun hq => Or.inr hq)) ?_)
                                                    | (refine HD_skip rfl rfl rfl ?_)
                                                  all_goals first
                                                    | (refine HD_r rfl rfl rfl (R_strEq (a := slotE (findL s a).er key) (b := slotE (findL x.s a).er key) rfl rfl) ?_; refine HD_as (as_bool (decide_eq_true (K.slot (fun h0 ht => (by have h0 : a = addrE 0 := h0; obtain ⟨t1, t2, t3, t4⟩ := tabled_mine ht; first | (simp_all; done) | omega))))) ?_)
                                                    | (refine HD_skip rfl rfl rfl ?_)
                                                  all_goals first
                                                    | (refine HD_r rfl rfl rfl (R_pickT rfl rfl) ?_)
                                                    | (refine HD_r rfl rfl rfl (R_pickF rfl rfl) ?_)
                                                    | (refine HD_skip rfl rfl rfl ?_)
                                                  all_goals first
                                                    | (refine HD_r rfl rfl rfl (R_pickT rfl rfl) ?_)
                                                    | (refine HD_r rfl rfl rfl (R_pickF rfl rfl) ?_)
                                                  all_goals refine HD_r rfl rfl rfl (R_assign rfl) ?_
                                                  all_goals refine HD_end ?_
                                                  all_goals refine HL_nil ?_
                                                  all_goals (
                                                    refine HQ_then ?_
                                                    refine hK60 _ _ _ _ ?_; clear hK60 K60
                                                    refine HC_ret ?_
                                                    refine HQ_post rfl rfl (.cons (res_tmp rfl) .nil) (fun w1 hs1 => ?_)
                                                    first
                                                      | exact ⟨rfl, hs1.keep⟩
                                                      | (exfalso; simp_all; done)
                                                      | trace_state
                                                    skip)
                                                  skip)
                                                skip)
                                            skip)
                                          skip)
                                        skip)
                                      skip)
                                  skip)
                                skip)
                              skip)
                            skip)
                        skip)
                      skip)
                    skip)
                skip)
              skip)
            skip)
        skip)
      skip)
    skip)
end Go.Proofs.Ytnkmbkndpoghdaa
