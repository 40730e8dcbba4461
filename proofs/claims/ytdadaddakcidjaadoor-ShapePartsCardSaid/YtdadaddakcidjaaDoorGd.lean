import Derived.Test.YtdadaddakcidjaaDoorGc
namespace Go.Proofs.YtdadaddakcidjaaDoor
set_option linter.all false
open Go.SL Go.RowKit Go.Shelf
theorem onlyB_mk (a b c d : Nat) (bits : List Bool) (pb : Pl) (items : List Vl) (pi : Pl) (pick : Int) (h1 h2 h3 h4 : Bool) : onlyB (.mk a b c d bits pb items pi pick) h1 h2 h3 h4 = ((h1 || decide ([a, b, c, d] = [0, 0, 0, 0])) && (h2 || decide (bits.length = 0)) && (h3 || decide (items.length = 0)) && (h4 || decide (pick = 0))) := rfl
theorem ofT_mk (k n : Int) (m a b c d : Nat) (bits : List Bool) (pb : Pl) (items : List Vl) (pi : Pl) (pick : Int) (v : Vl) (hv : v = .mk a b c d bits pb items pi pick) : ofT k n m v =
  if k = 1 then onlyB v true false false false && decide (((bytesW [a, b, c, d]).length : Int) ≤ n)
  else if k = 2 then onlyB v true false false false && (decide ([a, b, c, d] = [0, 0, 0, 0]) || decide ([a, b, c, d] = [1, 0, 0, 0]))
  else if k = 3 then onlyB v false false true false && decide ((items.length : Int) = n)
  else if k = 4 then onlyB v false false true false
  else if k = 5 then onlyB v false true false false && decide ((bits.length : Int) = n)
  else if k = 6 then onlyB v false true false false
  else if k = 7 then onlyB v false false true false && decide (items.length = m)
  else onlyB v false false true true && decide (items.length = 1) && decide (0 ≤ pick) && decide (pick < m) := by subst hv; rfl
set_option maxRecDepth 10000 in
theorem S_ref_of {R : List (Nat × Obj)} {k n : Int} {p : Pl} {ins : List Ty} {v : Vl} (ht : Ty.In R (.mk k n p ins)) (hv : v.In R) : PureR Tryd.prog 39 [Ty.val (.mk k n p ins), v.val].toArray (.bool (ofT k n ins.length v)) R := by
  have hon := S_ref_only hv
  cases ht with
  | mk hk hn hlt hst hit =>
  cases hv with
  | @mk a b c d bits pb items pi pick ha hb hc hd hlb hsb hl hs hp hi =>
  have hw : WOk [a, b, c, d] := ⟨rfl, fun x hx => by simp at hx; rcases hx with rfl | rfl | rfl | rfl <;> assumption⟩
  rw [ofT_mk k n ins.length a b c d bits pb items pi pick _ rfl]
  refine pureR_of_HC Tryd.func39 rfl rfl fun w => ?_
  refine HC_seq fun K1 hK1 => ?_
  refine HC_region ?_
  all_goals refine HL_box (cs := #[_, _, _]) rfl rfl rfl rfl fun r1 => ?_
  all_goals refine HL_box (cs := #[_, _, _, _, _, _, _]) rfl rfl rfl rfl fun r2 => ?_
  all_goals refine HL_r rfl rfl rfl rfl (R_assign rfl) ?_
  all_goals refine HL_nil ?_
  all_goals (
    refine HQ_then ?_
    refine hK1 _ _ _ _ ?_; clear hK1 K1
    refine HC_seq fun K2 hK2 => ?_
    refine HC_seq fun K3 hK3 => ?_
    refine HC_region ?_
    all_goals refine HL_r rfl rfl rfl rfl (R_fieldAddr rfl rfl (by first | (simp only [Nat.zero_add, Nat.reduceAdd, Nat.reduceMul, Nat.zero_mul, Nat.mul_one, Nat.add_zero]; exact rfl) | exact rfl)) ?_
    all_goals (refine HL_r rfl rfl rfl rfl (R_load rfl (known_L (k := 1) rfl) rfl rfl) ?_)
    all_goals refine HL_nil ?_
    all_goals (
      refine HQ_then ?_
      refine hK3 _ _ _ _ ?_; clear hK3 K3
      refine HC_block ?_
      refine HC_seq fun K4 hK4 => ?_
      refine HC_region ?_
      all_goals refine HL_r rfl rfl rfl rfl (R_pure rfl rfl rfl) ?_
      all_goals refine HL_r rfl rfl rfl rfl (R_assign rfl) ?_
      all_goals refine HL_nil ?_
      all_goals (
        refine HQ_then ?_
        refine hK4 _ _ _ _ ?_; clear hK4 K4
        refine HC_cond rfl (fun h5 => ?_) (fun h5 => ?_)
        · try exact Bool.noConfusion h5
          all_goals try simp only [decide_eq_true_eq, decide_eq_false_iff_not, beq_iff_eq, beq_eq_false_iff_ne, bne_iff_ne, bne_eq_false_iff_eq, Bool.not_eq_true', Bool.not_eq_false', ne_eq, Int.not_lt, Int.not_le, ge_iff_le, gt_iff_lt] at h5
          all_goals (
            refine HC_seq fun K6 hK6 => ?_
            refine HC_draw 12 (by kernel_rfl) (by kernel_rfl) ?_
            all_goals (refine HD_r rfl rfl rfl (R_loadA (vs := [_, _, _, _, _, _, _]) rfl (known_L (k := 0) rfl) rfl rfl rfl rfl) ?_)
            all_goals refine HD_callR rfl rfl rfl (enters_of Tryd.func77 (by kernel_rfl) rfl) (hon true false false false) (fun q hq => Or.inr hq) ?_
            all_goals refine HD_r rfl rfl rfl (R_move rfl) ?_
            all_goals (refine HD_case 11 rfl (fun hb7 => ?_) (fun hb7 => ?_) <;> (try simp only [decide_eq_true_eq, decide_eq_false_iff_not, beq_iff_eq, beq_eq_false_iff_ne, bne_iff_ne, bne_eq_false_iff_eq, Bool.not_eq_true', Bool.not_eq_false', ne_eq, Int.not_lt, Int.not_le, ge_iff_le, gt_iff_lt] at hb7) <;> first | (refine HD_r rfl rfl rfl (R_fieldAddr rfl rfl (by first | (simp only [Nat.zero_add, Nat.reduceAdd, Nat.reduceMul, Nat.zero_mul, Nat.mul_one, Nat.add_zero]; exact rfl) | exact rfl)) ?_) | (refine HD_skip rfl rfl rfl ?_))
            all_goals first
              | (refine HD_r rfl rfl rfl (R_loadA (vs := [_, _, _, _]) rfl (known_L (k := 0) rfl) rfl rfl rfl rfl) ?_)
              | (refine HD_skip rfl rfl rfl ?_)
            all_goals first
              | (refine HD_callP rfl rfl rfl (enters_of Tryd.func78 (by kernel_rfl) rfl) (P_ref_Bytes hw) ?_)
              | (refine HD_skip rfl rfl rfl ?_)
            all_goals first
              | (refine HD_r rfl rfl rfl (R_lenBs rfl rfl) ?_)
              | (refine HD_skip rfl rfl rfl ?_)
            all_goals first
              | (refine HD_r rfl rfl rfl (R_fieldAddr rfl rfl (by first | (simp only [Nat.zero_add, Nat.reduceAdd, Nat.reduceMul, Nat.zero_mul, Nat.mul_one, Nat.add_zero]; exact rfl) | exact rfl)) ?_)
              | (refine HD_skip rfl rfl rfl ?_)
            all_goals first
              | (refine HD_r rfl rfl rfl (R_load rfl (known_L (k := 1) rfl) rfl rfl) ?_)
              | (refine HD_skip rfl rfl rfl ?_)
            all_goals first
              | (refine HD_r rfl rfl rfl (R_pure rfl rfl rfl) ?_)
              | (refine HD_skip rfl rfl rfl ?_)
            all_goals first
              | (refine HD_r rfl rfl rfl (R_pickT rfl rfl) ?_)
              | (refine HD_r rfl rfl rfl (R_pickF rfl rfl) ?_)
            all_goals refine HD_r rfl rfl rfl (R_assign rfl) ?_
            all_goals refine HD_end ?_
            all_goals refine HL_nil ?_
            all_goals (
              refine HQ_then ?_
              refine hK6 _ _ _ _ ?_; clear hK6 K6
              refine HC_ret ?_
              refine HQ_blockR ?_
              refine HQ_thenR ?_; clear hK2 K2
              refine HQ_post rfl rfl (.cons (res_tmp rfl) .nil) (fun w1 hs1 => ?_)
              refine ⟨?_, hs1.keep⟩
              simp_all [resVal]
              all_goals first | done | rfl | omega | (rw [Bool.eq_iff_iff]; simp only [Bool.and_eq_true, Bool.or_eq_true, decide_eq_true_eq, beq_iff_eq]; omega) | (simp only [decide_eq_true_eq, decide_eq_false_iff_not]; omega)
              skip)
            skip)
        · try exact Bool.noConfusion h5
          all_goals try simp only [decide_eq_true_eq, decide_eq_false_iff_not, beq_iff_eq, beq_eq_false_iff_ne, bne_iff_ne, bne_eq_false_iff_eq, Bool.not_eq_true', Bool.not_eq_false', ne_eq, Int.not_lt, Int.not_le, ge_iff_le, gt_iff_lt] at h5
          all_goals (
            refine HC_seq fun K14 hK14 => ?_
            refine HC_region ?_
            all_goals refine HL_r rfl rfl rfl rfl (R_pure rfl rfl rfl) ?_
            all_goals refine HL_r rfl rfl rfl rfl (R_assign rfl) ?_
            all_goals refine HL_nil ?_
            all_goals (
              refine HQ_then ?_
              refine hK14 _ _ _ _ ?_; clear hK14 K14
              refine HC_cond rfl (fun h15 => ?_) (fun h15 => ?_)
              · try exact Bool.noConfusion h15
                all_goals try simp only [decide_eq_true_eq, decide_eq_false_iff_not, beq_iff_eq, beq_eq_false_iff_ne, bne_iff_ne, bne_eq_false_iff_eq, Bool.not_eq_true', Bool.not_eq_false', ne_eq, Int.not_lt, Int.not_le, ge_iff_le, gt_iff_lt] at h15
                all_goals (
                  refine HC_seq fun K16 hK16 => ?_
                  refine HC_region ?_
                  all_goals (refine HL_r rfl rfl rfl rfl (R_loadA (vs := [_, _, _, _, _, _, _]) rfl (known_L (k := 0) rfl) rfl rfl rfl rfl) ?_)
                  all_goals refine HL_callR rfl rfl rfl (enters_of Tryd.func77 (by kernel_rfl) rfl) (hon true false false false) (fun q hq => Or.inr hq) ?_
                  all_goals refine HL_r rfl rfl rfl rfl (R_move rfl) ?_
                  all_goals (refine HL_case 24 rfl (fun hb17 => ?_) (fun hb17 => ?_) <;> (try simp only [decide_eq_true_eq, decide_eq_false_iff_not, beq_iff_eq, beq_eq_false_iff_ne, bne_iff_ne, bne_eq_false_iff_eq, Bool.not_eq_true', Bool.not_eq_false', ne_eq, Int.not_lt, Int.not_le, ge_iff_le, gt_iff_lt] at hb17) <;> first | (refine HL_r rfl rfl rfl rfl (R_fieldAddr rfl rfl (by first | (simp only [Nat.zero_add, Nat.reduceAdd, Nat.reduceMul, Nat.zero_mul, Nat.mul_one, Nat.add_zero]; exact rfl) | exact rfl)) ?_) | (refine HL_skip rfl rfl rfl ?_))
                  all_goals first
                    | (refine HL_r rfl rfl rfl rfl (R_loadA (vs := [_, _, _, _]) rfl (known_L (k := 0) rfl) rfl rfl rfl rfl) ?_)
                    | (refine HL_skip rfl rfl rfl ?_)
                  all_goals first
                    | (refine HL_r rfl rfl rfl rfl (R_build (r := [_, _, _, _]) rfl rfl) ?_)
                    | (refine HL_skip rfl rfl rfl ?_)
                  all_goals first
                    | (refine HL_r rfl rfl rfl rfl (R_eqArr rfl rfl rfl rfl rfl (by kernel_rfl) rfl rfl rfl rfl) ?_)
                    | (refine HL_skip rfl rfl rfl ?_)
                  all_goals first | (refine HL_as (congrArg Value.bool (eq_mapU (a := [a, b, c, d]) (b := [0, 0, 0, 0]) rfl)) ?_) | skip
                  all_goals first
                    | (refine HL_r rfl rfl rfl rfl (R_move rfl) ?_)
                    | (refine HL_skip rfl rfl rfl ?_)
                  all_goals first
                    | (refine HL_skip rfl rfl rfl ?_)
                    | (refine HL_case 29 rfl (fun hb22 => ?_) (fun hb22 => ?_) <;> (try simp only [decide_eq_true_eq, decide_eq_false_iff_not, beq_iff_eq, beq_eq_false_iff_ne, bne_iff_ne, bne_eq_false_iff_eq, Bool.not_eq_true', Bool.not_eq_false', ne_eq, Int.not_lt, Int.not_le, ge_iff_le, gt_iff_lt] at hb22) <;> first | (refine HL_r rfl rfl rfl rfl (R_fieldAddr rfl rfl (by first | (simp only [Nat.zero_add, Nat.reduceAdd, Nat.reduceMul, Nat.zero_mul, Nat.mul_one, Nat.add_zero]; exact rfl) | exact rfl)) ?_) | (refine HL_skip rfl rfl rfl ?_))
                  all_goals first
                    | (refine HL_r rfl rfl rfl rfl (R_loadA (vs := [_, _, _, _]) rfl (known_L (k := 0) rfl) rfl rfl rfl rfl) ?_)
                    | (refine HL_skip rfl rfl rfl ?_)
                  all_goals first
                    | (refine HL_r rfl rfl rfl rfl (R_build (r := [_, _, _, _]) rfl rfl) ?_)
                    | (refine HL_skip rfl rfl rfl ?_)
                  all_goals first
                    | (refine HL_r rfl rfl rfl rfl (R_eqArr rfl rfl rfl rfl rfl (by kernel_rfl) rfl rfl rfl rfl) ?_)
                    | (refine HL_skip rfl rfl rfl ?_)
                  all_goals first | (refine HL_as (congrArg Value.bool (eq_mapU (a := [a, b, c, d]) (b := [1, 0, 0, 0]) rfl)) ?_) | skip
                  all_goals first
                    | (refine HL_r rfl rfl rfl rfl (R_pickT rfl rfl) ?_)
                    | (refine HL_r rfl rfl rfl rfl (R_pickF rfl rfl) ?_)
                    | (refine HL_skip rfl rfl rfl ?_)
                  all_goals first
                    | (refine HL_r rfl rfl rfl rfl (R_pickT rfl rfl) ?_)
                    | (refine HL_r rfl rfl rfl rfl (R_pickF rfl rfl) ?_)
                  all_goals refine HL_r rfl rfl rfl rfl (R_assign rfl) ?_
                  all_goals refine HL_nil ?_
                  all_goals (
                    refine HQ_then ?_
                    refine hK16 _ _ _ _ ?_; clear hK16 K16
                    refine HC_ret ?_
                    refine HQ_blockR ?_
                    refine HQ_thenR ?_; clear hK2 K2
                    refine HQ_post rfl rfl (.cons (res_tmp rfl) .nil) (fun w1 hs1 => ?_)
                    refine ⟨?_, hs1.keep⟩
                    simp_all [resVal]
                    all_goals first | done | rfl | omega | (rw [Bool.eq_iff_iff]; simp only [Bool.and_eq_true, Bool.or_eq_true, decide_eq_true_eq, beq_iff_eq]; omega) | (simp only [decide_eq_true_eq, decide_eq_false_iff_not]; omega)
                    skip)
                  skip)
              · try exact Bool.noConfusion h15
                all_goals try simp only [decide_eq_true_eq, decide_eq_false_iff_not, beq_iff_eq, beq_eq_false_iff_ne, bne_iff_ne, bne_eq_false_iff_eq, Bool.not_eq_true', Bool.not_eq_false', ne_eq, Int.not_lt, Int.not_le, ge_iff_le, gt_iff_lt] at h15
                all_goals (
                  refine HC_seq fun K27 hK27 => ?_
                  refine HC_region ?_
                  all_goals refine HL_r rfl rfl rfl rfl (R_pure rfl rfl rfl) ?_
                  all_goals refine HL_r rfl rfl rfl rfl (R_assign rfl) ?_
                  all_goals refine HL_nil ?_
                  all_goals (
                    refine HQ_then ?_
                    refine hK27 _ _ _ _ ?_; clear hK27 K27
                    refine HC_cond rfl (fun h28 => ?_) (fun h28 => ?_)
                    · try exact Bool.noConfusion h28
                      all_goals try simp only [decide_eq_true_eq, decide_eq_false_iff_not, beq_iff_eq, beq_eq_false_iff_ne, bne_iff_ne, bne_eq_false_iff_eq, Bool.not_eq_true', Bool.not_eq_false', ne_eq, Int.not_lt, Int.not_le, ge_iff_le, gt_iff_lt] at h28
                      all_goals (
                        refine HC_seq fun K29 hK29 => ?_
                        refine HC_region ?_
                        all_goals (refine HL_r rfl rfl rfl rfl (R_loadA (vs := [_, _, _, _, _, _, _]) rfl (known_L (k := 0) rfl) rfl rfl rfl rfl) ?_)
                        all_goals refine HL_callR rfl rfl rfl (enters_of Tryd.func77 (by kernel_rfl) rfl) (hon false false true false) (fun q hq => Or.inr hq) ?_
                        all_goals refine HL_r rfl rfl rfl rfl (R_move rfl) ?_
                        all_goals (refine HL_case 40 rfl (fun hb30 => ?_) (fun hb30 => ?_) <;> (try simp only [decide_eq_true_eq, decide_eq_false_iff_not, beq_iff_eq, beq_eq_false_iff_ne, bne_iff_ne, bne_eq_false_iff_eq, Bool.not_eq_true', Bool.not_eq_false', ne_eq, Int.not_lt, Int.not_le, ge_iff_le, gt_iff_lt] at hb30) <;> first | (refine HL_r rfl rfl rfl rfl (R_fieldAddr rfl rfl (by first | (simp only [Nat.zero_add, Nat.reduceAdd, Nat.reduceMul, Nat.zero_mul, Nat.mul_one, Nat.add_zero]; exact rfl) | exact rfl)) ?_) | (refine HL_skip rfl rfl rfl ?_))
                        all_goals first
                          | (refine HL_r rfl rfl rfl rfl (R_load rfl (known_L (k := 0) rfl) rfl rfl) ?_)
                          | (refine HL_skip rfl rfl rfl ?_)
                        all_goals first
                          | (refine HL_r rfl rfl rfl rfl (R_lenPl rfl hs rfl) ?_)
                          | (refine HL_skip rfl rfl rfl ?_)
                        all_goals first
                          | (refine HL_r rfl rfl rfl rfl (R_fieldAddr rfl rfl (by first | (simp only [Nat.zero_add, Nat.reduceAdd, Nat.reduceMul, Nat.zero_mul, Nat.mul_one, Nat.add_zero]; exact rfl) | exact rfl)) ?_)
                          | (refine HL_skip rfl rfl rfl ?_)
                        all_goals first
                          | (refine HL_r rfl rfl rfl rfl (R_load rfl (known_L (k := 1) rfl) rfl rfl) ?_)
                          | (refine HL_skip rfl rfl rfl ?_)
                        all_goals first
                          | (refine HL_r rfl rfl rfl rfl (R_pure rfl rfl rfl) ?_)
                          | (refine HL_skip rfl rfl rfl ?_)
                        all_goals first
                          | (refine HL_r rfl rfl rfl rfl (R_pickT rfl rfl) ?_)
                          | (refine HL_r rfl rfl rfl rfl (R_pickF rfl rfl) ?_)
                        all_goals refine HL_r rfl rfl rfl rfl (R_assign rfl) ?_
                        all_goals refine HL_nil ?_
                        all_goals (
                          refine HQ_then ?_
                          refine hK29 _ _ _ _ ?_; clear hK29 K29
                          refine HC_ret ?_
                          refine HQ_blockR ?_
                          refine HQ_thenR ?_; clear hK2 K2
                          refine HQ_post rfl rfl (.cons (res_tmp rfl) .nil) (fun w1 hs1 => ?_)
                          refine ⟨?_, hs1.keep⟩
                          simp_all [resVal]
                          all_goals first | done | rfl | omega | (rw [Bool.eq_iff_iff]; simp only [Bool.and_eq_true, Bool.or_eq_true, decide_eq_true_eq, beq_iff_eq]; omega) | (simp only [decide_eq_true_eq, decide_eq_false_iff_not]; omega)
                          skip)
                        skip)
                    · try exact Bool.noConfusion h28
                      all_goals try simp only [decide_eq_true_eq, decide_eq_false_iff_not, beq_iff_eq, beq_eq_false_iff_ne, bne_iff_ne, bne_eq_false_iff_eq, Bool.not_eq_true', Bool.not_eq_false', ne_eq, Int.not_lt, Int.not_le, ge_iff_le, gt_iff_lt] at h28
                      all_goals (
                        refine HC_seq fun K36 hK36 => ?_
                        refine HC_region ?_
                        all_goals refine HL_r rfl rfl rfl rfl (R_pure rfl rfl rfl) ?_
                        all_goals refine HL_r rfl rfl rfl rfl (R_assign rfl) ?_
                        all_goals refine HL_nil ?_
                        all_goals (
                          refine HQ_then ?_
                          refine hK36 _ _ _ _ ?_; clear hK36 K36
                          refine HC_cond rfl (fun h37 => ?_) (fun h37 => ?_)
                          · try exact Bool.noConfusion h37
                            all_goals try simp only [decide_eq_true_eq, decide_eq_false_iff_not, beq_iff_eq, beq_eq_false_iff_ne, bne_iff_ne, bne_eq_false_iff_eq, Bool.not_eq_true', Bool.not_eq_false', ne_eq, Int.not_lt, Int.not_le, ge_iff_le, gt_iff_lt] at h37
                            all_goals (
                              refine HC_seq fun K38 hK38 => ?_
                              refine HC_region ?_
                              all_goals (refine HL_r rfl rfl rfl rfl (R_loadA (vs := [_, _, _, _, _, _, _]) rfl (known_L (k := 0) rfl) rfl rfl rfl rfl) ?_)
                              all_goals refine HL_callR rfl rfl rfl (enters_of Tryd.func77 (by kernel_rfl) rfl) (hon false false true false) (fun q hq => Or.inr hq) ?_
                              all_goals refine HL_r rfl rfl rfl rfl (R_assign rfl) ?_
                              all_goals refine HL_nil ?_
                              all_goals (
                                refine HQ_then ?_
                                refine hK38 _ _ _ _ ?_; clear hK38 K38
                                refine HC_ret ?_
                                refine HQ_blockR ?_
                                refine HQ_thenR ?_; clear hK2 K2
                                refine HQ_post rfl rfl (.cons (res_tmp rfl) .nil) (fun w1 hs1 => ?_)
                                refine ⟨?_, hs1.keep⟩
                                simp_all [resVal]
                                all_goals first | done | rfl | omega | (rw [Bool.eq_iff_iff]; simp only [Bool.and_eq_true, Bool.or_eq_true, decide_eq_true_eq, beq_iff_eq]; omega) | (simp only [decide_eq_true_eq, decide_eq_false_iff_not]; omega)
                                skip)
                              skip)
                          · try exact Bool.noConfusion h37
                            all_goals try simp only [decide_eq_true_eq, decide_eq_false_iff_not, beq_iff_eq, beq_eq_false_iff_ne, bne_iff_ne, bne_eq_false_iff_eq, Bool.not_eq_true', Bool.not_eq_false', ne_eq, Int.not_lt, Int.not_le, ge_iff_le, gt_iff_lt] at h37
                            all_goals (
                              refine HC_seq fun K39 hK39 => ?_
                              refine HC_region ?_
                              all_goals refine HL_r rfl rfl rfl rfl (R_pure rfl rfl rfl) ?_
                              all_goals refine HL_r rfl rfl rfl rfl (R_assign rfl) ?_
                              all_goals refine HL_nil ?_
                              all_goals (
                                refine HQ_then ?_
                                refine hK39 _ _ _ _ ?_; clear hK39 K39
                                refine HC_cond rfl (fun h40 => ?_) (fun h40 => ?_)
                                · try exact Bool.noConfusion h40
                                  all_goals try simp only [decide_eq_true_eq, decide_eq_false_iff_not, beq_iff_eq, beq_eq_false_iff_ne, bne_iff_ne, bne_eq_false_iff_eq, Bool.not_eq_true', Bool.not_eq_false', ne_eq, Int.not_lt, Int.not_le, ge_iff_le, gt_iff_lt] at h40
                                  all_goals (
                                    refine HC_seq fun K41 hK41 => ?_
                                    refine HC_region ?_
                                    all_goals (refine HL_r rfl rfl rfl rfl (R_loadA (vs := [_, _, _, _, _, _, _]) rfl (known_L (k := 0) rfl) rfl rfl rfl rfl) ?_)
                                    all_goals refine HL_callR rfl rfl rfl (enters_of Tryd.func77 (by kernel_rfl) rfl) (hon false true false false) (fun q hq => Or.inr hq) ?_
                                    all_goals refine HL_r rfl rfl rfl rfl (R_move rfl) ?_
                                    all_goals (refine HL_case 56 rfl (fun hb42 => ?_) (fun hb42 => ?_) <;> (try simp only [decide_eq_true_eq, decide_eq_false_iff_not, beq_iff_eq, beq_eq_false_iff_ne, bne_iff_ne, bne_eq_false_iff_eq, Bool.not_eq_true', Bool.not_eq_false', ne_eq, Int.not_lt, Int.not_le, ge_iff_le, gt_iff_lt] at hb42) <;> first | (refine HL_r rfl rfl rfl rfl (R_fieldAddr rfl rfl (by first | (simp only [Nat.zero_add, Nat.reduceAdd, Nat.reduceMul, Nat.zero_mul, Nat.mul_one, Nat.add_zero]; exact rfl) | exact rfl)) ?_) | (refine HL_skip rfl rfl rfl ?_))
                                    all_goals first
                                      | (refine HL_r rfl rfl rfl rfl (R_load rfl (known_L (k := 0) rfl) rfl rfl) ?_)
                                      | (refine HL_skip rfl rfl rfl ?_)
                                    all_goals first
                                      | (refine HL_r rfl rfl rfl rfl (R_lenPl rfl hsb rfl) ?_)
                                      | (refine HL_skip rfl rfl rfl ?_)
                                    all_goals first
                                      | (refine HL_r rfl rfl rfl rfl (R_fieldAddr rfl rfl (by first | (simp only [Nat.zero_add, Nat.reduceAdd, Nat.reduceMul, Nat.zero_mul, Nat.mul_one, Nat.add_zero]; exact rfl) | exact rfl)) ?_)
                                      | (refine HL_skip rfl rfl rfl ?_)
                                    all_goals first
                                      | (refine HL_r rfl rfl rfl rfl (R_load rfl (known_L (k := 1) rfl) rfl rfl) ?_)
                                      | (refine HL_skip rfl rfl rfl ?_)
                                    all_goals first
                                      | (refine HL_r rfl rfl rfl rfl (R_pure rfl rfl rfl) ?_)
                                      | (refine HL_skip rfl rfl rfl ?_)
                                    all_goals first
                                      | (refine HL_r rfl rfl rfl rfl (R_pickT rfl rfl) ?_)
                                      | (refine HL_r rfl rfl rfl rfl (R_pickF rfl rfl) ?_)
                                    all_goals refine HL_r rfl rfl rfl rfl (R_assign rfl) ?_
                                    all_goals refine HL_nil ?_
                                    all_goals (
                                      refine HQ_then ?_
                                      refine hK41 _ _ _ _ ?_; clear hK41 K41
                                      refine HC_ret ?_
                                      refine HQ_blockR ?_
                                      refine HQ_thenR ?_; clear hK2 K2
                                      refine HQ_post rfl rfl (.cons (res_tmp rfl) .nil) (fun w1 hs1 => ?_)
                                      refine ⟨?_, hs1.keep⟩
                                      simp_all [resVal]
                                      all_goals first | done | rfl | omega | (rw [Bool.eq_iff_iff]; simp only [Bool.and_eq_true, Bool.or_eq_true, decide_eq_true_eq, beq_iff_eq]; omega) | (simp only [decide_eq_true_eq, decide_eq_false_iff_not]; omega)
                                      skip)
                                    skip)
                                · try exact Bool.noConfusion h40
                                  all_goals try simp only [decide_eq_true_eq, decide_eq_false_iff_not, beq_iff_eq, beq_eq_false_iff_ne, bne_iff_ne, bne_eq_false_iff_eq, Bool.not_eq_true', Bool.not_eq_false', ne_eq, Int.not_lt, Int.not_le, ge_iff_le, gt_iff_lt] at h40
                                  all_goals (
                                    refine HC_seq fun K48 hK48 => ?_
                                    refine HC_region ?_
                                    all_goals refine HL_r rfl rfl rfl rfl (R_pure rfl rfl rfl) ?_
                                    all_goals refine HL_r rfl rfl rfl rfl (R_assign rfl) ?_
                                    all_goals refine HL_nil ?_
                                    all_goals (
                                      refine HQ_then ?_
                                      refine hK48 _ _ _ _ ?_; clear hK48 K48
                                      refine HC_cond rfl (fun h49 => ?_) (fun h49 => ?_)
                                      · try exact Bool.noConfusion h49
                                        all_goals try simp only [decide_eq_true_eq, decide_eq_false_iff_not, beq_iff_eq, beq_eq_false_iff_ne, bne_iff_ne, bne_eq_false_iff_eq, Bool.not_eq_true', Bool.not_eq_false', ne_eq, Int.not_lt, Int.not_le, ge_iff_le, gt_iff_lt] at h49
                                        all_goals (
                                          refine HC_seq fun K50 hK50 => ?_
                                          refine HC_region ?_
                                          all_goals (refine HL_r rfl rfl rfl rfl (R_loadA (vs := [_, _, _, _, _, _, _]) rfl (known_L (k := 0) rfl) rfl rfl rfl rfl) ?_)
                                          all_goals refine HL_callR rfl rfl rfl (enters_of Tryd.func77 (by kernel_rfl) rfl) (hon false true false false) (fun q hq => Or.inr hq) ?_
                                          all_goals refine HL_r rfl rfl rfl rfl (R_assign rfl) ?_
                                          all_goals refine HL_nil ?_
                                          all_goals (
                                            refine HQ_then ?_
                                            refine hK50 _ _ _ _ ?_; clear hK50 K50
                                            refine HC_ret ?_
                                            refine HQ_blockR ?_
                                            refine HQ_thenR ?_; clear hK2 K2
                                            refine HQ_post rfl rfl (.cons (res_tmp rfl) .nil) (fun w1 hs1 => ?_)
                                            refine ⟨?_, hs1.keep⟩
                                            simp_all [resVal]
                                            all_goals first | done | rfl | omega | (rw [Bool.eq_iff_iff]; simp only [Bool.and_eq_true, Bool.or_eq_true, decide_eq_true_eq, beq_iff_eq]; omega) | (simp only [decide_eq_true_eq, decide_eq_false_iff_not]; omega)
                                            skip)
                                          skip)
                                      · try exact Bool.noConfusion h49
                                        all_goals try simp only [decide_eq_true_eq, decide_eq_false_iff_not, beq_iff_eq, beq_eq_false_iff_ne, bne_iff_ne, bne_eq_false_iff_eq, Bool.not_eq_true', Bool.not_eq_false', ne_eq, Int.not_lt, Int.not_le, ge_iff_le, gt_iff_lt] at h49
                                        all_goals (
                                          refine HC_seq fun K51 hK51 => ?_
                                          refine HC_region ?_
                                          all_goals refine HL_r rfl rfl rfl rfl (R_pure rfl rfl rfl) ?_
                                          all_goals refine HL_r rfl rfl rfl rfl (R_assign rfl) ?_
                                          all_goals refine HL_nil ?_
                                          all_goals (
                                            refine HQ_then ?_
                                            refine hK51 _ _ _ _ ?_; clear hK51 K51
                                            refine HC_cond rfl (fun h52 => ?_) (fun h52 => ?_)
                                            · try exact Bool.noConfusion h52
                                              all_goals try simp only [decide_eq_true_eq, decide_eq_false_iff_not, beq_iff_eq, beq_eq_false_iff_ne, bne_iff_ne, bne_eq_false_iff_eq, Bool.not_eq_true', Bool.not_eq_false', ne_eq, Int.not_lt, Int.not_le, ge_iff_le, gt_iff_lt] at h52
                                              all_goals (
                                                refine HC_seq fun K53 hK53 => ?_
                                                refine HC_region ?_
                                                all_goals (refine HL_r rfl rfl rfl rfl (R_loadA (vs := [_, _, _, _, _, _, _]) rfl (known_L (k := 0) rfl) rfl rfl rfl rfl) ?_)
                                                all_goals refine HL_callR rfl rfl rfl (enters_of Tryd.func77 (by kernel_rfl) rfl) (hon false false true false) (fun q hq => Or.inr hq) ?_
                                                all_goals refine HL_r rfl rfl rfl rfl (R_move rfl) ?_
                                                all_goals (refine HL_case 72 rfl (fun hb54 => ?_) (fun hb54 => ?_) <;> (try simp only [decide_eq_true_eq, decide_eq_false_iff_not, beq_iff_eq, beq_eq_false_iff_ne, bne_iff_ne, bne_eq_false_iff_eq, Bool.not_eq_true', Bool.not_eq_false', ne_eq, Int.not_lt, Int.not_le, ge_iff_le, gt_iff_lt] at hb54) <;> first | (refine HL_r rfl rfl rfl rfl (R_fieldAddr rfl rfl (by first | (simp only [Nat.zero_add, Nat.reduceAdd, Nat.reduceMul, Nat.zero_mul, Nat.mul_one, Nat.add_zero]; exact rfl) | exact rfl)) ?_) | (refine HL_skip rfl rfl rfl ?_))
                                                all_goals first
                                                  | (refine HL_r rfl rfl rfl rfl (R_load rfl (known_L (k := 0) rfl) rfl rfl) ?_)
                                                  | (refine HL_skip rfl rfl rfl ?_)
                                                all_goals first
                                                  | (refine HL_r rfl rfl rfl rfl (R_lenPl rfl hs rfl) ?_)
                                                  | (refine HL_skip rfl rfl rfl ?_)
                                                all_goals first
                                                  | (refine HL_r rfl rfl rfl rfl (R_fieldAddr rfl rfl (by first | (simp only [Nat.zero_add, Nat.reduceAdd, Nat.reduceMul, Nat.zero_mul, Nat.mul_one, Nat.add_zero]; exact rfl) | exact rfl)) ?_)
                                                  | (refine HL_skip rfl rfl rfl ?_)
                                                all_goals first
                                                  | (refine HL_r rfl rfl rfl rfl (R_load rfl (known_L (k := 1) rfl) rfl rfl) ?_)
                                                  | (refine HL_skip rfl rfl rfl ?_)
                                                all_goals first
                                                  | (refine HL_r rfl rfl rfl rfl (R_lenPl rfl hst rfl) ?_)
                                                  | (refine HL_skip rfl rfl rfl ?_)
                                                all_goals first
                                                  | (refine HL_r rfl rfl rfl rfl (R_pure rfl rfl rfl) ?_)
                                                  | (refine HL_skip rfl rfl rfl ?_)
                                                all_goals first
                                                  | (refine HL_r rfl rfl rfl rfl (R_pickT rfl rfl) ?_)
                                                  | (refine HL_r rfl rfl rfl rfl (R_pickF rfl rfl) ?_)
                                                all_goals refine HL_r rfl rfl rfl rfl (R_assign rfl) ?_
                                                all_goals refine HL_nil ?_
                                                all_goals (
                                                  refine HQ_then ?_
                                                  refine hK53 _ _ _ _ ?_; clear hK53 K53
                                                  refine HC_ret ?_
                                                  refine HQ_blockR ?_
                                                  refine HQ_thenR ?_; clear hK2 K2
                                                  refine HQ_post rfl rfl (.cons (res_tmp rfl) .nil) (fun w1 hs1 => ?_)
                                                  refine ⟨?_, hs1.keep⟩
                                                  simp_all [resVal]
                                                  all_goals first | done | rfl | omega | (rw [Bool.eq_iff_iff]; simp only [Bool.and_eq_true, Bool.or_eq_true, decide_eq_true_eq, beq_iff_eq]; omega) | (simp only [decide_eq_true_eq, decide_eq_false_iff_not]; omega)
                                                  skip)
                                                skip)
                                            · try exact Bool.noConfusion h52
                                              all_goals try simp only [decide_eq_true_eq, decide_eq_false_iff_not, beq_iff_eq, beq_eq_false_iff_ne, bne_iff_ne, bne_eq_false_iff_eq, Bool.not_eq_true', Bool.not_eq_false', ne_eq, Int.not_lt, Int.not_le, ge_iff_le, gt_iff_lt] at h52
                                              all_goals (
                                                refine HC_skip ?_
                                                refine HQ_blockN ?_
                                                refine HQ_then ?_
                                                refine hK2 _ _ _ _ ?_; clear hK2 K2
                                                refine HC_seq fun K61 hK61 => ?_
                                                refine HC_region ?_
                                                all_goals (refine HL_r rfl rfl rfl rfl (R_loadA (vs := [_, _, _, _, _, _, _]) rfl (known_L (k := 0) rfl) rfl rfl rfl rfl) ?_)
                                                all_goals refine HL_callR rfl rfl rfl (enters_of Tryd.func77 (by kernel_rfl) rfl) (hon false false true true) (fun q hq => Or.inr hq) ?_
                                                all_goals refine HL_r rfl rfl rfl rfl (R_move rfl) ?_
                                                all_goals (refine HL_case 83 rfl (fun hb62 => ?_) (fun hb62 => ?_) <;> (try simp only [decide_eq_true_eq, decide_eq_false_iff_not, beq_iff_eq, beq_eq_false_iff_ne, bne_iff_ne, bne_eq_false_iff_eq, Bool.not_eq_true', Bool.not_eq_false', ne_eq, Int.not_lt, Int.not_le, ge_iff_le, gt_iff_lt] at hb62) <;> first | (refine HL_r rfl rfl rfl rfl (R_fieldAddr rfl rfl (by first | (simp only [Nat.zero_add, Nat.reduceAdd, Nat.reduceMul, Nat.zero_mul, Nat.mul_one, Nat.add_zero]; exact rfl) | exact rfl)) ?_) | (refine HL_skip rfl rfl rfl ?_))
                                                all_goals first
                                                  | (refine HL_r rfl rfl rfl rfl (R_load rfl (known_L (k := 0) rfl) rfl rfl) ?_)
                                                  | (refine HL_skip rfl rfl rfl ?_)
                                                all_goals first
                                                  | (refine HL_r rfl rfl rfl rfl (R_lenPl rfl hs rfl) ?_)
                                                  | (refine HL_skip rfl rfl rfl ?_)
                                                all_goals first
                                                  | (refine HL_r rfl rfl rfl rfl (R_pure rfl rfl rfl) ?_)
                                                  | (refine HL_skip rfl rfl rfl ?_)
                                                all_goals first
                                                  | (refine HL_r rfl rfl rfl rfl (R_pickT rfl rfl) ?_)
                                                  | (refine HL_r rfl rfl rfl rfl (R_pickF rfl rfl) ?_)
                                                all_goals refine HL_r rfl rfl rfl rfl (R_move rfl) ?_
                                                all_goals first
                                                  | (refine HL_skip rfl rfl rfl ?_)
                                                  | (refine HL_case 89 rfl (fun hb66 => ?_) (fun hb66 => ?_) <;> (try simp only [decide_eq_true_eq, decide_eq_false_iff_not, beq_iff_eq, beq_eq_false_iff_ne, bne_iff_ne, bne_eq_false_iff_eq, Bool.not_eq_true', Bool.not_eq_false', ne_eq, Int.not_lt, Int.not_le, ge_iff_le, gt_iff_lt] at hb66) <;> first | (refine HL_r rfl rfl rfl rfl (R_fieldAddr rfl rfl (by first | (simp only [Nat.zero_add, Nat.reduceAdd, Nat.reduceMul, Nat.zero_mul, Nat.mul_one, Nat.add_zero]; exact rfl) | exact rfl)) ?_) | (refine HL_skip rfl rfl rfl ?_))
                                                all_goals first
                                                  | (refine HL_r rfl rfl rfl rfl (R_load rfl (known_L (k := 0) rfl) rfl rfl) ?_)
                                                  | (refine HL_skip rfl rfl rfl ?_)
                                                all_goals first
                                                  | (refine HL_r rfl rfl rfl rfl (R_pure rfl rfl rfl) ?_)
                                                  | (refine HL_skip rfl rfl rfl ?_)
                                                all_goals first
                                                  | (refine HL_r rfl rfl rfl rfl (R_pickT rfl rfl) ?_)
                                                  | (refine HL_r rfl rfl rfl rfl (R_pickF rfl rfl) ?_)
                                                all_goals refine HL_r rfl rfl rfl rfl (R_move rfl) ?_
                                                all_goals first
                                                  | (refine HL_skip rfl rfl rfl ?_)
                                                  | (refine HL_case 94 rfl (fun hb69 => ?_) (fun hb69 => ?_) <;> (try simp only [decide_eq_true_eq, decide_eq_false_iff_not, beq_iff_eq, beq_eq_false_iff_ne, bne_iff_ne, bne_eq_false_iff_eq, Bool.not_eq_true', Bool.not_eq_false', ne_eq, Int.not_lt, Int.not_le, ge_iff_le, gt_iff_lt] at hb69) <;> first | (refine HL_r rfl rfl rfl rfl (R_fieldAddr rfl rfl (by first | (simp only [Nat.zero_add, Nat.reduceAdd, Nat.reduceMul, Nat.zero_mul, Nat.mul_one, Nat.add_zero]; exact rfl) | exact rfl)) ?_) | (refine HL_skip rfl rfl rfl ?_))
                                                all_goals first
                                                  | (refine HL_r rfl rfl rfl rfl (R_load rfl (known_L (k := 0) rfl) rfl rfl) ?_)
                                                  | (refine HL_skip rfl rfl rfl ?_)
                                                all_goals first
                                                  | (refine HL_r rfl rfl rfl rfl (R_fieldAddr rfl rfl (by first | (simp only [Nat.zero_add, Nat.reduceAdd, Nat.reduceMul, Nat.zero_mul, Nat.mul_one, Nat.add_zero]; exact rfl) | exact rfl)) ?_)
                                                  | (refine HL_skip rfl rfl rfl ?_)
                                                all_goals first
                                                  | (refine HL_r rfl rfl rfl rfl (R_load rfl (known_L (k := 1) rfl) rfl rfl) ?_)
                                                  | (refine HL_skip rfl rfl rfl ?_)
                                                all_goals first
                                                  | (refine HL_r rfl rfl rfl rfl (R_lenPl rfl hst rfl) ?_)
                                                  | (refine HL_skip rfl rfl rfl ?_)
                                                all_goals first
                                                  | (refine HL_r rfl rfl rfl rfl (R_pure rfl rfl rfl) ?_)
                                                  | (refine HL_skip rfl rfl rfl ?_)
                                                all_goals first
                                                  | (refine HL_r rfl rfl rfl rfl (R_pickT rfl rfl) ?_)
                                                  | (refine HL_r rfl rfl rfl rfl (R_pickF rfl rfl) ?_)
                                                all_goals refine HL_r rfl rfl rfl rfl (R_assign rfl) ?_
                                                all_goals refine HL_nil ?_
                                                all_goals (
                                                  refine HQ_then ?_
                                                  refine hK61 _ _ _ _ ?_; clear hK61 K61
                                                  refine HC_ret ?_
                                                  refine HQ_post rfl rfl (.cons (res_tmp rfl) .nil) (fun w1 hs1 => ?_)
                                                  refine ⟨?_, hs1.keep⟩
                                                  simp_all [resVal]
                                                  all_goals first | done | rfl | omega | (rw [Bool.eq_iff_iff]; simp only [Bool.and_eq_true, Bool.or_eq_true, decide_eq_true_eq, beq_iff_eq]; omega) | (simp only [decide_eq_true_eq, decide_eq_false_iff_not]; omega)
                                                  skip)
                                                skip)
                                            skip)
                                          skip)
                                      skip)
                                    skip)
                                skip)
                              skip)
                          skip)
                        skip)
                    skip)
                  skip)
              skip)
            skip)
        skip)
      skip)
    skip)
set_option maxRecDepth 10000 in
theorem S_ref_In {R : List (Nat × Obj)} {k n : Int} {p : Pl} {ins : List Ty} {v : Vl} {i : Nat} {y : Ty} (ht : Ty.In R (.mk k n p ins)) (hv : v.In R) (hi8 : k = 8 → 0 ≤ v.pick) (hy : ins[inX k v.pick i]? = some y) : PureR Tryd.prog 40 [Ty.val (.mk k n p ins), v.val, .int .i64 (i : Int)].toArray y.val R := by
  cases ht with
  | mk hk hn hlt hst hit =>
  cases hv with
  | @mk a b c d bits pb items pi pick ha hb hc hd hlb hsb hl hs hp hi =>
  have hlt2 := (List.getElem?_eq_some_iff.1 hy).1
  change ins[if k = 7 then i else if k = 8 then pick.toNat else 0]? = some y at hy
  change (if k = 7 then i else if k = 8 then pick.toNat else 0) < ins.length at hlt2
  change k = 8 → 0 ≤ pick at hi8
  obtain ⟨yk, yn, yp, yi⟩ := y
  refine pureR_of_HC Tryd.func40 rfl rfl fun w => ?_
  refine HC_seq fun K1 hK1 => ?_
  refine HC_region ?_
  all_goals refine HL_box (cs := #[_, _, _]) rfl rfl rfl rfl fun r1 => ?_
  all_goals refine HL_box (cs := #[_, _, _, _, _, _, _]) rfl rfl rfl rfl fun r2 => ?_
  all_goals refine HL_alloc (cs := #[_, _, _]) rfl rfl rfl rfl fun r3 => ?_
  all_goals refine HL_nil ?_
  all_goals (
    refine HQ_then ?_
    refine hK1 _ _ _ _ ?_; clear hK1 K1
    refine HC_seq fun K2 hK2 => ?_
    refine HC_seq fun K3 hK3 => ?_
    refine HC_region ?_
    all_goals refine HL_r rfl rfl rfl rfl (R_fieldAddr rfl rfl (by first | (simp only [Nat.zero_add, Nat.reduceAdd, Nat.reduceMul, Nat.zero_mul, Nat.mul_one, Nat.add_zero]; exact rfl) | exact rfl)) ?_
    all_goals (refine HL_r rfl rfl rfl rfl (R_load rfl (known_L (k := 2) rfl) rfl rfl) ?_)
    all_goals refine HL_r rfl rfl rfl rfl (R_pure rfl rfl rfl) ?_
    all_goals refine HL_nil ?_
    all_goals (
      refine HQ_then ?_
      refine hK3 _ _ _ _ ?_; clear hK3 K3
      refine HC_cond rfl (fun h4 => ?_) (fun h4 => ?_)
      · try exact Bool.noConfusion h4
        all_goals try simp only [decide_eq_true_eq, decide_eq_false_iff_not, beq_iff_eq, beq_eq_false_iff_ne, bne_iff_ne, bne_eq_false_iff_eq, Bool.not_eq_true', Bool.not_eq_false', ne_eq, Int.not_lt, Int.not_le, ge_iff_le, gt_iff_lt] at h4
        all_goals (
          refine HC_seq fun K5 hK5 => ?_
          rw [if_pos (by assumption)] at hy hlt2
          refine HC_region ?_
          all_goals refine HL_r rfl rfl rfl rfl (R_fieldAddr rfl rfl (by first | (simp only [Nat.zero_add, Nat.reduceAdd, Nat.reduceMul, Nat.zero_mul, Nat.mul_one, Nat.add_zero]; exact rfl) | exact rfl)) ?_
          all_goals (refine HL_r rfl rfl rfl rfl (R_load rfl (known_L (k := 2) rfl) rfl rfl) ?_)
          all_goals refine HL_r rfl rfl rfl rfl (R_move rfl) ?_
          all_goals refine HL_r rfl rfl rfl rfl (R_indexPl (j := i) rfl hst rfl rfl rfl rfl (by omega)) ?_
          all_goals refine HL_r rfl rfl rfl rfl (R_loadTy (fun q hq => Or.inr hq) rfl hst hy rfl rfl) ?_
          all_goals (refine HL_storeA (k := 0) (n := 3) (cs' := #[_, _, _]) (vs := #[_, _, _]) rfl rfl rfl rfl rfl rfl rfl (by exact Nat.le_of_ble_eq_true rfl) rfl (by first | (simp only [List.set_cons_zero, List.set_cons_succ]; exact rfl) | exact rfl) ?_)
          all_goals refine HL_nil ?_
          all_goals (
            refine HQ_then ?_
            refine hK5 _ _ _ _ ?_; clear hK5 K5
            refine HC_ret ?_
            refine HQ_thenR ?_; clear hK2 K2
            first
              | refine HQ_post rfl rfl (.cons (res_cellA (vs := [_, _, _]) rfl (known_L (k := 0) rfl) rfl rfl) .nil) (fun w1 hs1 => ?_)
              | refine HQ_post rfl rfl (.cons (res_cellA (vs := [_, _, _]) rfl (known_L (k := 1) rfl) rfl rfl) .nil) (fun w1 hs1 => ?_)
              | refine HQ_post rfl rfl (.cons (res_cellA (vs := [_, _, _]) rfl (known_L (k := 2) rfl) rfl rfl) .nil) (fun w1 hs1 => ?_)
            exact ⟨rfl, hs1.keep⟩
            skip)
          skip)
      · try exact Bool.noConfusion h4
        all_goals try simp only [decide_eq_true_eq, decide_eq_false_iff_not, beq_iff_eq, beq_eq_false_iff_ne, bne_iff_ne, bne_eq_false_iff_eq, Bool.not_eq_true', Bool.not_eq_false', ne_eq, Int.not_lt, Int.not_le, ge_iff_le, gt_iff_lt] at h4
        all_goals (
          refine HC_skip ?_
          refine HQ_then ?_
          refine hK2 _ _ _ _ ?_; clear hK2 K2
          refine HC_seq fun K6 hK6 => ?_
          refine HC_seq fun K7 hK7 => ?_
          refine HC_region ?_
          all_goals refine HL_r rfl rfl rfl rfl (R_fieldAddr rfl rfl (by first | (simp only [Nat.zero_add, Nat.reduceAdd, Nat.reduceMul, Nat.zero_mul, Nat.mul_one, Nat.add_zero]; exact rfl) | exact rfl)) ?_
          all_goals (refine HL_r rfl rfl rfl rfl (R_load rfl (known_L (k := 2) rfl) rfl rfl) ?_)
          all_goals refine HL_r rfl rfl rfl rfl (R_pure rfl rfl rfl) ?_
          all_goals refine HL_nil ?_
          all_goals (
            refine HQ_then ?_
            refine hK7 _ _ _ _ ?_; clear hK7 K7
            refine HC_cond rfl (fun h8 => ?_) (fun h8 => ?_)
            · try exact Bool.noConfusion h8
              all_goals try simp only [decide_eq_true_eq, decide_eq_false_iff_not, beq_iff_eq, beq_eq_false_iff_ne, bne_iff_ne, bne_eq_false_iff_eq, Bool.not_eq_true', Bool.not_eq_false', ne_eq, Int.not_lt, Int.not_le, ge_iff_le, gt_iff_lt] at h8
              all_goals (
                refine HC_seq fun K9 hK9 => ?_
                rw [if_neg (by assumption), if_pos (by assumption)] at hy hlt2
                have hi9 := hi8 (by assumption)
                refine HC_region ?_
                all_goals refine HL_r rfl rfl rfl rfl (R_fieldAddr rfl rfl (by first | (simp only [Nat.zero_add, Nat.reduceAdd, Nat.reduceMul, Nat.zero_mul, Nat.mul_one, Nat.add_zero]; exact rfl) | exact rfl)) ?_
                all_goals (refine HL_r rfl rfl rfl rfl (R_load rfl (known_L (k := 2) rfl) rfl rfl) ?_)
                all_goals refine HL_r rfl rfl rfl rfl (R_fieldAddr rfl rfl (by first | (simp only [Nat.zero_add, Nat.reduceAdd, Nat.reduceMul, Nat.zero_mul, Nat.mul_one, Nat.add_zero]; exact rfl) | exact rfl)) ?_
                all_goals (refine HL_r rfl rfl rfl rfl (R_load rfl (known_L (k := 1) rfl) rfl rfl) ?_)
                all_goals refine HL_r rfl rfl rfl rfl (R_indexPl (j := pick.toNat) rfl hst rfl rfl rfl (by omega) (by omega)) ?_
                all_goals refine HL_r rfl rfl rfl rfl (R_loadTy (fun q hq => Or.inr hq) rfl hst hy rfl rfl) ?_
                all_goals (refine HL_storeA (k := 0) (n := 3) (cs' := #[_, _, _]) (vs := #[_, _, _]) rfl rfl rfl rfl rfl rfl rfl (by exact Nat.le_of_ble_eq_true rfl) rfl (by first | (simp only [List.set_cons_zero, List.set_cons_succ]; exact rfl) | exact rfl) ?_)
                all_goals refine HL_nil ?_
                all_goals (
                  refine HQ_then ?_
                  refine hK9 _ _ _ _ ?_; clear hK9 K9
                  refine HC_ret ?_
                  refine HQ_thenR ?_; clear hK6 K6
                  first
                    | refine HQ_post rfl rfl (.cons (res_cellA (vs := [_, _, _]) rfl (known_L (k := 0) rfl) rfl rfl) .nil) (fun w1 hs1 => ?_)
                    | refine HQ_post rfl rfl (.cons (res_cellA (vs := [_, _, _]) rfl (known_L (k := 1) rfl) rfl rfl) .nil) (fun w1 hs1 => ?_)
                    | refine HQ_post rfl rfl (.cons (res_cellA (vs := [_, _, _]) rfl (known_L (k := 2) rfl) rfl rfl) .nil) (fun w1 hs1 => ?_)
                  exact ⟨rfl, hs1.keep⟩
                  skip)
                skip)
            · try exact Bool.noConfusion h8
              all_goals try simp only [decide_eq_true_eq, decide_eq_false_iff_not, beq_iff_eq, beq_eq_false_iff_ne, bne_iff_ne, bne_eq_false_iff_eq, Bool.not_eq_true', Bool.not_eq_false', ne_eq, Int.not_lt, Int.not_le, ge_iff_le, gt_iff_lt] at h8
              all_goals (
                refine HC_skip ?_
                refine HQ_then ?_
                refine hK6 _ _ _ _ ?_; clear hK6 K6
                refine HC_seq fun K10 hK10 => ?_
                rw [if_neg (by assumption), if_neg (by assumption)] at hy hlt2
                refine HC_region ?_
                all_goals refine HL_r rfl rfl rfl rfl (R_fieldAddr rfl rfl (by first | (simp only [Nat.zero_add, Nat.reduceAdd, Nat.reduceMul, Nat.zero_mul, Nat.mul_one, Nat.add_zero]; exact rfl) | exact rfl)) ?_
                all_goals (refine HL_r rfl rfl rfl rfl (R_load rfl (known_L (k := 2) rfl) rfl rfl) ?_)
                all_goals refine HL_r rfl rfl rfl rfl (R_indexPl (j := 0) rfl hst rfl rfl rfl rfl (by omega)) ?_
                all_goals refine HL_r rfl rfl rfl rfl (R_loadTy (fun q hq => Or.inr hq) rfl hst hy rfl rfl) ?_
                all_goals (refine HL_storeA (k := 0) (n := 3) (cs' := #[_, _, _]) (vs := #[_, _, _]) rfl rfl rfl rfl rfl rfl rfl (by exact Nat.le_of_ble_eq_true rfl) rfl (by first | (simp only [List.set_cons_zero, List.set_cons_succ]; exact rfl) | exact rfl) ?_)
                all_goals refine HL_nil ?_
                all_goals (
                  refine HQ_then ?_
                  refine hK10 _ _ _ _ ?_; clear hK10 K10
                  refine HC_ret ?_
                  first
                    | refine HQ_post rfl rfl (.cons (res_cellA (vs := [_, _, _]) rfl (known_L (k := 0) rfl) rfl rfl) .nil) (fun w1 hs1 => ?_)
                    | refine HQ_post rfl rfl (.cons (res_cellA (vs := [_, _, _]) rfl (known_L (k := 1) rfl) rfl rfl) .nil) (fun w1 hs1 => ?_)
                    | refine HQ_post rfl rfl (.cons (res_cellA (vs := [_, _, _]) rfl (known_L (k := 2) rfl) rfl rfl) .nil) (fun w1 hs1 => ?_)
                  exact ⟨rfl, hs1.keep⟩
                  skip)
                skip)
            skip)
          skip)
      skip)
    skip)
theorem ofT_8 {n : Int} {m : Nat} {v : Vl} (h : ofT 8 n m v = true) : 0 ≤ v.pick := by
  unfold ofT at h
  simp at h
  omega
set_option maxRecDepth 10000 in
theorem S_ref_fits {R : List (Nat × Obj)} {v : Vl} (hv : v.In R) : ∀ (t : Ty) (dp : Int), t.In R → chk t dp = 0 → PureR Tryd.prog 31 [t.val, v.val].toArray (.int .i64 (fitT v t)) R := by
  have hv0 := hv
  induction hv with
  | @mk a b c d bits pb items pi pick ha hb hc hd hlb hsb hl hs hp hi ih =>
  intro t dp ht hck
  have ht0 := ht
  cases ht with
  | @mk k n p ins hk hn hlt hst hit =>
  have hof := S_ref_of ht0 hv0
  have hin := fun i y => S_ref_In (i := i) (y := y) ht0 hv0
  refine pureR_of_HC Tryd.func31 rfl rfl fun w => ?_
  refine HC_seq fun K1 hK1 => ?_
  refine HC_region ?_
  all_goals refine HL_box (cs := #[_, _, _]) rfl rfl rfl rfl fun r1 => ?_
  all_goals refine HL_box (cs := #[_, _, _, _, _, _, _]) rfl rfl rfl rfl fun r2 => ?_
  all_goals refine HL_r rfl rfl rfl rfl (R_assign rfl) ?_
  all_goals refine HL_nil ?_
  all_goals (
    refine HQ_then ?_
    refine hK1 _ _ _ _ ?_; clear hK1 K1
    refine HC_seq fun K2 hK2 => ?_
    refine HC_seq fun K3 hK3 => ?_
    refine HC_region ?_
    all_goals refine HL_r rfl rfl rfl rfl (R_fieldAddr rfl rfl (by first | (simp only [Nat.zero_add, Nat.reduceAdd, Nat.reduceMul, Nat.zero_mul, Nat.mul_one, Nat.add_zero]; exact rfl) | exact rfl)) ?_
    all_goals (refine HL_r rfl rfl rfl rfl (R_load rfl (known_L (k := 1) rfl) rfl rfl) ?_)
    all_goals refine HL_r rfl rfl rfl rfl (R_pure rfl rfl rfl) ?_
    all_goals refine HL_r rfl rfl rfl rfl (R_move rfl) ?_
    all_goals (refine HL_case 11 rfl (fun hb4 => ?_) (fun hb4 => ?_) <;> (try simp only [decide_eq_true_eq, decide_eq_false_iff_not, beq_iff_eq, beq_eq_false_iff_ne, bne_iff_ne, bne_eq_false_iff_eq, Bool.not_eq_true', Bool.not_eq_false', ne_eq, Int.not_lt, Int.not_le, ge_iff_le, gt_iff_lt] at hb4) <;> first | (refine HL_r rfl rfl rfl rfl (R_fieldAddr rfl rfl (by first | (simp only [Nat.zero_add, Nat.reduceAdd, Nat.reduceMul, Nat.zero_mul, Nat.mul_one, Nat.add_zero]; exact rfl) | exact rfl)) ?_) | (refine HL_skip rfl rfl rfl ?_))
    all_goals first
      | (refine HL_r rfl rfl rfl rfl (R_load rfl (known_L (k := 0) rfl) rfl rfl) ?_)
      | (refine HL_skip rfl rfl rfl ?_)
    all_goals first
      | (refine HL_r rfl rfl rfl rfl (R_lenPl rfl hs rfl) ?_)
      | (refine HL_skip rfl rfl rfl ?_)
    all_goals first
      | (refine HL_r rfl rfl rfl rfl (R_fieldAddr rfl rfl (by first | (simp only [Nat.zero_add, Nat.reduceAdd, Nat.reduceMul, Nat.zero_mul, Nat.mul_one, Nat.add_zero]; exact rfl) | exact rfl)) ?_)
      | (refine HL_skip rfl rfl rfl ?_)
    all_goals first
      | (refine HL_r rfl rfl rfl rfl (R_load rfl (known_L (k := 1) rfl) rfl rfl) ?_)
      | (refine HL_skip rfl rfl rfl ?_)
    all_goals first
      | (refine HL_r rfl rfl rfl rfl (R_pure rfl rfl rfl) ?_)
      | (refine HL_skip rfl rfl rfl ?_)
    all_goals first
      | (refine HL_r rfl rfl rfl rfl (R_pickT rfl rfl) ?_)
      | (refine HL_r rfl rfl rfl rfl (R_pickF rfl rfl) ?_)
    all_goals refine HL_r rfl rfl rfl rfl (R_move rfl) ?_
    all_goals first
      | (refine HL_r rfl rfl rfl rfl (R_fieldAddr rfl rfl (by first | (simp only [Nat.zero_add, Nat.reduceAdd, Nat.reduceMul, Nat.zero_mul, Nat.mul_one, Nat.add_zero]; exact rfl) | exact rfl)) ?_)
      | (refine HL_case 19 rfl (fun hb10 => ?_) (fun hb10 => ?_) <;> (try simp only [decide_eq_true_eq, decide_eq_false_iff_not, beq_iff_eq, beq_eq_false_iff_ne, bne_iff_ne, bne_eq_false_iff_eq, Bool.not_eq_true', Bool.not_eq_false', ne_eq, Int.not_lt, Int.not_le, ge_iff_le, gt_iff_lt] at hb10) <;> first | (refine HL_r rfl rfl rfl rfl (R_fieldAddr rfl rfl (by first | (simp only [Nat.zero_add, Nat.reduceAdd, Nat.reduceMul, Nat.zero_mul, Nat.mul_one, Nat.add_zero]; exact rfl) | exact rfl)) ?_) | (refine HL_skip rfl rfl rfl ?_))
    all_goals first
      | (refine HL_r rfl rfl rfl rfl (R_load rfl (known_L (k := 1) rfl) rfl rfl) ?_)
      | (refine HL_skip rfl rfl rfl ?_)
    all_goals first
      | (refine HL_r rfl rfl rfl rfl (R_pure rfl rfl rfl) ?_)
      | (refine HL_skip rfl rfl rfl ?_)
    all_goals first
      | (refine HL_r rfl rfl rfl rfl (R_move rfl) ?_)
      | (refine HL_skip rfl rfl rfl ?_)
    all_goals first
      | (refine HL_skip rfl rfl rfl ?_)
      | (refine HL_case 23 rfl (fun hb14 => ?_) (fun hb14 => ?_) <;> (try simp only [decide_eq_true_eq, decide_eq_false_iff_not, beq_iff_eq, beq_eq_false_iff_ne, bne_iff_ne, bne_eq_false_iff_eq, Bool.not_eq_true', Bool.not_eq_false', ne_eq, Int.not_lt, Int.not_le, ge_iff_le, gt_iff_lt] at hb14) <;> first | (refine HL_r rfl rfl rfl rfl (R_fieldAddr rfl rfl (by first | (simp only [Nat.zero_add, Nat.reduceAdd, Nat.reduceMul, Nat.zero_mul, Nat.mul_one, Nat.add_zero]; exact rfl) | exact rfl)) ?_) | (refine HL_skip rfl rfl rfl ?_))
    all_goals first
      | (refine HL_r rfl rfl rfl rfl (R_load rfl (known_L (k := 0) rfl) rfl rfl) ?_)
      | (refine HL_skip rfl rfl rfl ?_)
    all_goals first
      | (refine HL_r rfl rfl rfl rfl (R_lenPl rfl hsb rfl) ?_)
      | (refine HL_skip rfl rfl rfl ?_)
    all_goals first
      | (refine HL_r rfl rfl rfl rfl (R_fieldAddr rfl rfl (by first | (simp only [Nat.zero_add, Nat.reduceAdd, Nat.reduceMul, Nat.zero_mul, Nat.mul_one, Nat.add_zero]; exact rfl) | exact rfl)) ?_)
      | (refine HL_skip rfl rfl rfl ?_)
    all_goals first
      | (refine HL_r rfl rfl rfl rfl (R_load rfl (known_L (k := 1) rfl) rfl rfl) ?_)
      | (refine HL_skip rfl rfl rfl ?_)
    all_goals first
      | (refine HL_r rfl rfl rfl rfl (R_pure rfl rfl rfl) ?_)
      | (refine HL_skip rfl rfl rfl ?_)
    all_goals first
      | (refine HL_r rfl rfl rfl rfl (R_pickT rfl rfl) ?_)
      | (refine HL_r rfl rfl rfl rfl (R_pickF rfl rfl) ?_)
      | (refine HL_skip rfl rfl rfl ?_)
    all_goals first
      | (refine HL_r rfl rfl rfl rfl (R_pickT rfl rfl) ?_)
      | (refine HL_r rfl rfl rfl rfl (R_pickF rfl rfl) ?_)
    all_goals refine HL_nil ?_
    all_goals (
      refine HQ_then ?_
      refine hK3 _ _ _ _ ?_; clear hK3 K3
      refine HC_cond rfl (fun h21 => ?_) (fun h21 => ?_)
      · try exact Bool.noConfusion h21
        all_goals try simp only [decide_eq_true_eq, decide_eq_false_iff_not, beq_iff_eq, beq_eq_false_iff_ne, bne_iff_ne, bne_eq_false_iff_eq, Bool.not_eq_true', Bool.not_eq_false', ne_eq, Int.not_lt, Int.not_le, ge_iff_le, gt_iff_lt] at h21
        all_goals (
          refine HC_seq fun K22 hK22 => ?_
          refine HC_region ?_
          all_goals refine HL_r rfl rfl rfl rfl (R_assign rfl) ?_
          all_goals refine HL_nil ?_
          all_goals (
            refine HQ_then ?_
            refine hK22 _ _ _ _ ?_; clear hK22 K22
            refine HC_ret ?_
            refine HQ_thenR ?_; clear hK2 K2
            refine HQ_post rfl rfl (.cons (res_tmp rfl) .nil) (fun w1 hs1 => ?_)
            refine ⟨?_, hs1.keep⟩
            first
              | (rw [fitT, if_pos (by omega)]; rfl)
              | (rw [fitT, if_neg (by omega), if_pos (by assumption)]; rfl)
              | (rw [fitT, if_neg (by omega), if_neg (by simp_all), ← hinv, if_neg (by assumption)]; rfl)
              | (rw [fitT, if_neg (by omega), if_neg (by simp_all), ← hinv, List.drop_of_length_le (by omega), fitL]; rfl)
            skip)
          skip)
      · try exact Bool.noConfusion h21
        all_goals try simp only [decide_eq_true_eq, decide_eq_false_iff_not, beq_iff_eq, beq_eq_false_iff_ne, bne_iff_ne, bne_eq_false_iff_eq, Bool.not_eq_true', Bool.not_eq_false', ne_eq, Int.not_lt, Int.not_le, ge_iff_le, gt_iff_lt] at h21
        all_goals (
          refine HC_skip ?_
          refine HQ_then ?_
          refine hK2 _ _ _ _ ?_; clear hK2 K2
          refine HC_seq fun K23 hK23 => ?_
          refine HC_region ?_
          all_goals (refine HL_r rfl rfl rfl rfl (R_loadA (vs := [_, _, _]) rfl (known_L (k := 1) rfl) rfl rfl rfl rfl) ?_)
          all_goals (refine HL_r rfl rfl rfl rfl (R_loadA (vs := [_, _, _, _, _, _, _]) rfl (known_L (k := 0) rfl) rfl rfl rfl rfl) ?_)
          all_goals refine HL_callR rfl rfl rfl (enters_of Tryd.func39 (by kernel_rfl) rfl) hof (fun q hq => Or.inr hq) ?_
          all_goals refine HL_r rfl rfl rfl rfl (R_assign rfl) ?_
          all_goals refine HL_nil ?_
          all_goals (
            refine HQ_then ?_
            refine hK23 _ _ _ _ ?_; clear hK23 K23
            refine HC_seq fun K24 hK24 => ?_
            refine HC_seq fun K25 hK25 => ?_
            refine HC_region ?_
            all_goals refine HL_r rfl rfl rfl rfl (R_move rfl) ?_
            all_goals refine HL_r rfl rfl rfl rfl (R_pure rfl rfl rfl) ?_
            all_goals refine HL_nil ?_
            all_goals (
              refine HQ_then ?_
              refine hK25 _ _ _ _ ?_; clear hK25 K25
              refine HC_cond rfl (fun h26 => ?_) (fun h26 => ?_)
              · try exact Bool.noConfusion h26
                all_goals try simp only [decide_eq_true_eq, decide_eq_false_iff_not, beq_iff_eq, beq_eq_false_iff_ne, bne_iff_ne, bne_eq_false_iff_eq, Bool.not_eq_true', Bool.not_eq_false', ne_eq, Int.not_lt, Int.not_le, ge_iff_le, gt_iff_lt] at h26
                all_goals (
                  refine HC_seq fun K27 hK27 => ?_
                  refine HC_region ?_
                  all_goals refine HL_r rfl rfl rfl rfl (R_assign rfl) ?_
                  all_goals refine HL_nil ?_
                  all_goals (
                    refine HQ_then ?_
                    refine hK27 _ _ _ _ ?_; clear hK27 K27
                    refine HC_ret ?_
                    refine HQ_thenR ?_; clear hK24 K24
                    refine HQ_post rfl rfl (.cons (res_tmp rfl) .nil) (fun w1 hs1 => ?_)
                    refine ⟨?_, hs1.keep⟩
                    first
                      | (rw [fitT, if_pos (by omega)]; rfl)
                      | (rw [fitT, if_neg (by omega), if_pos (by assumption)]; rfl)
                      | (rw [fitT, if_neg (by omega), if_neg (by simp_all), ← hinv, if_neg (by assumption)]; rfl)
                      | (rw [fitT, if_neg (by omega), if_neg (by simp_all), ← hinv, List.drop_of_length_le (by omega), fitL]; rfl)
                    skip)
                  skip)
              · try exact Bool.noConfusion h26
                all_goals try simp only [decide_eq_true_eq, decide_eq_false_iff_not, beq_iff_eq, beq_eq_false_iff_ne, bne_iff_ne, bne_eq_false_iff_eq, Bool.not_eq_true', Bool.not_eq_false', ne_eq, Int.not_lt, Int.not_le, ge_iff_le, gt_iff_lt] at h26
                all_goals (
                  refine HC_skip ?_
                  refine HQ_then ?_
                  refine hK24 _ _ _ _ ?_; clear hK24 K24
                  refine HC_seq fun K28 hK28 => ?_
                  refine HC_seq fun K29 hK29 => ?_
                  refine HC_region ?_
                  all_goals refine HL_r rfl rfl rfl rfl (R_assign rfl) ?_
                  all_goals refine HL_nil ?_
                  all_goals (
                    refine HQ_then ?_
                    refine hK29 _ _ _ _ ?_; clear hK29 K29
                    refine HC_block ?_
                    refine HC_loop (σ := Nat) (fun i => i ≤ items.length ∧ fitL (items.drop i) k pick ins i = fitL items k pick ins 0) (fun i => [(2, .pointer (some ⟨r1, 0, none⟩)), (3, .pointer (some ⟨r2, 0, none⟩)), (6, .int .i64 (i : Int))]) (fun _ => [(r2, .cells #[uV a, uV b, uV c, uV d, plV bits.length pb, plV items.length pi, .int .i64 pick] 31 (0, 0)), (r1, .cells #[.int .i64 k, .int .i64 n, plV ins.length p] 24 (0, 0))]) (fun _ _ _ => True) (fun i => items.length - i) 0 ⟨by omega, rfl⟩ (.cons rfl (.cons rfl (.cons rfl .nil))) (List.Sublist.refl _) (fun _ _ h => h) ?_
                    rintro i ⟨hi1, hinv⟩
                    refine HC_seq fun K30 hK30 => ?_
                    refine HC_seq fun K31 hK31 => ?_
                    refine HC_region ?_
                    all_goals refine HL_r rfl rfl rfl rfl (R_move rfl) ?_
                    all_goals refine HL_r rfl rfl rfl rfl (R_fieldAddr rfl rfl (by first | (simp only [Nat.zero_add, Nat.reduceAdd, Nat.reduceMul, Nat.zero_mul, Nat.mul_one, Nat.add_zero]; exact rfl) | exact rfl)) ?_
                    all_goals (refine HL_r rfl rfl rfl rfl (R_load rfl (known_L (k := 0) rfl) rfl rfl) ?_)
                    all_goals (refine HL_r rfl rfl rfl rfl (R_lenPl rfl hs rfl) ?_)
                    all_goals refine HL_r rfl rfl rfl rfl (R_pure rfl rfl rfl) ?_
                    all_goals refine HL_nil ?_
                    all_goals (
                      refine HQ_then ?_
                      refine hK31 _ _ _ _ ?_; clear hK31 K31
                      refine HC_cond rfl (fun h32 => ?_) (fun h32 => ?_)
                      · try exact Bool.noConfusion h32
                        all_goals try simp only [decide_eq_true_eq, decide_eq_false_iff_not, beq_iff_eq, beq_eq_false_iff_ne, bne_iff_ne, bne_eq_false_iff_eq, Bool.not_eq_true', Bool.not_eq_false', ne_eq, Int.not_lt, Int.not_le, ge_iff_le, gt_iff_lt] at h32
                        all_goals (
                          refine HC_skip ?_
                          refine HQ_then ?_
                          refine hK30 _ _ _ _ ?_; clear hK30 K30
                          refine HC_seq fun K33 hK33 => ?_
                          refine HC_block ?_
                          refine HC_seq fun K34 hK34 => ?_
                          obtain ⟨x, hx, hmx⟩ := getI (show i < items.length by omega)
                          have hii : i < items.length := by omega
                          have hy := inTy_get (inX_lt (v := .mk a b c d bits pb items pi pick) (i := i) hck (by assumption) hii)
                          rw [dropI hx, fitL] at hinv
                          refine HC_draw 11 (by kernel_rfl) (by kernel_rfl) ?_
                          all_goals (refine HD_r rfl rfl rfl (R_loadA (vs := [_, _, _]) rfl (known_L (k := 1) rfl) rfl rfl rfl rfl) ?_)
                          all_goals (refine HD_r rfl rfl rfl (R_loadA (vs := [_, _, _, _, _, _, _]) rfl (known_L (k := 0) rfl) rfl rfl rfl rfl) ?_)
                          all_goals refine HD_r rfl rfl rfl (R_move rfl) ?_
                          all_goals refine HD_callR rfl rfl rfl (enters_of Tryd.func40 (by kernel_rfl) rfl) (hin i _ (fun h => by subst h; exact ofT_8 (by assumption)) hy.1) (fun q hq => Or.inr hq) ?_
                          all_goals refine HD_r rfl rfl rfl (R_fieldAddr rfl rfl (by first | (simp only [Nat.zero_add, Nat.reduceAdd, Nat.reduceMul, Nat.zero_mul, Nat.mul_one, Nat.add_zero]; exact rfl) | exact rfl)) ?_
                          all_goals (refine HD_r rfl rfl rfl (R_load rfl (known_L (k := 0) rfl) rfl rfl) ?_)
                          all_goals refine HD_r rfl rfl rfl (R_move rfl) ?_
                          all_goals refine HD_r rfl rfl rfl (R_indexPl (j := i) rfl hs rfl rfl rfl rfl (by omega)) ?_
                          all_goals refine HD_r rfl rfl rfl (R_loadVl (fun q hq => Or.inr hq) rfl hs hx rfl rfl) ?_
                          all_goals refine HD_callR rfl rfl rfl (enters_of Tryd.func31 (by kernel_rfl) rfl) (ih x hmx (hi x hmx) _ (dp + 1) (hit _ hy.2) ((chk_mk hck).2.2.2 _ hy.2)) (fun q hq => Or.inr hq) ?_
                          all_goals refine HD_r rfl rfl rfl (R_assign rfl) ?_
                          all_goals refine HD_end ?_
                          all_goals refine HL_nil ?_
                          all_goals (
                            refine HQ_then ?_
                            refine hK34 _ _ _ _ ?_; clear hK34 K34
                            refine HC_seq fun K35 hK35 => ?_
                            refine HC_region ?_
                            all_goals refine HL_r rfl rfl rfl rfl (R_move rfl) ?_
                            all_goals refine HL_r rfl rfl rfl rfl (R_pure rfl rfl rfl) ?_
                            all_goals refine HL_nil ?_
                            all_goals (
                              refine HQ_then ?_
                              refine hK35 _ _ _ _ ?_; clear hK35 K35
                              refine HC_cond rfl (fun h36 => ?_) (fun h36 => ?_)
                              · try exact Bool.noConfusion h36
                                all_goals try simp only [decide_eq_true_eq, decide_eq_false_iff_not, beq_iff_eq, beq_eq_false_iff_ne, bne_iff_ne, bne_eq_false_iff_eq, Bool.not_eq_true', Bool.not_eq_false', ne_eq, Int.not_lt, Int.not_le, ge_iff_le, gt_iff_lt] at h36
                                all_goals (
                                  refine HC_seq fun K37 hK37 => ?_
                                  refine HC_region ?_
                                  all_goals refine HL_r rfl rfl rfl rfl (R_move rfl) ?_
                                  all_goals refine HL_r rfl rfl rfl rfl (R_assign rfl) ?_
                                  all_goals refine HL_nil ?_
                                  all_goals (
                                    refine HQ_then ?_
                                    refine hK37 _ _ _ _ ?_; clear hK37 K37
                                    refine HC_ret ?_
                                    refine HQ_blockR ?_
                                    refine HQ_thenR ?_; clear hK33 K33
                                    refine HQ_thenR ?_
                                    refine HQ_blockR ?_
                                    refine HQ_thenR ?_; clear hK28 K28
                                    refine HQ_post rfl rfl (.cons (res_tmp rfl) .nil) (fun w1 hs1 => ?_)
                                    refine ⟨?_, hs1.keep⟩
                                    first
                                      | (rw [fitT, if_pos (by omega)]; rfl)
                                      | (rw [fitT, if_neg (by omega), if_pos (by assumption)]; rfl)
                                      | (rw [fitT, if_neg (by omega), if_neg (by simp_all), ← hinv, if_neg (by assumption)]; rfl)
                                      | (rw [fitT, if_neg (by omega), if_neg (by simp_all), ← hinv, List.drop_of_length_le (by omega), fitL]; rfl)
                                    skip)
                                  skip)
                              · try exact Bool.noConfusion h36
                                all_goals try simp only [decide_eq_true_eq, decide_eq_false_iff_not, beq_iff_eq, beq_eq_false_iff_ne, bne_iff_ne, bne_eq_false_iff_eq, Bool.not_eq_true', Bool.not_eq_false', ne_eq, Int.not_lt, Int.not_le, ge_iff_le, gt_iff_lt] at h36
                                all_goals (
                                  refine HC_skip ?_
                                  refine HQ_blockN ?_
                                  refine HQ_then ?_
                                  refine hK33 _ _ _ _ ?_; clear hK33 K33
                                  refine HC_region ?_
                                  all_goals refine HL_r rfl rfl rfl rfl (R_move rfl) ?_
                                  all_goals (refine HL_r rfl rfl rfl rfl (R_pure rfl rfl rfl) ?_; refine HL_wrap_i64 (by omega) (by omega) ?_)
                                  all_goals refine HL_r rfl rfl rfl rfl (R_assign rfl) ?_
                                  all_goals refine HL_nil ?_
                                  all_goals (
                                    refine HQ_then ?_
                                    exact HQ_again (i + 1) ⟨by omega, by rw [if_pos (by assumption)] at hinv; exact hinv⟩ (by omega) (.cons rfl (.cons rfl (.cons rfl .nil))) (List.Sublist.refl _) (fun _ _ h => h)
                                    skip)
                                  skip)
                              skip)
                            skip)
                          skip)
                      · try exact Bool.noConfusion h32
                        all_goals try simp only [decide_eq_true_eq, decide_eq_false_iff_not, beq_iff_eq, beq_eq_false_iff_ne, bne_iff_ne, bne_eq_false_iff_eq, Bool.not_eq_true', Bool.not_eq_false', ne_eq, Int.not_lt, Int.not_le, ge_iff_le, gt_iff_lt] at h32
                        all_goals (
                          refine HC_exit ?_
                          refine HQ_thenE ?_; clear hK30 K30
                          refine HQ_thenE ?_
                          refine HQ_blockE ?_
                          refine HQ_then ?_
                          refine hK28 _ _ _ _ ?_; clear hK28 K28
                          refine HC_seq fun K38 hK38 => ?_
                          refine HC_region ?_
                          all_goals refine HL_r rfl rfl rfl rfl (R_assign rfl) ?_
                          all_goals refine HL_nil ?_
                          all_goals (
                            refine HQ_then ?_
                            refine hK38 _ _ _ _ ?_; clear hK38 K38
                            refine HC_ret ?_
                            refine HQ_post rfl rfl (.cons (res_tmp rfl) .nil) (fun w1 hs1 => ?_)
                            refine ⟨?_, hs1.keep⟩
                            first
                              | (rw [fitT, if_pos (by omega)]; rfl)
                              | (rw [fitT, if_neg (by omega), if_pos (by assumption)]; rfl)
                              | (rw [fitT, if_neg (by omega), if_neg (by simp_all), ← hinv, if_neg (by assumption)]; rfl)
                              | (rw [fitT, if_neg (by omega), if_neg (by simp_all), ← hinv, List.drop_of_length_le (by omega), fitL]; rfl)
                            skip)
                          skip)
                      skip)
                    skip)
                  skip)
              skip)
            skip)
          skip)
      skip)
    skip)
def fitsT (t : Ty) (v : Vl) : Int := if chk t 0 = 0 then fitT v t else chk t 0
set_option maxRecDepth 10000 in
theorem S_ref_Fits {R : List (Nat × Obj)} {t : Ty} {v : Vl} (ht : t.In R) (hv : v.In R) : PureR Tryd.prog 18 [t.val, v.val].toArray (.int .i64 (fitsT t v)) R := by
  have h1 := S_ref_Check ht
  have h2 := S_ref_fits hv t 0 ht
  obtain ⟨k, n, p, ins⟩ := t
  obtain ⟨a, b, c, d, bits, pb, items, pi, pick⟩ := v
  refine pureR_of_HC Tryd.func18 rfl rfl fun w => ?_
  refine HC_seq fun K1 hK1 => ?_
  refine HC_region ?_
  all_goals refine HL_box (cs := #[_, _, _]) rfl rfl rfl rfl fun r1 => ?_
  all_goals refine HL_box (cs := #[_, _, _, _, _, _, _]) rfl rfl rfl rfl fun r2 => ?_
  all_goals refine HL_r rfl rfl rfl rfl (R_assign rfl) ?_
  all_goals refine HL_nil ?_
  all_goals (
    refine HQ_then ?_
    refine hK1 _ _ _ _ ?_; clear hK1 K1
    refine HC_seq fun K2 hK2 => ?_
    refine HC_region ?_
    all_goals (refine HL_r rfl rfl rfl rfl (R_loadA (vs := [_, _, _]) rfl (known_L (k := 1) rfl) rfl rfl rfl rfl) ?_)
    all_goals refine HL_callR rfl rfl rfl (enters_of Tryd.func10 (by kernel_rfl) rfl) h1 (fun q hq => Or.inr hq) ?_
    all_goals refine HL_r rfl rfl rfl rfl (R_assign rfl) ?_
    all_goals refine HL_nil ?_
    all_goals (
      refine HQ_then ?_
      refine hK2 _ _ _ _ ?_; clear hK2 K2
      refine HC_seq fun K3 hK3 => ?_
      refine HC_seq fun K4 hK4 => ?_
      refine HC_region ?_
      all_goals refine HL_r rfl rfl rfl rfl (R_move rfl) ?_
      all_goals refine HL_r rfl rfl rfl rfl (R_pure rfl rfl rfl) ?_
      all_goals refine HL_nil ?_
      all_goals (
        refine HQ_then ?_
        refine hK4 _ _ _ _ ?_; clear hK4 K4
        refine HC_cond rfl (fun h5 => ?_) (fun h5 => ?_)
        · try exact Bool.noConfusion h5
          all_goals try simp only [decide_eq_true_eq, decide_eq_false_iff_not, beq_iff_eq, beq_eq_false_iff_ne, bne_iff_ne, bne_eq_false_iff_eq, Bool.not_eq_true', Bool.not_eq_false', ne_eq, Int.not_lt, Int.not_le, ge_iff_le, gt_iff_lt] at h5
          all_goals (
            refine HC_seq fun K6 hK6 => ?_
            refine HC_region ?_
            all_goals refine HL_r rfl rfl rfl rfl (R_move rfl) ?_
            all_goals refine HL_r rfl rfl rfl rfl (R_assign rfl) ?_
            all_goals refine HL_nil ?_
            all_goals (
              refine HQ_then ?_
              refine hK6 _ _ _ _ ?_; clear hK6 K6
              refine HC_ret ?_
              refine HQ_thenR ?_; clear hK3 K3
              refine HQ_post rfl rfl (.cons (res_tmp rfl) .nil) (fun w1 hs1 => ?_)
              refine ⟨?_, hs1.keep⟩
              first
                | (rw [fitsT, if_neg (by assumption)]; rfl)
                | (rw [fitsT, if_pos (by assumption)]; rfl)
              skip)
            skip)
        · try exact Bool.noConfusion h5
          all_goals try simp only [decide_eq_true_eq, decide_eq_false_iff_not, beq_iff_eq, beq_eq_false_iff_ne, bne_iff_ne, bne_eq_false_iff_eq, Bool.not_eq_true', Bool.not_eq_false', ne_eq, Int.not_lt, Int.not_le, ge_iff_le, gt_iff_lt] at h5
          all_goals (
            refine HC_skip ?_
            refine HQ_then ?_
            refine hK3 _ _ _ _ ?_; clear hK3 K3
            refine HC_seq fun K7 hK7 => ?_
            refine HC_region ?_
            all_goals (refine HL_r rfl rfl rfl rfl (R_loadA (vs := [_, _, _]) rfl (known_L (k := 1) rfl) rfl rfl rfl rfl) ?_)
            all_goals (refine HL_r rfl rfl rfl rfl (R_loadA (vs := [_, _, _, _, _, _, _]) rfl (known_L (k := 0) rfl) rfl rfl rfl rfl) ?_)
            all_goals refine HL_callR rfl rfl rfl (enters_of Tryd.func31 (by kernel_rfl) rfl) (h2 (by assumption)) (fun q hq => Or.inr hq) ?_
            all_goals refine HL_r rfl rfl rfl rfl (R_assign rfl) ?_
            all_goals refine HL_nil ?_
            all_goals (
              refine HQ_then ?_
              refine hK7 _ _ _ _ ?_; clear hK7 K7
              refine HC_ret ?_
              refine HQ_post rfl rfl (.cons (res_tmp rfl) .nil) (fun w1 hs1 => ?_)
              refine ⟨?_, hs1.keep⟩
              first
                | (rw [fitsT, if_neg (by assumption)]; rfl)
                | (rw [fitsT, if_pos (by assumption)]; rfl)
              skip)
            skip)
        skip)
      skip)
    skip)
end Go.Proofs.YtdadaddakcidjaaDoor
