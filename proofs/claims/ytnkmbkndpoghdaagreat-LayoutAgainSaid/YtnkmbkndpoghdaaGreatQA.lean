import Derived.Test.YtnkmbkndpoghdaaGreatQAe
namespace Go.Proofs.YtnkmbkndpoghdaaGreat
set_option linter.all false
open Go.SL Go.RowKit Go.Shelf
theorem wr_eq {R : List (Nat × Obj)} {p : List AcE × Int} (x : StRes R p) (h : x.err = 0) : p = (x.s.er, 0) := x.eq.symm.trans (by rw [h])
theorem wr_ne {R : List (Nat × Obj)} {p : List AcE × Int} (x : StRes R p) (h : x.err ≠ 0) : p.2 ≠ 0 := fun h2 => h ((congrArg Prod.snd x.eq).trans h2)
theorem wr_er {R : List (Nat × Obj)} {p : List AcE × Int} (x : StRes R p) : p.1 = x.s.er := (congrArg Prod.fst x.eq).symm
set_option maxRecDepth 10000 in
theorem L_Back {R : List (Nat × Obj)} (f : Int) {s : StL} (hs : s.In R) {r : Rec} (hr : r.ok) : PureR Tryz.prog 5 [.int .i64 f, s.val, r.val].toArray (.bool true) R := by
  refine pureR_of_HC Tryz.func5 rfl rfl fun w => ?_
  refine HC_seq fun K1 hK1 => ?_
  refine HC_region ?_
  all_goals refine HL_box (cs := s.cells.toArray) rfl rfl rfl rfl fun rs => ?_
  all_goals refine HL_box (cs := r.cells.toArray) rfl rfl rfl rfl fun rr => ?_
  all_goals refine HL_r rfl rfl rfl rfl (R_assign rfl) ?_
  all_goals refine HL_nil ?_
  all_goals (
    refine HQ_then ?_
    refine hK1 _ _ _ _ ?_; clear hK1 K1
    refine HC_seq fun K2 hK2 => ?_
    refine HC_region ?_
    all_goals refine HL_callR rfl rfl rfl (enters_of Tryz.func13 (by kernel_rfl) rfl) S_works23 (fun q hq => Or.inr hq) ?_
    all_goals refine HL_r rfl rfl rfl rfl (R_assign rfl) ?_
    all_goals refine HL_nil ?_
    all_goals (
      refine HQ_then ?_
      refine hK2 _ _ _ _ ?_; clear hK2 K2
      refine HC_seq fun K3 hK3 => ?_
      refine HC_seq fun K4 hK4 => ?_
      refine HC_region ?_
      all_goals refine HL_r rfl rfl rfl rfl (R_move rfl) ?_
      all_goals refine HL_r rfl rfl rfl rfl (R_pure rfl rfl rfl) ?_
      all_goals refine HL_nil ?_
      all_goals (
        refine HQ_then ?_
        refine hK4 _ _ _ _ ?_; clear hK4 K4
        refine HC_cond rfl (fun h5 => ?_) (fun h5 => ?_)
        · try exact Bool.noConfusion h5
          all_goals try simp only [decide_eq_true_eq, decide_eq_false_iff_not, beq_iff_eq, beq_eq_false_iff_ne, bne_iff_ne, bne_eq_false_iff_eq, Bool.not_eq_true', Bool.not_eq_false', ne_eq, Int.not_lt, Int.not_le, ge_iff_le, gt_iff_lt] at h5
          all_goals (
            refine HC_seq fun K6 hK6 => ?_
            refine HC_region ?_
            all_goals refine HL_r rfl rfl rfl rfl (R_assign rfl) ?_
            all_goals refine HL_nil ?_
            all_goals (
              refine HQ_then ?_
              refine hK6 _ _ _ _ ?_; clear hK6 K6
              refine HC_ret ?_
              refine HQ_thenR ?_; clear hK3 K3
              refine HQ_post rfl rfl (.cons (res_tmp rfl) .nil) (fun w1 hs1 => ?_)
              exact ⟨rfl, hs1.keep⟩
              skip)
            skip)
        · try exact Bool.noConfusion h5
          all_goals try simp only [decide_eq_true_eq, decide_eq_false_iff_not, beq_iff_eq, beq_eq_false_iff_ne, bne_iff_ne, bne_eq_false_iff_eq, Bool.not_eq_true', Bool.not_eq_false', ne_eq, Int.not_lt, Int.not_le, ge_iff_le, gt_iff_lt] at h5
          all_goals (
            refine HC_skip ?_
            refine HQ_then ?_
            refine hK3 _ _ _ _ ?_; clear hK3 K3
            refine HC_seq fun K7 hK7 => ?_
            refine HC_region ?_
            all_goals refine HL_r rfl rfl rfl rfl (R_loadArr (xs := s.cells) (n := 1) rfl (known_L (k := 1) rfl) rfl rfl rfl) ?_
            all_goals refine HL_callR rfl rfl rfl (enters_of Tryz.func14 (by kernel_rfl) rfl) (S_Few hs) (fun q hq => Or.inr hq) ?_
            all_goals refine HL_r rfl rfl rfl rfl (R_assign rfl) ?_
            all_goals refine HL_nil ?_
            all_goals (
              refine HQ_then ?_
              refine hK7 _ _ _ _ ?_; clear hK7 K7
              refine HC_seq fun K8 hK8 => ?_
              refine HC_seq fun K9 hK9 => ?_
              refine HC_region ?_
              all_goals refine HL_r rfl rfl rfl rfl (R_move rfl) ?_
              all_goals refine HL_r rfl rfl rfl rfl (R_pure rfl rfl rfl) ?_
              all_goals refine HL_nil ?_
              all_goals (
                refine HQ_then ?_
                refine hK9 _ _ _ _ ?_; clear hK9 K9
                refine HC_cond rfl (fun h10 => ?_) (fun h10 => ?_)
                · try exact Bool.noConfusion h10
                  all_goals try simp only [decide_eq_true_eq, decide_eq_false_iff_not, beq_iff_eq, beq_eq_false_iff_ne, bne_iff_ne, bne_eq_false_iff_eq, Bool.not_eq_true', Bool.not_eq_false', ne_eq, Int.not_lt, Int.not_le, ge_iff_le, gt_iff_lt] at h10
                  all_goals (
                    refine HC_seq fun K11 hK11 => ?_
                    refine HC_region ?_
                    all_goals refine HL_r rfl rfl rfl rfl (R_move rfl) ?_
                    all_goals refine HL_r rfl rfl rfl rfl (R_assign rfl) ?_
                    all_goals refine HL_nil ?_
                    all_goals (
                      refine HQ_then ?_
                      refine hK11 _ _ _ _ ?_; clear hK11 K11
                      refine HC_ret ?_
                      refine HQ_thenR ?_; clear hK8 K8
                      refine HQ_post rfl rfl (.cons (res_tmp rfl) .nil) (fun w1 hs1 => ?_)
                      exact ⟨rfl, hs1.keep⟩
                      skip)
                    skip)
                · try exact Bool.noConfusion h10
                  all_goals try simp only [decide_eq_true_eq, decide_eq_false_iff_not, beq_iff_eq, beq_eq_false_iff_ne, bne_iff_ne, bne_eq_false_iff_eq, Bool.not_eq_true', Bool.not_eq_false', ne_eq, Int.not_lt, Int.not_le, ge_iff_le, gt_iff_lt] at h10
                  all_goals (
                    refine HC_skip ?_
                    refine HQ_then ?_
                    refine hK8 _ _ _ _ ?_; clear hK8 K8
                    refine HC_seq fun K12 hK12 => ?_
                    refine HC_region ?_
                    all_goals refine HL_r rfl rfl rfl rfl (R_move rfl) ?_
                    all_goals refine HL_r rfl rfl rfl rfl (R_loadArr (xs := s.cells) (n := 1) rfl (known_L (k := 1) rfl) rfl rfl rfl) ?_
                    all_goals refine HL_r rfl rfl rfl rfl (R_loadArr (xs := r.cells) (n := 17) rfl (known_L (k := 0) rfl) rfl rfl rfl) ?_
                    all_goals refine HL_callRE rfl rfl rfl (enters_of Tryz.func15 (by kernel_rfl) rfl) (S_Write (R := R) f hs hr) (fun q hq => Or.inr hq) fun x => ?_
                    all_goals refine HL_perm List.perm_append_comm ?_
                    all_goals change HL _ _ ((25, .tuple #[x.s.val, .int .i64 x.err]) :: _) ((rr, _) :: (rs, _) :: x.L) _ _ _ _
                    all_goals refine HL_r rfl rfl rfl rfl (R_move rfl) ?_
                    all_goals refine HL_r rfl rfl rfl rfl (R_extract rfl rfl) ?_
                    all_goals refine HL_r rfl rfl rfl rfl (R_extract rfl rfl) ?_
                    all_goals refine HL_alloc (cs := #[_]) rfl rfl rfl rfl fun r1 => ?_
                    all_goals refine HL_storeArr (k := 0) (n := 1) (ys := x.s.cells) rfl rfl rfl rfl rfl rfl rfl rfl rfl ?_
                    all_goals refine HL_r rfl rfl rfl rfl (R_assign rfl) ?_
                    all_goals refine HL_nil ?_
                    all_goals (
                      refine HQ_then ?_
                      refine hK12 _ _ _ _ ?_; clear hK12 K12
                      refine HC_seq fun K13 hK13 => ?_
                      refine HC_seq fun K14 hK14 => ?_
                      refine HC_region ?_
                      all_goals refine HL_r rfl rfl rfl rfl (R_move rfl) ?_
                      all_goals refine HL_r rfl rfl rfl rfl (R_pure rfl rfl rfl) ?_
                      all_goals refine HL_nil ?_
                      all_goals (
                        refine HQ_then ?_
                        refine hK14 _ _ _ _ ?_; clear hK14 K14
                        refine HC_cond rfl (fun h15 => ?_) (fun h15 => ?_)
                        · try exact Bool.noConfusion h15
                          all_goals try simp only [decide_eq_true_eq, decide_eq_false_iff_not, beq_iff_eq, beq_eq_false_iff_ne, bne_iff_ne, bne_eq_false_iff_eq, Bool.not_eq_true', Bool.not_eq_false', ne_eq, Int.not_lt, Int.not_le, ge_iff_le, gt_iff_lt] at h15
                          all_goals (
                            refine HC_seq fun K16 hK16 => ?_
                            have hsame : s.er = x.s.er := (write_same (wr_ne x (by assumption))).symm.trans (wr_er x)
                            refine HC_region ?_
                            all_goals refine HL_r rfl rfl rfl rfl (R_move rfl) ?_
                            all_goals refine HL_r rfl rfl rfl rfl (R_move rfl) ?_
                            all_goals refine HL_r rfl rfl rfl rfl (R_loadArr (xs := s.cells) (n := 1) rfl (known_L (k := 2) rfl) rfl rfl rfl) ?_
                            all_goals refine HL_r rfl rfl rfl rfl (R_loadArr (xs := x.s.cells) (n := 1) rfl (known_L (k := 0) rfl) rfl rfl rfl) ?_
                            all_goals refine HL_callR rfl rfl rfl (enters_of Tryz.func30 (by kernel_rfl) rfl) (S_Same (R := x.L ++ R) (hs.mono fun q hq => List.mem_append_right _ hq) x.ok) (fun q hq => (List.mem_append.1 hq).elim (fun h => Or.inl (List.mem_cons_of_mem _ (List.mem_cons_of_mem _ (List.mem_cons_of_mem _ h)))) (fun hq => Or.inr hq)) ?_; refine HL_as (as_bool (decide_eq_true hsame)) ?_
                            all_goals (refine HL_r rfl rfl rfl rfl (R_pickT rfl rfl) ?_)
                            all_goals refine HL_r rfl rfl rfl rfl (R_assign rfl) ?_
                            all_goals refine HL_nil ?_
                            all_goals (
                              refine HQ_then ?_
                              refine hK16 _ _ _ _ ?_; clear hK16 K16
                              refine HC_ret ?_
                              refine HQ_thenR ?_; clear hK13 K13
                              refine HQ_post rfl rfl (.cons (res_tmp rfl) .nil) (fun w1 hs1 => ?_)
                              exact ⟨rfl, hs1.keep⟩
                              skip)
                            skip)
                        · try exact Bool.noConfusion h15
                          all_goals try simp only [decide_eq_true_eq, decide_eq_false_iff_not, beq_iff_eq, beq_eq_false_iff_ne, bne_iff_ne, bne_eq_false_iff_eq, Bool.not_eq_true', Bool.not_eq_false', ne_eq, Int.not_lt, Int.not_le, ge_iff_le, gt_iff_lt] at h15
                          all_goals (
                            refine HC_skip ?_
                            refine HQ_then ?_
                            refine hK13 _ _ _ _ ?_; clear hK13 K13
                            refine HC_seq fun K17 hK17 => ?_
                            have he : x.err = 0 := by assumption
                            have hb := back hr (wr_eq x he)
                            rw [he]
                            refine HC_region ?_
                            all_goals refine HL_r rfl rfl rfl rfl (R_move rfl) ?_
                            all_goals refine HL_r rfl rfl rfl rfl (R_loadArr (xs := x.s.cells) (n := 1) rfl (known_L (k := 0) rfl) rfl rfl rfl) ?_
                            all_goals refine HL_callR rfl rfl rfl (enters_of Tryz.func25 (by kernel_rfl) rfl) (S_lRead (R := x.L ++ R) f x.ok) (fun q hq => (List.mem_append.1 hq).elim (fun h => Or.inl (List.mem_cons_of_mem _ (List.mem_cons_of_mem _ (List.mem_cons_of_mem _ h)))) (fun hq => Or.inr hq)) ?_; refine HL_as (as_read hb.2.1) ?_
                            all_goals refine HL_r rfl rfl rfl rfl (R_move rfl) ?_
                            all_goals refine HL_r rfl rfl rfl rfl (R_extract rfl rfl) ?_
                            all_goals refine HL_r rfl rfl rfl rfl (R_extract rfl rfl) ?_
                            all_goals refine HL_alloc (cs := #[_, _, _, _, _, _, _, _, _, _, _, _, _, _, _, _, _]) rfl rfl rfl rfl fun r2 => ?_
                            all_goals refine HL_storeArr (k := 0) (n := 17) (ys := (r).cells) rfl rfl rfl rfl rfl rfl rfl rfl rfl ?_
                            all_goals refine HL_r rfl rfl rfl rfl (R_assign rfl) ?_
                            all_goals refine HL_nil ?_
                            all_goals (
                              refine HQ_then ?_
                              refine hK17 _ _ _ _ ?_; clear hK17 K17
                              refine HC_seq fun K18 hK18 => ?_
                              refine HC_region ?_
                              all_goals refine HL_r rfl rfl rfl rfl (R_move rfl) ?_
                              all_goals refine HL_r rfl rfl rfl rfl (R_move rfl) ?_
                              all_goals (refine HL_r rfl rfl rfl rfl (R_move rfl) ?_)
                              all_goals (refine HL_r rfl rfl rfl rfl (R_pure rfl rfl rfl) ?_)
                              all_goals (refine HL_r rfl rfl rfl rfl (R_pickT rfl rfl) ?_)
                              all_goals refine HL_r rfl rfl rfl rfl (R_move rfl) ?_
                              all_goals refine HL_r rfl rfl rfl rfl (R_loadArr (xs := r.cells) (n := 17) rfl (known_L (k := 0) rfl) rfl rfl rfl) ?_
                              all_goals refine HL_r rfl rfl rfl rfl (R_loadArr (xs := r.cells) (n := 17) rfl (known_L (k := 2) rfl) rfl rfl rfl) ?_
                              all_goals refine HL_r rfl rfl rfl rfl (R_eqStr (xs := (r).cells) (ys := (r).cells) rfl rfl rfl (by kernel_rfl) (by kernel_rfl) (.scal (by decide) rfl rfl rfl rfl rfl (.scal (by decide) rfl rfl rfl rfl rfl (.arr (by decide) rfl rfl rfl rfl rfl rfl rfl rfl rfl rfl (.arr (by decide) rfl rfl rfl rfl rfl rfl rfl rfl rfl rfl (.arr (by decide) rfl rfl rfl rfl rfl rfl rfl rfl rfl rfl (.scal (by decide) rfl rfl rfl rfl rfl (.scal (by decide) rfl rfl rfl rfl rfl (.scal (by decide) rfl rfl rfl rfl rfl .nil))))))))) ?_; refine HL_as (congrArg Value.bool (rec_eq (r) (r))) ?_; refine HL_as (as_bool (show decide (r = r) = true from decide_eq_true rfl)) ?_
                              all_goals (refine HL_r rfl rfl rfl rfl (R_pickT rfl rfl) ?_)
                              all_goals refine HL_r rfl rfl rfl rfl (R_move rfl) ?_
                              all_goals (refine HL_r rfl rfl rfl rfl (R_move rfl) ?_)
                              all_goals refine HL_r rfl rfl rfl rfl (R_loadArr (xs := x.s.cells) (n := 1) rfl (known_L (k := 1) rfl) rfl rfl rfl) ?_
                              all_goals refine HL_callR rfl rfl rfl (enters_of Tryz.func29 (by kernel_rfl) rfl) (S_lCheck (R := x.L ++ R) f x.ok) (fun q hq => (List.mem_append.1 hq).elim (fun h => Or.inl (List.mem_cons_of_mem _ (List.mem_cons_of_mem _ (List.mem_cons_of_mem _ (List.mem_cons_of_mem _ h))))) (fun hq => Or.inr hq)) ?_; refine HL_as (as_int hb.1) ?_
                              all_goals (refine HL_r rfl rfl rfl rfl (R_pure rfl rfl rfl) ?_)
                              all_goals (refine HL_r rfl rfl rfl rfl (R_pickT rfl rfl) ?_)
                              all_goals refine HL_r rfl rfl rfl rfl (R_move rfl) ?_
                              all_goals (refine HL_r rfl rfl rfl rfl (R_move rfl) ?_)
                              all_goals refine HL_r rfl rfl rfl rfl (R_loadArr (xs := r.cells) (n := 17) rfl (known_L (k := 2) rfl) rfl rfl rfl) ?_
                              all_goals refine HL_callP rfl rfl rfl (enters_of Tryz.func22 (by kernel_rfl) rfl) (P_Fits f r) ?_; refine HL_as (as_int hb.2.2) ?_
                              all_goals (refine HL_r rfl rfl rfl rfl (R_pure rfl rfl rfl) ?_)
                              all_goals (refine HL_r rfl rfl rfl rfl (R_pickT rfl rfl) ?_)
                              all_goals refine HL_r rfl rfl rfl rfl (R_assign rfl) ?_
                              all_goals refine HL_nil ?_
                              all_goals (
                                refine HQ_then ?_
                                refine hK18 _ _ _ _ ?_; clear hK18 K18
                                refine HC_ret ?_
                                refine HQ_post rfl rfl (.cons (res_tmp rfl) .nil) (fun w1 hs1 => ?_)
                                exact ⟨rfl, hs1.keep⟩
                                skip)
                              skip)
                            skip)
                        skip)
                      skip)
                    skip)
                skip)
              skip)
            skip)
        skip)
      skip)
    skip)
set_option maxRecDepth 10000 in
theorem L_Over {R : List (Nat × Obj)} (f : Int) {s : StL} (hs : s.In R) {r : Rec} (hr : r.ok) (g : Int) {o : Rec} (ho : o.ok) : PureR Tryz.prog 6 [.int .i64 f, s.val, r.val, .int .i64 g, o.val].toArray (.bool true) R := by
  refine pureR_of_HC Tryz.func6 rfl rfl fun w => ?_
  refine HC_seq fun K1 hK1 => ?_
  refine HC_region ?_
  all_goals refine HL_box (cs := s.cells.toArray) rfl rfl rfl rfl fun rs => ?_
  all_goals refine HL_box (cs := r.cells.toArray) rfl rfl rfl rfl fun rr => ?_
  all_goals refine HL_box (cs := o.cells.toArray) rfl rfl rfl rfl fun ro => ?_
  all_goals refine HL_r rfl rfl rfl rfl (R_assign rfl) ?_
  all_goals refine HL_nil ?_
  all_goals (
    refine HQ_then ?_
    refine hK1 _ _ _ _ ?_; clear hK1 K1
    refine HC_seq fun K2 hK2 => ?_
    refine HC_region ?_
    all_goals refine HL_callR rfl rfl rfl (enters_of Tryz.func13 (by kernel_rfl) rfl) S_works23 (fun q hq => Or.inr hq) ?_
    all_goals refine HL_r rfl rfl rfl rfl (R_assign rfl) ?_
    all_goals refine HL_nil ?_
    all_goals (
      refine HQ_then ?_
      refine hK2 _ _ _ _ ?_; clear hK2 K2
      refine HC_seq fun K3 hK3 => ?_
      refine HC_seq fun K4 hK4 => ?_
      refine HC_region ?_
      all_goals refine HL_r rfl rfl rfl rfl (R_move rfl) ?_
      all_goals refine HL_r rfl rfl rfl rfl (R_pure rfl rfl rfl) ?_
      all_goals refine HL_nil ?_
      all_goals (
        refine HQ_then ?_
        refine hK4 _ _ _ _ ?_; clear hK4 K4
        refine HC_cond rfl (fun h5 => ?_) (fun h5 => ?_)
        · try exact Bool.noConfusion h5
          all_goals try simp only [decide_eq_true_eq, decide_eq_false_iff_not, beq_iff_eq, beq_eq_false_iff_ne, bne_iff_ne, bne_eq_false_iff_eq, Bool.not_eq_true', Bool.not_eq_false', ne_eq, Int.not_lt, Int.not_le, ge_iff_le, gt_iff_lt] at h5
          all_goals (
            refine HC_seq fun K6 hK6 => ?_
            refine HC_region ?_
            all_goals refine HL_r rfl rfl rfl rfl (R_assign rfl) ?_
            all_goals refine HL_nil ?_
            all_goals (
              refine HQ_then ?_
              refine hK6 _ _ _ _ ?_; clear hK6 K6
              refine HC_ret ?_
              refine HQ_thenR ?_; clear hK3 K3
              refine HQ_post rfl rfl (.cons (res_tmp rfl) .nil) (fun w1 hs1 => ?_)
              exact ⟨rfl, hs1.keep⟩
              skip)
            skip)
        · try exact Bool.noConfusion h5
          all_goals try simp only [decide_eq_true_eq, decide_eq_false_iff_not, beq_iff_eq, beq_eq_false_iff_ne, bne_iff_ne, bne_eq_false_iff_eq, Bool.not_eq_true', Bool.not_eq_false', ne_eq, Int.not_lt, Int.not_le, ge_iff_le, gt_iff_lt] at h5
          all_goals (
            refine HC_skip ?_
            refine HQ_then ?_
            refine hK3 _ _ _ _ ?_; clear hK3 K3
            refine HC_seq fun K7 hK7 => ?_
            refine HC_region ?_
            all_goals refine HL_r rfl rfl rfl rfl (R_loadArr (xs := s.cells) (n := 1) rfl (known_L (k := 2) rfl) rfl rfl rfl) ?_
            all_goals refine HL_callR rfl rfl rfl (enters_of Tryz.func14 (by kernel_rfl) rfl) (S_Few hs) (fun q hq => Or.inr hq) ?_
            all_goals refine HL_r rfl rfl rfl rfl (R_assign rfl) ?_
            all_goals refine HL_nil ?_
            all_goals (
              refine HQ_then ?_
              refine hK7 _ _ _ _ ?_; clear hK7 K7
              refine HC_seq fun K8 hK8 => ?_
              refine HC_seq fun K9 hK9 => ?_
              refine HC_region ?_
              all_goals refine HL_r rfl rfl rfl rfl (R_move rfl) ?_
              all_goals refine HL_r rfl rfl rfl rfl (R_pure rfl rfl rfl) ?_
              all_goals refine HL_r rfl rfl rfl rfl (R_move rfl) ?_
              all_goals (refine HL_case 26 rfl (fun hb10 => ?_) (fun hb10 => ?_) <;> (try simp only [decide_eq_true_eq, decide_eq_false_iff_not, beq_iff_eq, beq_eq_false_iff_ne, bne_iff_ne, bne_eq_false_iff_eq, Bool.not_eq_true', Bool.not_eq_false', ne_eq, Int.not_lt, Int.not_le, ge_iff_le, gt_iff_lt] at hb10) <;> first | (refine HL_r rfl rfl rfl rfl (R_move rfl) ?_) | (refine HL_skip rfl rfl rfl ?_))
              all_goals first
                | (refine HL_r rfl rfl rfl rfl (R_move rfl) ?_)
                | (refine HL_skip rfl rfl rfl ?_)
              all_goals first
                | (refine HL_r rfl rfl rfl rfl (R_pure rfl rfl rfl) ?_)
                | (refine HL_skip rfl rfl rfl ?_)
              all_goals first
                | (refine HL_r rfl rfl rfl rfl (R_pickT rfl rfl) ?_)
                | (refine HL_r rfl rfl rfl rfl (R_pickF rfl rfl) ?_)
              all_goals refine HL_nil ?_
              all_goals (
                refine HQ_then ?_
                refine hK9 _ _ _ _ ?_; clear hK9 K9
                refine HC_cond rfl (fun h13 => ?_) (fun h13 => ?_)
                · try exact Bool.noConfusion h13
                  all_goals try simp only [decide_eq_true_eq, decide_eq_false_iff_not, beq_iff_eq, beq_eq_false_iff_ne, bne_iff_ne, bne_eq_false_iff_eq, Bool.not_eq_true', Bool.not_eq_false', ne_eq, Int.not_lt, Int.not_le, ge_iff_le, gt_iff_lt] at h13
                  all_goals (
                    refine HC_seq fun K14 hK14 => ?_
                    refine HC_region ?_
                    all_goals refine HL_r rfl rfl rfl rfl (R_move rfl) ?_
                    all_goals refine HL_r rfl rfl rfl rfl (R_assign rfl) ?_
                    all_goals refine HL_nil ?_
                    all_goals (
                      refine HQ_then ?_
                      refine hK14 _ _ _ _ ?_; clear hK14 K14
                      refine HC_ret ?_
                      refine HQ_thenR ?_; clear hK8 K8
                      refine HQ_post rfl rfl (.cons (res_tmp rfl) .nil) (fun w1 hs1 => ?_)
                      exact ⟨rfl, hs1.keep⟩
                      skip)
                    skip)
                · try exact Bool.noConfusion h13
                  all_goals try simp only [decide_eq_true_eq, decide_eq_false_iff_not, beq_iff_eq, beq_eq_false_iff_ne, bne_iff_ne, bne_eq_false_iff_eq, Bool.not_eq_true', Bool.not_eq_false', ne_eq, Int.not_lt, Int.not_le, ge_iff_le, gt_iff_lt] at h13
                  all_goals (
                    refine HC_skip ?_
                    refine HQ_then ?_
                    refine hK8 _ _ _ _ ?_; clear hK8 K8
                    refine HC_seq fun K15 hK15 => ?_
                    refine HC_region ?_
                    all_goals refine HL_r rfl rfl rfl rfl (R_move rfl) ?_
                    all_goals refine HL_r rfl rfl rfl rfl (R_loadArr (xs := s.cells) (n := 1) rfl (known_L (k := 2) rfl) rfl rfl rfl) ?_
                    all_goals refine HL_r rfl rfl rfl rfl (R_loadArr (xs := o.cells) (n := 17) rfl (known_L (k := 0) rfl) rfl rfl rfl) ?_
                    all_goals refine HL_callRE rfl rfl rfl (enters_of Tryz.func15 (by kernel_rfl) rfl) (S_Write (R := R) g hs ho) (fun q hq => Or.inr hq) fun x => ?_
                    all_goals refine HL_perm List.perm_append_comm ?_
                    all_goals change HL _ _ ((36, .tuple #[x.s.val, .int .i64 x.err]) :: _) ((ro, _) :: (rr, _) :: (rs, _) :: x.L) _ _ _ _
                    all_goals refine HL_r rfl rfl rfl rfl (R_move rfl) ?_
                    all_goals refine HL_r rfl rfl rfl rfl (R_extract rfl rfl) ?_
                    all_goals refine HL_r rfl rfl rfl rfl (R_extract rfl rfl) ?_
                    all_goals refine HL_alloc (cs := #[_]) rfl rfl rfl rfl fun rx => ?_
                    all_goals refine HL_storeArr (k := 0) (n := 1) (ys := x.s.cells) rfl rfl rfl rfl rfl rfl rfl rfl rfl ?_
                    all_goals refine HL_r rfl rfl rfl rfl (R_assign rfl) ?_
                    all_goals refine HL_nil ?_
                    all_goals (
                      refine HQ_then ?_
                      refine hK15 _ _ _ _ ?_; clear hK15 K15
                      refine HC_seq fun K16 hK16 => ?_
                      refine HC_region ?_
                      all_goals refine HL_r rfl rfl rfl rfl (R_move rfl) ?_
                      all_goals refine HL_r rfl rfl rfl rfl (R_loadArr (xs := x.s.cells) (n := 1) rfl (known_L (k := 0) rfl) rfl rfl rfl) ?_
                      all_goals refine HL_r rfl rfl rfl rfl (R_loadArr (xs := r.cells) (n := 17) rfl (known_L (k := 2) rfl) rfl rfl rfl) ?_
                      all_goals refine HL_callRE rfl rfl rfl (enters_of Tryz.func15 (by kernel_rfl) rfl) (S_Write (R := x.L ++ R) f x.ok hr) (fun q hq => (List.mem_append.1 hq).elim (fun h => Or.inl (List.mem_cons_of_mem _ (List.mem_cons_of_mem _ (List.mem_cons_of_mem _ (List.mem_cons_of_mem _ h))))) (fun hq => Or.inr hq)) fun y => ?_
                      all_goals refine HL_perm (perm_mid y.L [_, _, _, _] (x.L)) ?_
                      all_goals change HL _ _ ((43, .tuple #[y.s.val, .int .i64 y.err]) :: _) ((rx, _) :: (ro, _) :: (rr, _) :: (rs, _) :: (y.L ++ (x.L))) _ _ _ _
                      all_goals refine HL_r rfl rfl rfl rfl (R_move rfl) ?_
                      all_goals refine HL_r rfl rfl rfl rfl (R_extract rfl rfl) ?_
                      all_goals refine HL_r rfl rfl rfl rfl (R_extract rfl rfl) ?_
                      all_goals refine HL_alloc (cs := #[_]) rfl rfl rfl rfl fun ry => ?_
                      all_goals refine HL_storeArr (k := 0) (n := 1) (ys := y.s.cells) rfl rfl rfl rfl rfl rfl rfl rfl rfl ?_
                      all_goals refine HL_r rfl rfl rfl rfl (R_assign rfl) ?_
                      all_goals refine HL_nil ?_
                      all_goals (
                        refine HQ_then ?_
                        refine hK16 _ _ _ _ ?_; clear hK16 K16
                        refine HC_seq fun K17 hK17 => ?_
                        refine HC_region ?_
                        all_goals refine HL_r rfl rfl rfl rfl (R_move rfl) ?_
                        all_goals refine HL_r rfl rfl rfl rfl (R_loadArr (xs := s.cells) (n := 1) rfl (known_L (k := 4) rfl) rfl rfl rfl) ?_
                        all_goals refine HL_r rfl rfl rfl rfl (R_loadArr (xs := r.cells) (n := 17) rfl (known_L (k := 3) rfl) rfl rfl rfl) ?_
                        all_goals refine HL_callRE rfl rfl rfl (enters_of Tryz.func15 (by kernel_rfl) rfl) (S_Write (R := y.L ++ (x.L ++ R)) f (hs.mono fun q hq => List.mem_append_right _ (List.mem_append_right _ hq)) hr) (fun q hq => (List.mem_append.1 hq).elim (fun h => Or.inl (List.mem_cons_of_mem _ (List.mem_cons_of_mem _ (List.mem_cons_of_mem _ (List.mem_cons_of_mem _ (List.mem_cons_of_mem _ (List.mem_append_left _ h))))))) (fun hq => (List.mem_append.1 hq).elim (fun h => Or.inl (List.mem_cons_of_mem _ (List.mem_cons_of_mem _ (List.mem_cons_of_mem _ (List.mem_cons_of_mem _ (List.mem_cons_of_mem _ (List.mem_append_right _ h))))))) (fun hq => Or.inr hq))) fun z => ?_
                        all_goals refine HL_perm (perm_mid z.L [_, _, _, _, _] (y.L ++ x.L)) ?_
                        all_goals change HL _ _ ((50, .tuple #[z.s.val, .int .i64 z.err]) :: _) ((ry, _) :: (rx, _) :: (ro, _) :: (rr, _) :: (rs, _) :: (z.L ++ (y.L ++ x.L))) _ _ _ _
                        all_goals refine HL_r rfl rfl rfl rfl (R_move rfl) ?_
                        all_goals refine HL_r rfl rfl rfl rfl (R_extract rfl rfl) ?_
                        all_goals refine HL_r rfl rfl rfl rfl (R_extract rfl rfl) ?_
                        all_goals refine HL_alloc (cs := #[_]) rfl rfl rfl rfl fun r1 => ?_
                        all_goals refine HL_storeArr (k := 0) (n := 1) (ys := z.s.cells) rfl rfl rfl rfl rfl rfl rfl rfl rfl ?_
                        all_goals refine HL_r rfl rfl rfl rfl (R_assign rfl) ?_
                        all_goals refine HL_nil ?_
                        all_goals (
                          refine HQ_then ?_
                          refine hK17 _ _ _ _ ?_; clear hK17 K17
                          refine HC_seq fun K18 hK18 => ?_
                          refine HC_seq fun K19 hK19 => ?_
                          refine HC_region ?_
                          all_goals refine HL_r rfl rfl rfl rfl (R_move rfl) ?_
                          all_goals refine HL_r rfl rfl rfl rfl (R_pure rfl rfl rfl) ?_
                          all_goals refine HL_r rfl rfl rfl rfl (R_move rfl) ?_
                          all_goals (refine HL_case 55 rfl (fun hb20 => ?_) (fun hb20 => ?_) <;> (try simp only [decide_eq_true_eq, decide_eq_false_iff_not, beq_iff_eq, beq_eq_false_iff_ne, bne_iff_ne, bne_eq_false_iff_eq, Bool.not_eq_true', Bool.not_eq_false', ne_eq, Int.not_lt, Int.not_le, ge_iff_le, gt_iff_lt] at hb20) <;> first | (refine HL_r rfl rfl rfl rfl (R_move rfl) ?_) | (refine HL_skip rfl rfl rfl ?_))
                          all_goals first
                            | (refine HL_r rfl rfl rfl rfl (R_pure rfl rfl rfl) ?_)
                            | (refine HL_skip rfl rfl rfl ?_)
                          all_goals first
                            | (refine HL_r rfl rfl rfl rfl (R_pickT rfl rfl) ?_)
                            | (refine HL_r rfl rfl rfl rfl (R_pickF rfl rfl) ?_)
                          all_goals refine HL_r rfl rfl rfl rfl (R_move rfl) ?_
                          all_goals first
                            | (refine HL_skip rfl rfl rfl ?_)
                            | (refine HL_case 59 rfl (fun hb22 => ?_) (fun hb22 => ?_) <;> (try simp only [decide_eq_true_eq, decide_eq_false_iff_not, beq_iff_eq, beq_eq_false_iff_ne, bne_iff_ne, bne_eq_false_iff_eq, Bool.not_eq_true', Bool.not_eq_false', ne_eq, Int.not_lt, Int.not_le, ge_iff_le, gt_iff_lt] at hb22) <;> first | (refine HL_r rfl rfl rfl rfl (R_move rfl) ?_) | (refine HL_skip rfl rfl rfl ?_))
                          all_goals first
                            | (refine HL_r rfl rfl rfl rfl (R_pure rfl rfl rfl) ?_)
                            | (refine HL_skip rfl rfl rfl ?_)
                          all_goals first
                            | (refine HL_r rfl rfl rfl rfl (R_pickT rfl rfl) ?_)
                            | (refine HL_r rfl rfl rfl rfl (R_pickF rfl rfl) ?_)
                          all_goals refine HL_nil ?_
                          all_goals (
                            refine HQ_then ?_
                            refine hK19 _ _ _ _ ?_; clear hK19 K19
                            refine HC_cond rfl (fun h24 => ?_) (fun h24 => ?_)
                            · try exact Bool.noConfusion h24
                              all_goals try simp only [decide_eq_true_eq, decide_eq_false_iff_not, beq_iff_eq, beq_eq_false_iff_ne, bne_iff_ne, bne_eq_false_iff_eq, Bool.not_eq_true', Bool.not_eq_false', ne_eq, Int.not_lt, Int.not_le, ge_iff_le, gt_iff_lt] at h24
                              all_goals (
                                refine HC_seq fun K25 hK25 => ?_
                                refine HC_region ?_
                                all_goals refine HL_r rfl rfl rfl rfl (R_move rfl) ?_
                                all_goals refine HL_r rfl rfl rfl rfl (R_assign rfl) ?_
                                all_goals refine HL_nil ?_
                                all_goals (
                                  refine HQ_then ?_
                                  refine hK25 _ _ _ _ ?_; clear hK25 K25
                                  refine HC_ret ?_
                                  refine HQ_thenR ?_; clear hK18 K18
                                  refine HQ_post rfl rfl (.cons (res_tmp rfl) .nil) (fun w1 hs1 => ?_)
                                  exact ⟨rfl, hs1.keep⟩
                                  skip)
                                skip)
                            · try exact Bool.noConfusion h24
                              all_goals try simp only [decide_eq_true_eq, decide_eq_false_iff_not, beq_iff_eq, beq_eq_false_iff_ne, bne_iff_ne, bne_eq_false_iff_eq, Bool.not_eq_true', Bool.not_eq_false', ne_eq, Int.not_lt, Int.not_le, ge_iff_le, gt_iff_lt] at h24
                              all_goals (
                                refine HC_skip ?_
                                refine HQ_then ?_
                                refine hK18 _ _ _ _ ?_; clear hK18 K18
                                refine HC_seq fun K26 hK26 => ?_
                                have hsame : y.s.er = z.s.er := over (by omega) (wr_eq x (by assumption)) (wr_eq y (by assumption)) (wr_eq z (by assumption))
                                refine HC_region ?_
                                all_goals refine HL_r rfl rfl rfl rfl (R_move rfl) ?_
                                all_goals refine HL_r rfl rfl rfl rfl (R_move rfl) ?_
                                all_goals refine HL_r rfl rfl rfl rfl (R_loadArr (xs := y.s.cells) (n := 1) rfl (known_L (k := 1) rfl) rfl rfl rfl) ?_
                                all_goals refine HL_r rfl rfl rfl rfl (R_loadArr (xs := z.s.cells) (n := 1) rfl (known_L (k := 0) rfl) rfl rfl rfl) ?_
                                all_goals refine HL_callR rfl rfl rfl (enters_of Tryz.func30 (by kernel_rfl) rfl) (S_Same (R := z.L ++ (y.L ++ (x.L ++ R))) (y.ok.mono fun q hq => List.mem_append_right _ hq) z.ok) (fun q hq => (List.mem_append.1 hq).elim (fun h => Or.inl (List.mem_cons_of_mem _ (List.mem_cons_of_mem _ (List.mem_cons_of_mem _ (List.mem_cons_of_mem _ (List.mem_cons_of_mem _ (List.mem_cons_of_mem _ (List.mem_append_left _ h)))))))) (fun hq => (List.mem_append.1 hq).elim (fun h => Or.inl (List.mem_cons_of_mem _ (List.mem_cons_of_mem _ (List.mem_cons_of_mem _ (List.mem_cons_of_mem _ (List.mem_cons_of_mem _ (List.mem_cons_of_mem _ (List.mem_append_right _ (List.mem_append_left _ h))))))))) (fun hq => (List.mem_append.1 hq).elim (fun h => Or.inl (List.mem_cons_of_mem _ (List.mem_cons_of_mem _ (List.mem_cons_of_mem _ (List.mem_cons_of_mem _ (List.mem_cons_of_mem _ (List.mem_cons_of_mem _ (List.mem_append_right _ (List.mem_append_right _ h))))))))) (fun hq => Or.inr hq)))) ?_; refine HL_as (as_bool (decide_eq_true hsame)) ?_
                                all_goals (refine HL_r rfl rfl rfl rfl (R_pickT rfl rfl) ?_)
                                all_goals refine HL_r rfl rfl rfl rfl (R_assign rfl) ?_
                                all_goals refine HL_nil ?_
                                all_goals (
                                  refine HQ_then ?_
                                  refine hK26 _ _ _ _ ?_; clear hK26 K26
                                  refine HC_ret ?_
                                  refine HQ_post rfl rfl (.cons (res_tmp rfl) .nil) (fun w1 hs1 => ?_)
                                  exact ⟨rfl, hs1.keep⟩
                                  skip)
                                skip)
                            skip)
                          skip)
                        skip)
                      skip)
                    skip)
                skip)
              skip)
            skip)
        skip)
      skip)
    skip)
set_option maxRecDepth 10000 in
theorem L_Again {R : List (Nat × Obj)} (f : Int) {s : StL} (hs : s.In R) : PureR Tryz.prog 7 [.int .i64 f, s.val].toArray (.bool true) R := by
  by_cases hc : checkE f s.er = 0
  · obtain ⟨a, ha⟩ := check_ok.1 hc
    have hrd := ha.read
    obtain ⟨t0, hrest, hrw⟩ := rest_ok ha
    have hrs := rewrite_self ha
    have hrok := read_ok f a
    generalize readE f a = rd at hrd hrw hrs hrok
    refine pureR_of_HC Tryz.func7 rfl rfl fun w => ?_
    refine HC_seq fun K1 hK1 => ?_
    refine HC_region ?_
    all_goals refine HL_box (cs := s.cells.toArray) rfl rfl rfl rfl fun rs => ?_
    all_goals refine HL_r rfl rfl rfl rfl (R_assign rfl) ?_
    all_goals refine HL_nil ?_
    all_goals (
      refine HQ_then ?_
      refine hK1 _ _ _ _ ?_; clear hK1 K1
      refine HC_seq fun K2 hK2 => ?_
      refine HC_region ?_
      all_goals refine HL_callR rfl rfl rfl (enters_of Tryz.func13 (by kernel_rfl) rfl) S_works23 (fun q hq => Or.inr hq) ?_
      all_goals refine HL_r rfl rfl rfl rfl (R_assign rfl) ?_
      all_goals refine HL_nil ?_
      all_goals (
        refine HQ_then ?_
        refine hK2 _ _ _ _ ?_; clear hK2 K2
        refine HC_seq fun K3 hK3 => ?_
        refine HC_seq fun K4 hK4 => ?_
        refine HC_region ?_
        all_goals refine HL_r rfl rfl rfl rfl (R_move rfl) ?_
        all_goals refine HL_r rfl rfl rfl rfl (R_pure rfl rfl rfl) ?_
        all_goals refine HL_nil ?_
        all_goals (
          refine HQ_then ?_
          refine hK4 _ _ _ _ ?_; clear hK4 K4
          refine HC_cond rfl (fun h5 => ?_) (fun h5 => ?_)
          · try exact Bool.noConfusion h5
            all_goals try simp only [decide_eq_true_eq, decide_eq_false_iff_not, beq_iff_eq, beq_eq_false_iff_ne, bne_iff_ne, bne_eq_false_iff_eq, Bool.not_eq_true', Bool.not_eq_false', ne_eq, Int.not_lt, Int.not_le, ge_iff_le, gt_iff_lt] at h5
            all_goals (
              refine HC_seq fun K6 hK6 => ?_
              refine HC_region ?_
              all_goals refine HL_r rfl rfl rfl rfl (R_assign rfl) ?_
              all_goals refine HL_nil ?_
              all_goals (
                refine HQ_then ?_
                refine hK6 _ _ _ _ ?_; clear hK6 K6
                refine HC_ret ?_
                refine HQ_thenR ?_; clear hK3 K3
                refine HQ_post rfl rfl (.cons (res_tmp rfl) .nil) (fun w1 hs1 => ?_)
                exact ⟨rfl, hs1.keep⟩
                skip)
              skip)
          · try exact Bool.noConfusion h5
            all_goals try simp only [decide_eq_true_eq, decide_eq_false_iff_not, beq_iff_eq, beq_eq_false_iff_ne, bne_iff_ne, bne_eq_false_iff_eq, Bool.not_eq_true', Bool.not_eq_false', ne_eq, Int.not_lt, Int.not_le, ge_iff_le, gt_iff_lt] at h5
            all_goals (
              refine HC_skip ?_
              refine HQ_then ?_
              refine hK3 _ _ _ _ ?_; clear hK3 K3
              refine HC_seq fun K7 hK7 => ?_
              refine HC_region ?_
              all_goals refine HL_r rfl rfl rfl rfl (R_loadArr (xs := s.cells) (n := 1) rfl (known_L (k := 0) rfl) rfl rfl rfl) ?_
              all_goals refine HL_callR rfl rfl rfl (enters_of Tryz.func14 (by kernel_rfl) rfl) (S_Few hs) (fun q hq => Or.inr hq) ?_
              all_goals refine HL_r rfl rfl rfl rfl (R_assign rfl) ?_
              all_goals refine HL_nil ?_
              all_goals (
                refine HQ_then ?_
                refine hK7 _ _ _ _ ?_; clear hK7 K7
                refine HC_seq fun K8 hK8 => ?_
                refine HC_seq fun K9 hK9 => ?_
                refine HC_region ?_
                all_goals refine HL_r rfl rfl rfl rfl (R_move rfl) ?_
                all_goals refine HL_r rfl rfl rfl rfl (R_pure rfl rfl rfl) ?_
                all_goals refine HL_nil ?_
                all_goals (
                  refine HQ_then ?_
                  refine hK9 _ _ _ _ ?_; clear hK9 K9
                  refine HC_cond rfl (fun h10 => ?_) (fun h10 => ?_)
                  · try exact Bool.noConfusion h10
                    all_goals try simp only [decide_eq_true_eq, decide_eq_false_iff_not, beq_iff_eq, beq_eq_false_iff_ne, bne_iff_ne, bne_eq_false_iff_eq, Bool.not_eq_true', Bool.not_eq_false', ne_eq, Int.not_lt, Int.not_le, ge_iff_le, gt_iff_lt] at h10
                    all_goals (
                      refine HC_seq fun K11 hK11 => ?_
                      refine HC_region ?_
                      all_goals refine HL_r rfl rfl rfl rfl (R_move rfl) ?_
                      all_goals refine HL_r rfl rfl rfl rfl (R_assign rfl) ?_
                      all_goals refine HL_nil ?_
                      all_goals (
                        refine HQ_then ?_
                        refine hK11 _ _ _ _ ?_; clear hK11 K11
                        refine HC_ret ?_
                        refine HQ_thenR ?_; clear hK8 K8
                        refine HQ_post rfl rfl (.cons (res_tmp rfl) .nil) (fun w1 hs1 => ?_)
                        exact ⟨rfl, hs1.keep⟩
                        skip)
                      skip)
                  · try exact Bool.noConfusion h10
                    all_goals try simp only [decide_eq_true_eq, decide_eq_false_iff_not, beq_iff_eq, beq_eq_false_iff_ne, bne_iff_ne, bne_eq_false_iff_eq, Bool.not_eq_true', Bool.not_eq_false', ne_eq, Int.not_lt, Int.not_le, ge_iff_le, gt_iff_lt] at h10
                    all_goals (
                      refine HC_skip ?_
                      refine HQ_then ?_
                      refine hK8 _ _ _ _ ?_; clear hK8 K8
                      refine HC_seq fun K12 hK12 => ?_
                      refine HC_region ?_
                      all_goals refine HL_r rfl rfl rfl rfl (R_move rfl) ?_
                      all_goals refine HL_r rfl rfl rfl rfl (R_loadArr (xs := s.cells) (n := 1) rfl (known_L (k := 0) rfl) rfl rfl rfl) ?_
                      all_goals refine HL_callR rfl rfl rfl (enters_of Tryz.func25 (by kernel_rfl) rfl) (S_lRead f hs) (fun q hq => Or.inr hq) ?_; refine HL_as (as_read hrd) ?_
                      all_goals refine HL_r rfl rfl rfl rfl (R_move rfl) ?_
                      all_goals refine HL_r rfl rfl rfl rfl (R_extract rfl rfl) ?_
                      all_goals refine HL_r rfl rfl rfl rfl (R_extract rfl rfl) ?_
                      all_goals refine HL_alloc (cs := #[_, _, _, _, _, _, _, _, _, _, _, _, _, _, _, _, _]) rfl rfl rfl rfl fun rr => ?_
                      all_goals refine HL_storeArr (k := 0) (n := 17) (ys := (rd).cells) rfl rfl rfl rfl rfl rfl rfl rfl rfl ?_
                      all_goals refine HL_r rfl rfl rfl rfl (R_assign rfl) ?_
                      all_goals refine HL_nil ?_
                      all_goals (
                        refine HQ_then ?_
                        refine hK12 _ _ _ _ ?_; clear hK12 K12
                        refine HC_seq fun K13 hK13 => ?_
                        refine HC_region ?_
                        all_goals refine HL_r rfl rfl rfl rfl (R_move rfl) ?_
                        all_goals refine HL_r rfl rfl rfl rfl (R_loadArr (xs := s.cells) (n := 1) rfl (known_L (k := 1) rfl) rfl rfl rfl) ?_
                        all_goals refine HL_callRE rfl rfl rfl (enters_of Tryz.func27 (by kernel_rfl) rfl) (S_Rest (R := R) f hs) (fun q hq => Or.inr hq) fun x => ?_
                        all_goals refine HL_perm List.perm_append_comm ?_
                        all_goals change HL _ _ ((32, .tuple #[x.s.val, .int .i64 x.err]) :: _) ((rr, _) :: (rs, _) :: x.L) _ _ _ _
                        all_goals have hxe : x.err = 0 := (congrArg Prod.snd x.eq).trans (congrArg Prod.snd hrest)
                        all_goals have hxs : x.s.er = t0 := (congrArg Prod.fst x.eq).trans (congrArg Prod.fst hrest)
                        all_goals rw [hxe]
                        all_goals refine HL_r rfl rfl rfl rfl (R_move rfl) ?_
                        all_goals refine HL_r rfl rfl rfl rfl (R_extract rfl rfl) ?_
                        all_goals refine HL_r rfl rfl rfl rfl (R_extract rfl rfl) ?_
                        all_goals refine HL_alloc (cs := #[_]) rfl rfl rfl rfl fun rx => ?_
                        all_goals refine HL_storeArr (k := 0) (n := 1) (ys := x.s.cells) rfl rfl rfl rfl rfl rfl rfl rfl rfl ?_
                        all_goals refine HL_r rfl rfl rfl rfl (R_assign rfl) ?_
                        all_goals refine HL_nil ?_
                        all_goals (
                          refine HQ_then ?_
                          refine hK13 _ _ _ _ ?_; clear hK13 K13
                          refine HC_seq fun K14 hK14 => ?_
                          refine HC_seq fun K15 hK15 => ?_
                          refine HC_region ?_
                          all_goals refine HL_r rfl rfl rfl rfl (R_move rfl) ?_
                          all_goals refine HL_r rfl rfl rfl rfl (R_pure rfl rfl rfl) ?_
                          all_goals refine HL_nil ?_
                          all_goals (
                            refine HQ_then ?_
                            refine hK15 _ _ _ _ ?_; clear hK15 K15
                            refine HC_cond rfl (fun h16 => ?_) (fun h16 => ?_)
                            · try exact Bool.noConfusion h16
                              all_goals try simp only [decide_eq_true_eq, decide_eq_false_iff_not, beq_iff_eq, beq_eq_false_iff_ne, bne_iff_ne, bne_eq_false_iff_eq, Bool.not_eq_true', Bool.not_eq_false', ne_eq, Int.not_lt, Int.not_le, ge_iff_le, gt_iff_lt] at h16
                              all_goals (
                                refine HC_seq fun K17 hK17 => ?_
                                refine HC_region ?_
                                all_goals refine HL_r rfl rfl rfl rfl (R_move rfl) ?_
                                all_goals refine HL_r rfl rfl rfl rfl (R_move rfl) ?_
                                all_goals refine HL_r rfl rfl rfl rfl (R_move rfl) ?_
                                all_goals refine HL_r rfl rfl rfl rfl (R_move rfl) ?_
                                all_goals refine HL_r rfl rfl rfl rfl (R_assign rfl) ?_
                                all_goals refine HL_nil ?_
                                all_goals (
                                  refine HQ_then ?_
                                  refine hK17 _ _ _ _ ?_; clear hK17 K17
                                  refine HC_ret ?_
                                  refine HQ_thenR ?_; clear hK14 K14
                                  refine HQ_post rfl rfl (.cons (res_tmp rfl) .nil) (fun w1 hs1 => ?_)
                                  exact ⟨rfl, hs1.keep⟩
                                  skip)
                                skip)
                            · try exact Bool.noConfusion h16
                              all_goals try simp only [decide_eq_true_eq, decide_eq_false_iff_not, beq_iff_eq, beq_eq_false_iff_ne, bne_iff_ne, bne_eq_false_iff_eq, Bool.not_eq_true', Bool.not_eq_false', ne_eq, Int.not_lt, Int.not_le, ge_iff_le, gt_iff_lt] at h16
                              all_goals (
                                refine HC_skip ?_
                                refine HQ_then ?_
                                refine hK14 _ _ _ _ ?_; clear hK14 K14
                                refine HC_seq fun K27 hK27 => ?_
                                refine HC_region ?_
                                all_goals refine HL_r rfl rfl rfl rfl (R_move rfl) ?_
                                all_goals refine HL_r rfl rfl rfl rfl (R_loadArr (xs := x.s.cells) (n := 1) rfl (known_L (k := 0) rfl) rfl rfl rfl) ?_
                                all_goals refine HL_r rfl rfl rfl rfl (R_loadArr (xs := rd.cells) (n := 17) rfl (known_L (k := 1) rfl) rfl rfl rfl) ?_
                                all_goals refine HL_callRE rfl rfl rfl (enters_of Tryz.func15 (by kernel_rfl) rfl) (S_Write (R := x.L ++ R) f x.ok hrok) (fun q hq => (List.mem_append.1 hq).elim (fun h => Or.inl (List.mem_cons_of_mem _ (List.mem_cons_of_mem _ (List.mem_cons_of_mem _ h)))) (fun hq => Or.inr hq)) fun y => ?_
                                all_goals refine HL_perm (perm_mid y.L [_, _, _] (x.L)) ?_
                                all_goals change HL _ _ ((57, .tuple #[y.s.val, .int .i64 y.err]) :: _) ((rx, _) :: (rr, _) :: (rs, _) :: (y.L ++ (x.L))) _ _ _ _
                                all_goals have hye : y.err = 0 := (congrArg Prod.snd y.eq).trans (by rw [hxs, hrw])
                                all_goals have hys : y.s.er = s.er := (congrArg Prod.fst y.eq).trans (by rw [hxs, hrw])
                                all_goals rw [hye]
                                all_goals refine HL_r rfl rfl rfl rfl (R_move rfl) ?_
                                all_goals refine HL_r rfl rfl rfl rfl (R_extract rfl rfl) ?_
                                all_goals refine HL_r rfl rfl rfl rfl (R_extract rfl rfl) ?_
                                all_goals refine HL_alloc (cs := #[_]) rfl rfl rfl rfl fun ry => ?_
                                all_goals refine HL_storeArr (k := 0) (n := 1) (ys := y.s.cells) rfl rfl rfl rfl rfl rfl rfl rfl rfl ?_
                                all_goals refine HL_r rfl rfl rfl rfl (R_assign rfl) ?_
                                all_goals refine HL_nil ?_
                                all_goals (
                                  refine HQ_then ?_
                                  refine hK27 _ _ _ _ ?_; clear hK27 K27
                                  refine HC_seq fun K28 hK28 => ?_
                                  refine HC_region ?_
                                  all_goals refine HL_r rfl rfl rfl rfl (R_move rfl) ?_
                                  all_goals refine HL_r rfl rfl rfl rfl (R_loadArr (xs := s.cells) (n := 1) rfl (known_L (k := 3) rfl) rfl rfl rfl) ?_
                                  all_goals refine HL_r rfl rfl rfl rfl (R_loadArr (xs := rd.cells) (n := 17) rfl (known_L (k := 2) rfl) rfl rfl rfl) ?_
                                  all_goals refine HL_callRE rfl rfl rfl (enters_of Tryz.func15 (by kernel_rfl) rfl) (S_Write (R := y.L ++ (x.L ++ R)) f (hs.mono fun q hq => List.mem_append_right _ (List.mem_append_right _ hq)) hrok) (fun q hq => (List.mem_append.1 hq).elim (fun h => Or.inl (List.mem_cons_of_mem _ (List.mem_cons_of_mem _ (List.mem_cons_of_mem _ (List.mem_cons_of_mem _ (List.mem_append_left _ h)))))) (fun hq => (List.mem_append.1 hq).elim (fun h => Or.inl (List.mem_cons_of_mem _ (List.mem_cons_of_mem _ (List.mem_cons_of_mem _ (List.mem_cons_of_mem _ (List.mem_append_right _ h)))))) (fun hq => Or.inr hq))) fun z => ?_
                                  all_goals refine HL_perm (perm_mid z.L [_, _, _, _] (y.L ++ x.L)) ?_
                                  all_goals change HL _ _ ((64, .tuple #[z.s.val, .int .i64 z.err]) :: _) ((ry, _) :: (rx, _) :: (rr, _) :: (rs, _) :: (z.L ++ (y.L ++ x.L))) _ _ _ _
                                  all_goals have hze : z.err = 0 := (congrArg Prod.snd z.eq).trans (by rw [hrs])
                                  all_goals have hzs : z.s.er = s.er := (congrArg Prod.fst z.eq).trans (by rw [hrs])
                                  all_goals rw [hze]
                                  all_goals refine HL_r rfl rfl rfl rfl (R_move rfl) ?_
                                  all_goals refine HL_r rfl rfl rfl rfl (R_extract rfl rfl) ?_
                                  all_goals refine HL_r rfl rfl rfl rfl (R_extract rfl rfl) ?_
                                  all_goals refine HL_alloc (cs := #[_]) rfl rfl rfl rfl fun r1 => ?_
                                  all_goals refine HL_storeArr (k := 0) (n := 1) (ys := z.s.cells) rfl rfl rfl rfl rfl rfl rfl rfl rfl ?_
                                  all_goals refine HL_r rfl rfl rfl rfl (R_assign rfl) ?_
                                  all_goals refine HL_nil ?_
                                  all_goals (
                                    refine HQ_then ?_
                                    refine hK28 _ _ _ _ ?_; clear hK28 K28
                                    refine HC_seq fun K29 hK29 => ?_
                                    refine HC_region ?_
                                    all_goals refine HL_r rfl rfl rfl rfl (R_move rfl) ?_
                                    all_goals refine HL_r rfl rfl rfl rfl (R_move rfl) ?_
                                    all_goals (refine HL_r rfl rfl rfl rfl (R_move rfl) ?_)
                                    all_goals (refine HL_r rfl rfl rfl rfl (R_pure rfl rfl rfl) ?_)
                                    all_goals (refine HL_r rfl rfl rfl rfl (R_pickT rfl rfl) ?_)
                                    all_goals refine HL_r rfl rfl rfl rfl (R_move rfl) ?_
                                    all_goals (refine HL_r rfl rfl rfl rfl (R_move rfl) ?_)
                                    all_goals (refine HL_r rfl rfl rfl rfl (R_pure rfl rfl rfl) ?_)
                                    all_goals (refine HL_r rfl rfl rfl rfl (R_pickT rfl rfl) ?_)
                                    all_goals refine HL_r rfl rfl rfl rfl (R_move rfl) ?_
                                    all_goals refine HL_r rfl rfl rfl rfl (R_loadArr (xs := y.s.cells) (n := 1) rfl (known_L (k := 1) rfl) rfl rfl rfl) ?_
                                    all_goals refine HL_r rfl rfl rfl rfl (R_loadArr (xs := s.cells) (n := 1) rfl (known_L (k := 4) rfl) rfl rfl rfl) ?_
                                    all_goals refine HL_callR rfl rfl rfl (enters_of Tryz.func30 (by kernel_rfl) rfl) (S_Same (R := z.L ++ (y.L ++ (x.L ++ R))) (y.ok.mono fun q hq => List.mem_append_right _ hq) (hs.mono fun q hq => List.mem_append_right _ (List.mem_append_right _ (List.mem_append_right _ hq)))) (fun q hq => (List.mem_append.1 hq).elim (fun h => Or.inl (List.mem_cons_of_mem _ (List.mem_cons_of_mem _ (List.mem_cons_of_mem _ (List.mem_cons_of_mem _ (List.mem_cons_of_mem _ (List.mem_append_left _ h))))))) (fun hq => (List.mem_append.1 hq).elim (fun h => Or.inl (List.mem_cons_of_mem _ (List.mem_cons_of_mem _ (List.mem_cons_of_mem _ (List.mem_cons_of_mem _ (List.mem_cons_of_mem _ (List.mem_append_right _ (List.mem_append_left _ h)))))))) (fun hq => (List.mem_append.1 hq).elim (fun h => Or.inl (List.mem_cons_of_mem _ (List.mem_cons_of_mem _ (List.mem_cons_of_mem _ (List.mem_cons_of_mem _ (List.mem_cons_of_mem _ (List.mem_append_right _ (List.mem_append_right _ h)))))))) (fun hq => Or.inr hq)))) ?_; refine HL_as (as_bool (decide_eq_true hys)) ?_
                                    all_goals (refine HL_r rfl rfl rfl rfl (R_pickT rfl rfl) ?_)
                                    all_goals refine HL_r rfl rfl rfl rfl (R_move rfl) ?_
                                    all_goals (refine HL_r rfl rfl rfl rfl (R_move rfl) ?_)
                                    all_goals (refine HL_r rfl rfl rfl rfl (R_pure rfl rfl rfl) ?_)
                                    all_goals (refine HL_r rfl rfl rfl rfl (R_pickT rfl rfl) ?_)
                                    all_goals refine HL_r rfl rfl rfl rfl (R_move rfl) ?_
                                    all_goals refine HL_r rfl rfl rfl rfl (R_loadArr (xs := z.s.cells) (n := 1) rfl (known_L (k := 0) rfl) rfl rfl rfl) ?_
                                    all_goals refine HL_r rfl rfl rfl rfl (R_loadArr (xs := s.cells) (n := 1) rfl (known_L (k := 4) rfl) rfl rfl rfl) ?_
                                    all_goals refine HL_callR rfl rfl rfl (enters_of Tryz.func30 (by kernel_rfl) rfl) (S_Same (R := z.L ++ (y.L ++ (x.L ++ R))) z.ok (hs.mono fun q hq => List.mem_append_right _ (List.mem_append_right _ (List.mem_append_right _ hq)))) (fun q hq => (List.mem_append.1 hq).elim (fun h => Or.inl (List.mem_cons_of_mem _ (List.mem_cons_of_mem _ (List.mem_cons_of_mem _ (List.mem_cons_of_mem _ (List.mem_cons_of_mem _ (List.mem_append_left _ h))))))) (fun hq => (List.mem_append.1 hq).elim (fun h => Or.inl (List.mem_cons_of_mem _ (List.mem_cons_of_mem _ (List.mem_cons_of_mem _ (List.mem_cons_of_mem _ (List.mem_cons_of_mem _ (List.mem_append_right _ (List.mem_append_left _ h)))))))) (fun hq => (List.mem_append.1 hq).elim (fun h => Or.inl (List.mem_cons_of_mem _ (List.mem_cons_of_mem _ (List.mem_cons_of_mem _ (List.mem_cons_of_mem _ (List.mem_cons_of_mem _ (List.mem_append_right _ (List.mem_append_right _ h)))))))) (fun hq => Or.inr hq)))) ?_; refine HL_as (as_bool (decide_eq_true hzs)) ?_
                                    all_goals (refine HL_r rfl rfl rfl rfl (R_pickT rfl rfl) ?_)
                                    all_goals refine HL_r rfl rfl rfl rfl (R_assign rfl) ?_
                                    all_goals refine HL_nil ?_
                                    all_goals (
                                      refine HQ_then ?_
                                      refine hK29 _ _ _ _ ?_; clear hK29 K29
                                      refine HC_ret ?_
                                      refine HQ_post rfl rfl (.cons (res_tmp rfl) .nil) (fun w1 hs1 => ?_)
                                      exact ⟨rfl, hs1.keep⟩
                                      skip)
                                    skip)
                                  skip)
                                skip)
                            skip)
                          skip)
                        skip)
                      skip)
                  skip)
                skip)
              skip)
          skip)
        skip)
      skip)
  · have hrd : readS f s.er = (rec0, checkE f s.er) := read_bad hc
    have hrest := rest_bad hc
    generalize checkE f s.er = e at hc hrd hrest
    refine pureR_of_HC Tryz.func7 rfl rfl fun w => ?_
    refine HC_seq fun K1 hK1 => ?_
    refine HC_region ?_
    all_goals refine HL_box (cs := s.cells.toArray) rfl rfl rfl rfl fun rs => ?_
    all_goals refine HL_r rfl rfl rfl rfl (R_assign rfl) ?_
    all_goals refine HL_nil ?_
    all_goals (
      refine HQ_then ?_
      refine hK1 _ _ _ _ ?_; clear hK1 K1
      refine HC_seq fun K2 hK2 => ?_
      refine HC_region ?_
      all_goals refine HL_callR rfl rfl rfl (enters_of Tryz.func13 (by kernel_rfl) rfl) S_works23 (fun q hq => Or.inr hq) ?_
      all_goals refine HL_r rfl rfl rfl rfl (R_assign rfl) ?_
      all_goals refine HL_nil ?_
      all_goals (
        refine HQ_then ?_
        refine hK2 _ _ _ _ ?_; clear hK2 K2
        refine HC_seq fun K3 hK3 => ?_
        refine HC_seq fun K4 hK4 => ?_
        refine HC_region ?_
        all_goals refine HL_r rfl rfl rfl rfl (R_move rfl) ?_
        all_goals refine HL_r rfl rfl rfl rfl (R_pure rfl rfl rfl) ?_
        all_goals refine HL_nil ?_
        all_goals (
          refine HQ_then ?_
          refine hK4 _ _ _ _ ?_; clear hK4 K4
          refine HC_cond rfl (fun h5 => ?_) (fun h5 => ?_)
          · try exact Bool.noConfusion h5
            all_goals try simp only [decide_eq_true_eq, decide_eq_false_iff_not, beq_iff_eq, beq_eq_false_iff_ne, bne_iff_ne, bne_eq_false_iff_eq, Bool.not_eq_true', Bool.not_eq_false', ne_eq, Int.not_lt, Int.not_le, ge_iff_le, gt_iff_lt] at h5
            all_goals (
              refine HC_seq fun K6 hK6 => ?_
              refine HC_region ?_
              all_goals refine HL_r rfl rfl rfl rfl (R_assign rfl) ?_
              all_goals refine HL_nil ?_
              all_goals (
                refine HQ_then ?_
                refine hK6 _ _ _ _ ?_; clear hK6 K6
                refine HC_ret ?_
                refine HQ_thenR ?_; clear hK3 K3
                refine HQ_post rfl rfl (.cons (res_tmp rfl) .nil) (fun w1 hs1 => ?_)
                exact ⟨rfl, hs1.keep⟩
                skip)
              skip)
          · try exact Bool.noConfusion h5
            all_goals try simp only [decide_eq_true_eq, decide_eq_false_iff_not, beq_iff_eq, beq_eq_false_iff_ne, bne_iff_ne, bne_eq_false_iff_eq, Bool.not_eq_true', Bool.not_eq_false', ne_eq, Int.not_lt, Int.not_le, ge_iff_le, gt_iff_lt] at h5
            all_goals (
              refine HC_skip ?_
              refine HQ_then ?_
              refine hK3 _ _ _ _ ?_; clear hK3 K3
              refine HC_seq fun K7 hK7 => ?_
              refine HC_region ?_
              all_goals refine HL_r rfl rfl rfl rfl (R_loadArr (xs := s.cells) (n := 1) rfl (known_L (k := 0) rfl) rfl rfl rfl) ?_
              all_goals refine HL_callR rfl rfl rfl (enters_of Tryz.func14 (by kernel_rfl) rfl) (S_Few hs) (fun q hq => Or.inr hq) ?_
              all_goals refine HL_r rfl rfl rfl rfl (R_assign rfl) ?_
              all_goals refine HL_nil ?_
              all_goals (
                refine HQ_then ?_
                refine hK7 _ _ _ _ ?_; clear hK7 K7
                refine HC_seq fun K8 hK8 => ?_
                refine HC_seq fun K9 hK9 => ?_
                refine HC_region ?_
                all_goals refine HL_r rfl rfl rfl rfl (R_move rfl) ?_
                all_goals refine HL_r rfl rfl rfl rfl (R_pure rfl rfl rfl) ?_
                all_goals refine HL_nil ?_
                all_goals (
                  refine HQ_then ?_
                  refine hK9 _ _ _ _ ?_; clear hK9 K9
                  refine HC_cond rfl (fun h10 => ?_) (fun h10 => ?_)
                  · try exact Bool.noConfusion h10
                    all_goals try simp only [decide_eq_true_eq, decide_eq_false_iff_not, beq_iff_eq, beq_eq_false_iff_ne, bne_iff_ne, bne_eq_false_iff_eq, Bool.not_eq_true', Bool.not_eq_false', ne_eq, Int.not_lt, Int.not_le, ge_iff_le, gt_iff_lt] at h10
                    all_goals (
                      refine HC_seq fun K11 hK11 => ?_
                      refine HC_region ?_
                      all_goals refine HL_r rfl rfl rfl rfl (R_move rfl) ?_
                      all_goals refine HL_r rfl rfl rfl rfl (R_assign rfl) ?_
                      all_goals refine HL_nil ?_
                      all_goals (
                        refine HQ_then ?_
                        refine hK11 _ _ _ _ ?_; clear hK11 K11
                        refine HC_ret ?_
                        refine HQ_thenR ?_; clear hK8 K8
                        refine HQ_post rfl rfl (.cons (res_tmp rfl) .nil) (fun w1 hs1 => ?_)
                        exact ⟨rfl, hs1.keep⟩
                        skip)
                      skip)
                  · try exact Bool.noConfusion h10
                    all_goals try simp only [decide_eq_true_eq, decide_eq_false_iff_not, beq_iff_eq, beq_eq_false_iff_ne, bne_iff_ne, bne_eq_false_iff_eq, Bool.not_eq_true', Bool.not_eq_false', ne_eq, Int.not_lt, Int.not_le, ge_iff_le, gt_iff_lt] at h10
                    all_goals (
                      refine HC_skip ?_
                      refine HQ_then ?_
                      refine hK8 _ _ _ _ ?_; clear hK8 K8
                      refine HC_seq fun K12 hK12 => ?_
                      refine HC_region ?_
                      all_goals refine HL_r rfl rfl rfl rfl (R_move rfl) ?_
                      all_goals refine HL_r rfl rfl rfl rfl (R_loadArr (xs := s.cells) (n := 1) rfl (known_L (k := 0) rfl) rfl rfl rfl) ?_
                      all_goals refine HL_callR rfl rfl rfl (enters_of Tryz.func25 (by kernel_rfl) rfl) (S_lRead f hs) (fun q hq => Or.inr hq) ?_; refine HL_as (as_read hrd) ?_
                      all_goals refine HL_r rfl rfl rfl rfl (R_move rfl) ?_
                      all_goals refine HL_r rfl rfl rfl rfl (R_extract rfl rfl) ?_
                      all_goals refine HL_r rfl rfl rfl rfl (R_extract rfl rfl) ?_
                      all_goals refine HL_alloc (cs := #[_, _, _, _, _, _, _, _, _, _, _, _, _, _, _, _, _]) rfl rfl rfl rfl fun rr => ?_
                      all_goals refine HL_storeArr (k := 0) (n := 17) (ys := (rec0).cells) rfl rfl rfl rfl rfl rfl rfl rfl rfl ?_
                      all_goals refine HL_r rfl rfl rfl rfl (R_assign rfl) ?_
                      all_goals refine HL_nil ?_
                      all_goals (
                        refine HQ_then ?_
                        refine hK12 _ _ _ _ ?_; clear hK12 K12
                        refine HC_seq fun K13 hK13 => ?_
                        refine HC_region ?_
                        all_goals refine HL_r rfl rfl rfl rfl (R_move rfl) ?_
                        all_goals refine HL_r rfl rfl rfl rfl (R_loadArr (xs := s.cells) (n := 1) rfl (known_L (k := 1) rfl) rfl rfl rfl) ?_
                        all_goals refine HL_callRE rfl rfl rfl (enters_of Tryz.func27 (by kernel_rfl) rfl) (S_Rest (R := R) f hs) (fun q hq => Or.inr hq) fun x => ?_
                        all_goals refine HL_perm List.perm_append_comm ?_
                        all_goals change HL _ _ ((32, .tuple #[x.s.val, .int .i64 x.err]) :: _) ((rr, _) :: (rs, _) :: x.L) _ _ _ _
                        all_goals have hxe : x.err = e := (congrArg Prod.snd x.eq).trans (congrArg Prod.snd hrest)
                        all_goals have hxs : x.s.er = [] := (congrArg Prod.fst x.eq).trans (congrArg Prod.fst hrest)
                        all_goals rw [hxe]
                        all_goals refine HL_r rfl rfl rfl rfl (R_move rfl) ?_
                        all_goals refine HL_r rfl rfl rfl rfl (R_extract rfl rfl) ?_
                        all_goals refine HL_r rfl rfl rfl rfl (R_extract rfl rfl) ?_
                        all_goals refine HL_alloc (cs := #[_]) rfl rfl rfl rfl fun rx => ?_
                        all_goals refine HL_storeArr (k := 0) (n := 1) (ys := x.s.cells) rfl rfl rfl rfl rfl rfl rfl rfl rfl ?_
                        all_goals refine HL_r rfl rfl rfl rfl (R_assign rfl) ?_
                        all_goals refine HL_nil ?_
                        all_goals (
                          refine HQ_then ?_
                          refine hK13 _ _ _ _ ?_; clear hK13 K13
                          refine HC_seq fun K14 hK14 => ?_
                          refine HC_seq fun K15 hK15 => ?_
                          refine HC_region ?_
                          all_goals refine HL_r rfl rfl rfl rfl (R_move rfl) ?_
                          all_goals refine HL_r rfl rfl rfl rfl (R_pure rfl rfl rfl) ?_
                          all_goals refine HL_nil ?_
                          all_goals (
                            refine HQ_then ?_
                            refine hK15 _ _ _ _ ?_; clear hK15 K15
                            refine HC_cond rfl (fun h16 => ?_) (fun h16 => ?_)
                            · try exact Bool.noConfusion h16
                              all_goals try simp only [decide_eq_true_eq, decide_eq_false_iff_not, beq_iff_eq, beq_eq_false_iff_ne, bne_iff_ne, bne_eq_false_iff_eq, Bool.not_eq_true', Bool.not_eq_false', ne_eq, Int.not_lt, Int.not_le, ge_iff_le, gt_iff_lt] at h16
                              all_goals (
                                refine HC_seq fun K17 hK17 => ?_
                                refine HC_region ?_
                                all_goals refine HL_r rfl rfl rfl rfl (R_move rfl) ?_
                                all_goals refine HL_r rfl rfl rfl rfl (R_move rfl) ?_
                                all_goals (refine HL_r rfl rfl rfl rfl (R_move rfl) ?_)
                                all_goals (refine HL_r rfl rfl rfl rfl (R_move rfl) ?_)
                                all_goals refine HL_r rfl rfl rfl rfl (R_pure rfl rfl rfl) ?_; refine HL_as (show _ = Value.bool true by simp) ?_
                                all_goals (refine HL_r rfl rfl rfl rfl (R_pickT rfl rfl) ?_)
                                all_goals refine HL_r rfl rfl rfl rfl (R_move rfl) ?_
                                all_goals refine HL_r rfl rfl rfl rfl (R_loadArr (xs := rec0.cells) (n := 17) rfl (known_L (k := 1) rfl) rfl rfl rfl) ?_
                                all_goals (refine HL_r rfl rfl rfl rfl (R_build (r := [_, _, _, _, _, _, _, _, _, _, _, _, _, _, _, _, _]) rfl rfl) ?_)
                                all_goals refine HL_r rfl rfl rfl rfl (R_eqStr (xs := (rec0).cells) (ys := (rec0).cells) rfl rfl rfl (by kernel_rfl) (by kernel_rfl) (.scal (by decide) rfl rfl rfl rfl rfl (.scal (by decide) rfl rfl rfl rfl rfl (.arr (by decide) rfl rfl rfl rfl rfl rfl rfl rfl rfl rfl (.arr (by decide) rfl rfl rfl rfl rfl rfl rfl rfl rfl rfl (.arr (by decide) rfl rfl rfl rfl rfl rfl rfl rfl rfl rfl (.scal (by decide) rfl rfl rfl rfl rfl (.scal (by decide) rfl rfl rfl rfl rfl (.scal (by decide) rfl rfl rfl rfl rfl .nil))))))))) ?_; refine HL_as (congrArg Value.bool (rec_eq (rec0) (rec0))) ?_; refine HL_as (as_bool (show decide (rec0 = rec0) = true from decide_eq_true rfl)) ?_
                                all_goals (refine HL_r rfl rfl rfl rfl (R_pickT rfl rfl) ?_)
                                all_goals refine HL_r rfl rfl rfl rfl (R_move rfl) ?_
                                all_goals refine HL_r rfl rfl rfl rfl (R_loadArr (xs := x.s.cells) (n := 1) rfl (known_L (k := 0) rfl) rfl rfl rfl) ?_
                                all_goals (refine HL_r rfl rfl rfl rfl (R_build (r := [_]) rfl rfl) ?_)
                                all_goals refine HL_callR rfl rfl rfl (enters_of Tryz.func30 (by kernel_rfl) rfl) (S_Same (R := x.L ++ R) (t := st0L) x.ok st0_in) (fun q hq => (List.mem_append.1 hq).elim (fun h => Or.inl (List.mem_cons_of_mem _ (List.mem_cons_of_mem _ (List.mem_cons_of_mem _ h)))) (fun hq => Or.inr hq)) ?_; refine HL_as (as_bool (decide_eq_true hxs)) ?_
                                all_goals (refine HL_r rfl rfl rfl rfl (R_pickT rfl rfl) ?_)
                                all_goals refine HL_r rfl rfl rfl rfl (R_assign rfl) ?_
                                all_goals refine HL_nil ?_
                                all_goals (
                                  refine HQ_then ?_
                                  refine hK17 _ _ _ _ ?_; clear hK17 K17
                                  refine HC_ret ?_
                                  refine HQ_thenR ?_; clear hK14 K14
                                  refine HQ_post rfl rfl (.cons (res_tmp rfl) .nil) (fun w1 hs1 => ?_)
                                  exact ⟨rfl, hs1.keep⟩
                                  skip)
                                skip)
                            · try exact Bool.noConfusion h16
                              all_goals try simp only [decide_eq_true_eq, decide_eq_false_iff_not, beq_iff_eq, beq_eq_false_iff_ne, bne_iff_ne, bne_eq_false_iff_eq, Bool.not_eq_true', Bool.not_eq_false', ne_eq, Int.not_lt, Int.not_le, ge_iff_le, gt_iff_lt] at h16
                              all_goals (
                                refine HC_skip ?_
                                refine HQ_then ?_
                                refine hK14 _ _ _ _ ?_; clear hK14 K14
                                refine HC_seq fun K22 hK22 => ?_
                                refine HC_region ?_
                                all_goals exact absurd (by assumption) hc
                                all_goals refine HL_callP rfl rfl rfl (enters_of Tryz.func15 (by kernel_rfl) rfl) (P_layout_Write ..) ?_
                                all_goals refine HL_r rfl rfl rfl rfl (R_move rfl) ?_
                                all_goals refine HL_r rfl rfl rfl rfl (R_extract rfl rfl) ?_
                                all_goals refine HL_r rfl rfl rfl rfl (R_extract rfl rfl) ?_
                                all_goals refine HL_alloc (cs := #[_]) rfl rfl rfl rfl fun r1 => ?_
                                all_goals refine HL_r rfl rfl rfl rfl (R_assign rfl) ?_
                                all_goals refine HL_nil ?_
                                all_goals (
                                  refine HQ_then ?_
                                  refine hK22 _ _ _ _ ?_; clear hK22 K22
                                  refine HC_seq fun K23 hK23 => ?_
                                  refine HC_region ?_
                                  all_goals refine HL_r rfl rfl rfl rfl (R_move rfl) ?_
                                  all_goals refine HL_callP rfl rfl rfl (enters_of Tryz.func15 (by kernel_rfl) rfl) (P_layout_Write ..) ?_
                                  all_goals refine HL_r rfl rfl rfl rfl (R_move rfl) ?_
                                  all_goals refine HL_r rfl rfl rfl rfl (R_extract rfl rfl) ?_
                                  all_goals refine HL_r rfl rfl rfl rfl (R_extract rfl rfl) ?_
                                  all_goals refine HL_alloc (cs := #[_]) rfl rfl rfl rfl fun r2 => ?_
                                  all_goals refine HL_r rfl rfl rfl rfl (R_assign rfl) ?_
                                  all_goals refine HL_nil ?_
                                  all_goals (
                                    refine HQ_then ?_
                                    refine hK23 _ _ _ _ ?_; clear hK23 K23
                                    refine HC_seq fun K24 hK24 => ?_
                                    refine HC_region ?_
                                    all_goals refine HL_r rfl rfl rfl rfl (R_move rfl) ?_
                                    all_goals refine HL_r rfl rfl rfl rfl (R_move rfl) ?_
                                    all_goals refine HL_r rfl rfl rfl rfl (R_move rfl) ?_
                                    all_goals refine HL_r rfl rfl rfl rfl (R_move rfl) ?_
                                    all_goals refine HL_r rfl rfl rfl rfl (R_move rfl) ?_
                                    all_goals refine HL_r rfl rfl rfl rfl (R_move rfl) ?_
                                    all_goals refine HL_r rfl rfl rfl rfl (R_assign rfl) ?_
                                    all_goals refine HL_nil ?_
                                    all_goals (
                                      refine HQ_then ?_
                                      refine hK24 _ _ _ _ ?_; clear hK24 K24
                                      refine HC_ret ?_
                                      refine HQ_post rfl rfl (.cons (res_tmp rfl) .nil) (fun w1 hs1 => ?_)
                                      exact ⟨rfl, hs1.keep⟩
                                      skip)
                                    skip)
                                  skip)
                                skip)
                            skip)
                          skip)
                        skip)
                      skip)
                  skip)
                skip)
              skip)
          skip)
        skip)
      skip)
end Go.Proofs.YtnkmbkndpoghdaaGreat
