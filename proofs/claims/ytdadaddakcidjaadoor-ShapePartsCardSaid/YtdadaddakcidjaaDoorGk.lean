import Derived.Test.YtdadaddakcidjaaDoorGj
namespace Go.Proofs.YtdadaddakcidjaaDoor
set_option linter.all false
open Go.SL Go.RowKit Go.Shelf
def tBlk (r : Nat) (t : Ty) : Nat × Obj := (r, .cells t.cells.toArray 24 (0, 0))
instance : Inhabited Vl := ⟨zVl⟩
def itm (l : List Vl) (i : Nat) : Vl := l.getD i default
theorem itm_get {l : List Vl} {i : Nat} (h : i < l.length) : l[i]? = some (itm l i) ∧ itm l i ∈ l := by
  unfold itm
  rw [List.getD_eq_getElem?_getD, List.getElem?_eq_getElem h]
  exact ⟨rfl, List.getElem_mem h⟩
set_option maxRecDepth 10000 in
theorem E_within (t : Ty) (v : Vl) : PureE (α := Nat × Nat) Tryd.prog 41 [t.val, v.val].toArray (fun p => .func (.func 79) #[] #[.pointer (some ⟨p.2, 0, none⟩), .pointer (some ⟨p.1, 0, none⟩)])
    (fun p => [vBlk p.2 v, tBlk p.1 t]) := by
  obtain ⟨k, n, p, ins⟩ := t
  obtain ⟨a, b, c, d, bits, pb, items, pi, pick⟩ := v
  refine pureE_of_HC Tryd.func41 rfl rfl fun w => ?_
  refine HC_seq fun K1 hK1 => ?_
  refine HC_region ?_
  all_goals refine HL_box (cs := #[_, _, _]) rfl rfl rfl rfl fun r1 => ?_
  all_goals refine HL_box (cs := #[_, _, _, _, _, _, _]) rfl rfl rfl rfl fun r2 => ?_
  all_goals refine HL_r rfl rfl rfl rfl (R_assign rfl) ?_
  all_goals refine HL_nil ?_
  all_goals (
    refine HQ_then ?_
    refine hK1 _ _ _ _ ?_; clear hK1 K1
    refine HC_seq fun K2 hK2 => ?_
    refine HC_region ?_
    all_goals refine HL_r rfl rfl rfl rfl (R_makeFunc rfl rfl) ?_
    all_goals refine HL_r rfl rfl rfl rfl (R_assign rfl) ?_
    all_goals refine HL_nil ?_
    all_goals (
      refine HQ_then ?_
      refine hK2 _ _ _ _ ?_; clear hK2 K2
      refine HC_ret ?_
      refine HQ_post rfl rfl (.cons (res_tmp rfl) .nil) (fun w1 hs1 => ?_)
      exact ⟨(r1, r2), rfl, hs1⟩
      skip)
    skip)
def wVals (k pick : Int) (ins : List Ty) (items : List Vl) (i : Nat) : List Value := [(inTy k pick ins i).val, (itm items i).val]
set_option maxRecDepth 10000 in
theorem I_within {R : List (Nat × Obj)} {k n : Int} {p : Pl} {ins : List Ty} {a b c d : Nat} {bits : List Bool} {pb : Pl} {items : List Vl} {pi : Pl} {pick : Int} (hl : items.length ≤ 9223372036854775807) (hlt : ins.length ≤ 9223372036854775807) (hs : Seg R items.length (vlsC items) pi) (hst : Seg R ins.length (tysC ins) p)
    (hx : ∀ i, i < items.length → inX k pick i < ins.length) (hp8 : k = 8 → 0 ≤ pick) (rt rv : Nat) :
    Iter Tryd.prog 79 [.pointer (some ⟨rv, 0, none⟩), .pointer (some ⟨rt, 0, none⟩)] (vBlk rv (.mk a b c d bits pb items pi pick) :: tBlk rt (.mk k n p ins) :: R) 0 (nxN (wVals k pick ins items) items.length) (finN items.length) := by
  have hs := hs.mono (R' := vBlk rv (.mk a b c d bits pb items pi pick) :: tBlk rt (.mk k n p ins) :: R) fun q hq => List.mem_cons_of_mem _ (List.mem_cons_of_mem _ hq)
  have hst := hst.mono (R' := vBlk rv (.mk a b c d bits pb items pi pick) :: tBlk rt (.mk k n p ins) :: R) fun q hq => List.mem_cons_of_mem _ (List.mem_cons_of_mem _ hq)
  refine iter_of_HC Tryd.func79 rfl rfl fun q xids w2 XI XF hY => ?_
  refine HC_seq fun K1 hK1 => ?_
  refine HC_region ?_
  all_goals refine HL_r rfl rfl rfl rfl (R_fieldAddr rfl rfl (by first | (simp only [Nat.zero_add, Nat.reduceAdd, Nat.reduceMul, Nat.zero_mul, Nat.mul_one, Nat.add_zero]; exact rfl) | exact rfl)) ?_
  all_goals (refine HL_r rfl rfl rfl rfl (R_load rfl (known_R (k := 0) rfl) rfl rfl) ?_)
  all_goals (refine HL_r rfl rfl rfl rfl (R_lenPl rfl hs rfl) ?_)
  all_goals refine HL_r rfl rfl rfl rfl (R_move rfl) ?_
  all_goals refine HL_nil ?_
  all_goals (
    refine HQ_then ?_
    refine hK1 _ _ _ _ ?_; clear hK1 K1
    refine HC_block ?_
    refine HC_loop (σ := Nat) (fun i => i ≤ items.length) (fun i => [(0, .func (.yield q) #[] #[]), (1, .pointer (some ⟨rv, 0, none⟩)), (2, .pointer (some ⟨rt, 0, none⟩)), (8, plV items.length pi), (9, .int .i64 (items.length : Int)), (10, .int .i64 (i : Int))]) (fun _ => []) (fun i => XI i) (fun i => items.length - i) 0 (Nat.zero_le _) (.cons rfl (.cons rfl (.cons rfl (.cons rfl (.cons rfl (.cons rfl .nil)))))) (List.nil_sublist _) (fun _ _ h => h) ?_
    intro i hi
    refine HC_seq fun K2 hK2 => ?_
    refine HC_region ?_
    all_goals refine HL_r rfl rfl rfl rfl (R_pure rfl rfl rfl) ?_
    all_goals refine HL_nil ?_
    all_goals (
      refine HQ_then ?_
      refine hK2 _ _ _ _ ?_; clear hK2 K2
      refine HC_seq fun K3 hK3 => ?_
      refine HC_cond rfl (fun h4 => ?_) (fun h4 => ?_)
      · try exact Bool.noConfusion h4
        all_goals try simp only [decide_eq_true_eq, decide_eq_false_iff_not, beq_iff_eq, beq_eq_false_iff_ne, bne_iff_ne, bne_eq_false_iff_eq, Bool.not_eq_true', Bool.not_eq_false', ne_eq, Int.not_lt, Int.not_le, ge_iff_le, gt_iff_lt] at h4
        all_goals (
          refine HC_skip ?_
          refine HQ_then ?_
          refine hK3 _ _ _ _ ?_; clear hK3 K3
          refine HC_seq fun K5 hK5 => ?_
          refine HC_block ?_
          refine HC_seq fun K6 hK6 => ?_
          have hil : i < items.length := by omega
          have hix := itm_get hil
          have hty := inTy_get (hx i hil)
          refine HC_region ?_
          all_goals refine HL_r rfl rfl rfl rfl (R_move rfl) ?_
          all_goals refine HL_r rfl rfl rfl rfl (R_indexPl (j := i) rfl hs rfl rfl rfl rfl (by omega)) ?_
          all_goals refine HL_r rfl rfl rfl rfl (R_loadVl (fun q hq => Or.inr hq) rfl hs hix.1 rfl rfl) ?_
          all_goals refine HL_alloc (cs := #[_, _, _, _, _, _, _]) rfl rfl rfl rfl fun r1 => ?_
          all_goals refine HL_r rfl rfl rfl rfl (R_assign rfl) ?_
          all_goals refine HL_storeArr (k := 0) (n := 7) (ys := (itm items i).cells) rfl rfl rfl rfl rfl (itm items i).len rfl (itm items i).one rfl ?_
          all_goals refine HL_nil ?_
          all_goals (
            refine HQ_then ?_
            refine hK6 _ _ _ _ ?_; clear hK6 K6
            refine HC_seq fun K7 hK7 => ?_
            refine HC_region ?_
            all_goals refine HL_r rfl rfl rfl rfl (R_assign rfl) ?_
            all_goals refine HL_nil ?_
            all_goals (
              refine HQ_then ?_
              refine hK7 _ _ _ _ ?_; clear hK7 K7
              refine HC_seq fun K8 hK8 => ?_
              refine HC_seq fun K9 hK9 => ?_
              refine HC_region ?_
              all_goals refine HL_r rfl rfl rfl rfl (R_fieldAddr rfl rfl (by first | (simp only [Nat.zero_add, Nat.reduceAdd, Nat.reduceMul, Nat.zero_mul, Nat.mul_one, Nat.add_zero]; exact rfl) | exact rfl)) ?_
              all_goals (refine HL_r rfl rfl rfl rfl (R_load rfl (known_R (k := 1) rfl) rfl rfl) ?_)
              all_goals refine HL_nil ?_
              all_goals (
                refine HQ_then ?_
                refine hK9 _ _ _ _ ?_; clear hK9 K9
                refine HC_block ?_
                refine HC_seq fun K10 hK10 => ?_
                refine HC_region ?_
                all_goals refine HL_r rfl rfl rfl rfl (R_pure rfl rfl rfl) ?_
                all_goals refine HL_r rfl rfl rfl rfl (R_assign rfl) ?_
                all_goals refine HL_nil ?_
                all_goals (
                  refine HQ_then ?_
                  refine hK10 _ _ _ _ ?_; clear hK10 K10
                  refine HC_cond rfl (fun h11 => ?_) (fun h11 => ?_)
                  · try exact Bool.noConfusion h11
                    all_goals try simp only [decide_eq_true_eq, decide_eq_false_iff_not, beq_iff_eq, beq_eq_false_iff_ne, bne_iff_ne, bne_eq_false_iff_eq, Bool.not_eq_true', Bool.not_eq_false', ne_eq, Int.not_lt, Int.not_le, ge_iff_le, gt_iff_lt] at h11
                    all_goals (
                      refine HC_region ?_
                      all_goals refine HL_r rfl rfl rfl rfl (R_move rfl) ?_
                      all_goals refine HL_r rfl rfl rfl rfl (R_assign rfl) ?_
                      all_goals refine HL_nil ?_
                      all_goals (
                        refine HQ_blockN ?_
                        refine HQ_then ?_
                        refine hK8 _ _ _ _ ?_; clear hK8 K8
                        refine HC_seq fun K12 hK12 => ?_
                        refine HC_draw 7 (by kernel_rfl) (by kernel_rfl) ?_
                        all_goals refine HD_r rfl rfl rfl (R_move rfl) ?_
                        all_goals refine HD_r rfl rfl rfl (R_fieldAddr rfl rfl (by first | (simp only [Nat.zero_add, Nat.reduceAdd, Nat.reduceMul, Nat.zero_mul, Nat.mul_one, Nat.add_zero]; exact rfl) | exact rfl)) ?_
                        all_goals (refine HD_r rfl rfl rfl (R_load rfl (known_R (k := 1) rfl) rfl rfl) ?_)
                        all_goals refine HD_r rfl rfl rfl (R_move rfl) ?_
                        all_goals refine HD_r rfl rfl rfl (R_indexPl (j := inX k pick i) rfl hst rfl rfl rfl (by unfold inX; first | (rw [if_pos (by assumption)]) | (rw [if_neg (by assumption), if_pos (by assumption)]; have := hp8 (by assumption); omega) | (rw [if_neg (by assumption), if_neg (by assumption)]; rfl)) (hx i hil)) ?_
                        all_goals refine HD_r rfl rfl rfl (R_loadTy (fun q hq => Or.inr hq) rfl hst hty.1 rfl rfl) ?_
                        all_goals refine HD_r rfl rfl rfl (R_loadArr (xs := (itm items i).cells) (n := 7) rfl (known_L (k := 0) rfl) rfl rfl (itm items i).len) ?_
                        all_goals refine HD_end ?_
                        all_goals refine HL_yield (XT := XI (i + 1)) (XF := XF) rfl rfl rfl rfl (hY i (wVals k pick ins items i) (i + 1) ⟨hil, rfl, rfl⟩) ?_ ?_
                        all_goals refine HL_r rfl rfl rfl rfl (R_pure rfl rfl rfl) ?_
                        all_goals refine HL_nil ?_
                        all_goals (
                          refine HQ_then ?_
                          refine hK12 _ _ _ _ ?_; clear hK12 K12
                          refine HC_cond rfl (fun h13 => ?_) (fun h13 => ?_)
                          · try exact Bool.noConfusion h13
                            all_goals try simp only [decide_eq_true_eq, decide_eq_false_iff_not, beq_iff_eq, beq_eq_false_iff_ne, bne_iff_ne, bne_eq_false_iff_eq, Bool.not_eq_true', Bool.not_eq_false', ne_eq, Int.not_lt, Int.not_le, ge_iff_le, gt_iff_lt] at h13
                            all_goals (
                              refine HC_ret ?_
                              refine HQ_blockR ?_
                              refine HQ_thenR ?_; clear hK5 K5
                              refine HQ_thenR ?_
                              refine HQ_blockR ?_
                              refine HQ_post rfl rfl .nil (fun w1 hs1 => ?_)
                              obtain ⟨xs1, hx1⟩ := hs1.now
                              first
                                | exact ⟨⟨_, rfl⟩, hs1.keep, .inr ⟨_, hx1⟩⟩
                                | exact ⟨⟨_, rfl⟩, hs1.keep, .inl ⟨i, _, (by show i = items.length; omega), hx1⟩⟩
                              skip)
                          · try exact Bool.noConfusion h13
                            all_goals try simp only [decide_eq_true_eq, decide_eq_false_iff_not, beq_iff_eq, beq_eq_false_iff_ne, bne_iff_ne, bne_eq_false_iff_eq, Bool.not_eq_true', Bool.not_eq_false', ne_eq, Int.not_lt, Int.not_le, ge_iff_le, gt_iff_lt] at h13
                            all_goals (
                              refine HC_skip ?_
                              refine HQ_blockN ?_
                              refine HQ_then ?_
                              refine hK5 _ _ _ _ ?_; clear hK5 K5
                              refine HC_region ?_
                              all_goals (refine HL_r rfl rfl rfl rfl (R_pure rfl rfl rfl) ?_; refine HL_wrap_i64 (by omega) (by omega) ?_)
                              all_goals refine HL_r rfl rfl rfl rfl (R_move rfl) ?_
                              all_goals refine HL_nil ?_
                              all_goals (
                                refine HQ_then ?_
                                exact HQ_again (i + 1) (by omega) (by omega) (.cons rfl (.cons rfl (.cons rfl (.cons rfl (.cons rfl (.cons rfl .nil)))))) (List.nil_sublist _) (fun _ _ h => h)
                                skip)
                              skip)
                          skip)
                        skip)
                      skip)
                  · try exact Bool.noConfusion h11
                    all_goals try simp only [decide_eq_true_eq, decide_eq_false_iff_not, beq_iff_eq, beq_eq_false_iff_ne, bne_iff_ne, bne_eq_false_iff_eq, Bool.not_eq_true', Bool.not_eq_false', ne_eq, Int.not_lt, Int.not_le, ge_iff_le, gt_iff_lt] at h11
                    all_goals (
                      refine HC_seq fun K14 hK14 => ?_
                      refine HC_region ?_
                      all_goals refine HL_r rfl rfl rfl rfl (R_pure rfl rfl rfl) ?_
                      all_goals refine HL_r rfl rfl rfl rfl (R_assign rfl) ?_
                      all_goals refine HL_nil ?_
                      all_goals (
                        refine HQ_then ?_
                        refine hK14 _ _ _ _ ?_; clear hK14 K14
                        refine HC_cond rfl (fun h15 => ?_) (fun h15 => ?_)
                        · try exact Bool.noConfusion h15
                          all_goals try simp only [decide_eq_true_eq, decide_eq_false_iff_not, beq_iff_eq, beq_eq_false_iff_ne, bne_iff_ne, bne_eq_false_iff_eq, Bool.not_eq_true', Bool.not_eq_false', ne_eq, Int.not_lt, Int.not_le, ge_iff_le, gt_iff_lt] at h15
                          all_goals (
                            refine HC_region ?_
                            all_goals refine HL_r rfl rfl rfl rfl (R_fieldAddr rfl rfl (by first | (simp only [Nat.zero_add, Nat.reduceAdd, Nat.reduceMul, Nat.zero_mul, Nat.mul_one, Nat.add_zero]; exact rfl) | exact rfl)) ?_
                            all_goals (refine HL_r rfl rfl rfl rfl (R_load rfl (known_R (k := 0) rfl) rfl rfl) ?_)
                            all_goals refine HL_r rfl rfl rfl rfl (R_assign rfl) ?_
                            all_goals refine HL_nil ?_
                            all_goals (
                              refine HQ_blockN ?_
                              refine HQ_then ?_
                              refine hK8 _ _ _ _ ?_; clear hK8 K8
                              refine HC_seq fun K16 hK16 => ?_
                              refine HC_draw 7 (by kernel_rfl) (by kernel_rfl) ?_
                              all_goals refine HD_r rfl rfl rfl (R_move rfl) ?_
                              all_goals refine HD_r rfl rfl rfl (R_fieldAddr rfl rfl (by first | (simp only [Nat.zero_add, Nat.reduceAdd, Nat.reduceMul, Nat.zero_mul, Nat.mul_one, Nat.add_zero]; exact rfl) | exact rfl)) ?_
                              all_goals (refine HD_r rfl rfl rfl (R_load rfl (known_R (k := 1) rfl) rfl rfl) ?_)
                              all_goals refine HD_r rfl rfl rfl (R_move rfl) ?_
                              all_goals refine HD_r rfl rfl rfl (R_indexPl (j := inX k pick i) rfl hst rfl rfl rfl (by unfold inX; first | (rw [if_pos (by assumption)]) | (rw [if_neg (by assumption), if_pos (by assumption)]; have := hp8 (by assumption); omega) | (rw [if_neg (by assumption), if_neg (by assumption)]; rfl)) (hx i hil)) ?_
                              all_goals refine HD_r rfl rfl rfl (R_loadTy (fun q hq => Or.inr hq) rfl hst hty.1 rfl rfl) ?_
                              all_goals refine HD_r rfl rfl rfl (R_loadArr (xs := (itm items i).cells) (n := 7) rfl (known_L (k := 0) rfl) rfl rfl (itm items i).len) ?_
                              all_goals refine HD_end ?_
                              all_goals refine HL_yield (XT := XI (i + 1)) (XF := XF) rfl rfl rfl rfl (hY i (wVals k pick ins items i) (i + 1) ⟨hil, rfl, rfl⟩) ?_ ?_
                              all_goals refine HL_r rfl rfl rfl rfl (R_pure rfl rfl rfl) ?_
                              all_goals refine HL_nil ?_
                              all_goals (
                                refine HQ_then ?_
                                refine hK16 _ _ _ _ ?_; clear hK16 K16
                                refine HC_cond rfl (fun h17 => ?_) (fun h17 => ?_)
                                · try exact Bool.noConfusion h17
                                  all_goals try simp only [decide_eq_true_eq, decide_eq_false_iff_not, beq_iff_eq, beq_eq_false_iff_ne, bne_iff_ne, bne_eq_false_iff_eq, Bool.not_eq_true', Bool.not_eq_false', ne_eq, Int.not_lt, Int.not_le, ge_iff_le, gt_iff_lt] at h17
                                  all_goals (
                                    refine HC_ret ?_
                                    refine HQ_blockR ?_
                                    refine HQ_thenR ?_; clear hK5 K5
                                    refine HQ_thenR ?_
                                    refine HQ_blockR ?_
                                    refine HQ_post rfl rfl .nil (fun w1 hs1 => ?_)
                                    obtain ⟨xs1, hx1⟩ := hs1.now
                                    first
                                      | exact ⟨⟨_, rfl⟩, hs1.keep, .inr ⟨_, hx1⟩⟩
                                      | exact ⟨⟨_, rfl⟩, hs1.keep, .inl ⟨i, _, (by show i = items.length; omega), hx1⟩⟩
                                    skip)
                                · try exact Bool.noConfusion h17
                                  all_goals try simp only [decide_eq_true_eq, decide_eq_false_iff_not, beq_iff_eq, beq_eq_false_iff_ne, bne_iff_ne, bne_eq_false_iff_eq, Bool.not_eq_true', Bool.not_eq_false', ne_eq, Int.not_lt, Int.not_le, ge_iff_le, gt_iff_lt] at h17
                                  all_goals (
                                    refine HC_skip ?_
                                    refine HQ_blockN ?_
                                    refine HQ_then ?_
                                    refine hK5 _ _ _ _ ?_; clear hK5 K5
                                    refine HC_region ?_
                                    all_goals (refine HL_r rfl rfl rfl rfl (R_pure rfl rfl rfl) ?_; refine HL_wrap_i64 (by omega) (by omega) ?_)
                                    all_goals refine HL_r rfl rfl rfl rfl (R_move rfl) ?_
                                    all_goals refine HL_nil ?_
                                    all_goals (
                                      refine HQ_then ?_
                                      exact HQ_again (i + 1) (by omega) (by omega) (.cons rfl (.cons rfl (.cons rfl (.cons rfl (.cons rfl (.cons rfl .nil)))))) (List.nil_sublist _) (fun _ _ h => h)
                                      skip)
                                    skip)
                                skip)
                              skip)
                            skip)
                        · try exact Bool.noConfusion h15
                          all_goals try simp only [decide_eq_true_eq, decide_eq_false_iff_not, beq_iff_eq, beq_eq_false_iff_ne, bne_iff_ne, bne_eq_false_iff_eq, Bool.not_eq_true', Bool.not_eq_false', ne_eq, Int.not_lt, Int.not_le, ge_iff_le, gt_iff_lt] at h15
                          all_goals (
                            refine HC_skip ?_
                            refine HQ_blockN ?_
                            refine HQ_then ?_
                            refine hK8 _ _ _ _ ?_; clear hK8 K8
                            refine HC_seq fun K18 hK18 => ?_
                            refine HC_draw 7 (by kernel_rfl) (by kernel_rfl) ?_
                            all_goals refine HD_r rfl rfl rfl (R_move rfl) ?_
                            all_goals refine HD_r rfl rfl rfl (R_fieldAddr rfl rfl (by first | (simp only [Nat.zero_add, Nat.reduceAdd, Nat.reduceMul, Nat.zero_mul, Nat.mul_one, Nat.add_zero]; exact rfl) | exact rfl)) ?_
                            all_goals (refine HD_r rfl rfl rfl (R_load rfl (known_R (k := 1) rfl) rfl rfl) ?_)
                            all_goals refine HD_r rfl rfl rfl (R_move rfl) ?_
                            all_goals refine HD_r rfl rfl rfl (R_indexPl (j := inX k pick i) rfl hst rfl rfl rfl (by unfold inX; first | (rw [if_pos (by assumption)]) | (rw [if_neg (by assumption), if_pos (by assumption)]; have := hp8 (by assumption); omega) | (rw [if_neg (by assumption), if_neg (by assumption)]; rfl)) (hx i hil)) ?_
                            all_goals refine HD_r rfl rfl rfl (R_loadTy (fun q hq => Or.inr hq) rfl hst hty.1 rfl rfl) ?_
                            all_goals refine HD_r rfl rfl rfl (R_loadArr (xs := (itm items i).cells) (n := 7) rfl (known_L (k := 0) rfl) rfl rfl (itm items i).len) ?_
                            all_goals refine HD_end ?_
                            all_goals refine HL_yield (XT := XI (i + 1)) (XF := XF) rfl rfl rfl rfl (hY i (wVals k pick ins items i) (i + 1) ⟨hil, rfl, rfl⟩) ?_ ?_
                            all_goals refine HL_r rfl rfl rfl rfl (R_pure rfl rfl rfl) ?_
                            all_goals refine HL_nil ?_
                            all_goals (
                              refine HQ_then ?_
                              refine hK18 _ _ _ _ ?_; clear hK18 K18
                              refine HC_cond rfl (fun h19 => ?_) (fun h19 => ?_)
                              · try exact Bool.noConfusion h19
                                all_goals try simp only [decide_eq_true_eq, decide_eq_false_iff_not, beq_iff_eq, beq_eq_false_iff_ne, bne_iff_ne, bne_eq_false_iff_eq, Bool.not_eq_true', Bool.not_eq_false', ne_eq, Int.not_lt, Int.not_le, ge_iff_le, gt_iff_lt] at h19
                                all_goals (
                                  refine HC_ret ?_
                                  refine HQ_blockR ?_
                                  refine HQ_thenR ?_; clear hK5 K5
                                  refine HQ_thenR ?_
                                  refine HQ_blockR ?_
                                  refine HQ_post rfl rfl .nil (fun w1 hs1 => ?_)
                                  obtain ⟨xs1, hx1⟩ := hs1.now
                                  first
                                    | exact ⟨⟨_, rfl⟩, hs1.keep, .inr ⟨_, hx1⟩⟩
                                    | exact ⟨⟨_, rfl⟩, hs1.keep, .inl ⟨i, _, (by show i = items.length; omega), hx1⟩⟩
                                  skip)
                              · try exact Bool.noConfusion h19
                                all_goals try simp only [decide_eq_true_eq, decide_eq_false_iff_not, beq_iff_eq, beq_eq_false_iff_ne, bne_iff_ne, bne_eq_false_iff_eq, Bool.not_eq_true', Bool.not_eq_false', ne_eq, Int.not_lt, Int.not_le, ge_iff_le, gt_iff_lt] at h19
                                all_goals (
                                  refine HC_skip ?_
                                  refine HQ_blockN ?_
                                  refine HQ_then ?_
                                  refine hK5 _ _ _ _ ?_; clear hK5 K5
                                  refine HC_region ?_
                                  all_goals (refine HL_r rfl rfl rfl rfl (R_pure rfl rfl rfl) ?_; refine HL_wrap_i64 (by omega) (by omega) ?_)
                                  all_goals refine HL_r rfl rfl rfl rfl (R_move rfl) ?_
                                  all_goals refine HL_nil ?_
                                  all_goals (
                                    refine HQ_then ?_
                                    exact HQ_again (i + 1) (by omega) (by omega) (.cons rfl (.cons rfl (.cons rfl (.cons rfl (.cons rfl (.cons rfl .nil)))))) (List.nil_sublist _) (fun _ _ h => h)
                                    skip)
                                  skip)
                              skip)
                            skip)
                        skip)
                      skip)
                  skip)
                skip)
              skip)
            skip)
          skip)
      · try exact Bool.noConfusion h4
        all_goals try simp only [decide_eq_true_eq, decide_eq_false_iff_not, beq_iff_eq, beq_eq_false_iff_ne, bne_iff_ne, bne_eq_false_iff_eq, Bool.not_eq_true', Bool.not_eq_false', ne_eq, Int.not_lt, Int.not_le, ge_iff_le, gt_iff_lt] at h4
        all_goals (
          refine HC_exit ?_
          refine HQ_thenE ?_; clear hK3 K3
          refine HQ_thenE ?_
          refine HQ_blockE ?_
          refine HQ_postN rfl rfl .nil (fun w1 hs1 => ?_)
          obtain ⟨xs1, hx1⟩ := hs1.now
          first
            | exact ⟨⟨_, rfl⟩, hs1.keep, .inr ⟨_, hx1⟩⟩
            | exact ⟨⟨_, rfl⟩, hs1.keep, .inl ⟨i, _, (by show i = items.length; omega), hx1⟩⟩
          skip)
      skip)
    skip)
theorem fit_ok {a b c d : Nat} {bits : List Bool} {pb : Pl} {items : List Vl} {pi : Pl} {pick k n : Int} {p : Pl} {ins : List Ty} (h1 : ¬ ((k = 4 ∧ n < items.length) ∨ (k = 6 ∧ n < bits.length))) (h2 : ofT k n ins.length (.mk a b c d bits pb items pi pick) = true) : fitT (.mk a b c d bits pb items pi pick) (.mk k n p ins) = fitL items k pick ins 0 := by
  rw [fitT, if_neg h1, if_neg (by rw [h2]; simp)]
set_option maxRecDepth 10000 in
theorem S_fits {R : List (Nat × Obj)} {v : Vl} (hv : v.In R) : ∀ (t : Ty) (dp : Int), t.In R → chk t dp = 0 → PureR Tryd.prog 32 [t.val, v.val].toArray (.int .i64 (fitT v t)) R := by
  have hv0 := hv
  induction hv with
  | @mk a b c d bits pb items pi pick ha hb hc hd hlb hsb hl hs hp hi ih =>
  intro t dp ht hck
  have ht0 := ht
  cases ht with
  | @mk k n p ins hk hn hlt hst hit =>
  obtain ⟨hk8, ho, h6, hci⟩ := chk_mk hck
  have hkk := isK_iff.2 hk8
  have hO := O_all ht0 hv0 hkk
  refine pureR_of_HC Tryd.func32 rfl rfl fun w => ?_
  refine HC_seq fun K1 hK1 => ?_
  refine HC_region ?_
  all_goals refine HL_box (cs := #[_, _, _]) rfl rfl rfl rfl fun r1 => ?_
  all_goals refine HL_box (cs := #[_, _, _, _, _, _, _]) rfl rfl rfl rfl fun r2 => ?_
  all_goals refine HL_alloc (cs := #[_]) rfl rfl rfl rfl fun r3 => ?_
  all_goals refine HL_nil ?_
  all_goals (
    refine HQ_then ?_
    refine hK1 _ _ _ _ ?_; clear hK1 K1
    refine HC_seq fun K2 hK2 => ?_
    refine HC_block ?_
    refine HC_seq fun K3 hK3 => ?_
    refine HC_seq fun K4 hK4 => ?_
    refine HC_region ?_
    all_goals refine HL_r rfl rfl rfl rfl (R_fieldAddr rfl rfl (by first | (simp only [Nat.zero_add, Nat.reduceAdd, Nat.reduceMul, Nat.zero_mul, Nat.mul_one, Nat.add_zero]; exact rfl) | exact rfl)) ?_
    all_goals (refine HL_r rfl rfl rfl rfl (R_load rfl (known_L (k := 2) rfl) rfl rfl) ?_)
    all_goals refine HL_r rfl rfl rfl rfl (R_pure rfl rfl rfl) ?_
    all_goals refine HL_r rfl rfl rfl rfl (R_move rfl) ?_
    all_goals (refine HL_case 12 rfl (fun hb5 => ?_) (fun hb5 => ?_) <;> (try simp only [decide_eq_true_eq, decide_eq_false_iff_not, beq_iff_eq, beq_eq_false_iff_ne, bne_iff_ne, bne_eq_false_iff_eq, Bool.not_eq_true', Bool.not_eq_false', ne_eq, Int.not_lt, Int.not_le, ge_iff_le, gt_iff_lt] at hb5) <;> first | (refine HL_r rfl rfl rfl rfl (R_fieldAddr rfl rfl (by first | (simp only [Nat.zero_add, Nat.reduceAdd, Nat.reduceMul, Nat.zero_mul, Nat.mul_one, Nat.add_zero]; exact rfl) | exact rfl)) ?_) | (refine HL_skip rfl rfl rfl ?_))
    all_goals first
      | (refine HL_r rfl rfl rfl rfl (R_load rfl (known_L (k := 1) rfl) rfl rfl) ?_)
      | (refine HL_skip rfl rfl rfl ?_)
    all_goals first
      | (refine HL_r rfl rfl rfl rfl (R_lenPl rfl hs rfl) ?_)
      | (refine HL_skip rfl rfl rfl ?_)
    all_goals first
      | (refine HL_r rfl rfl rfl rfl (R_fieldAddr rfl rfl (by first | (simp only [Nat.zero_add, Nat.reduceAdd, Nat.reduceMul, Nat.zero_mul, Nat.mul_one, Nat.add_zero]; exact rfl) | exact rfl)) ?_)
      | (refine HL_skip rfl rfl rfl ?_)
    all_goals first
      | (refine HL_r rfl rfl rfl rfl (R_load rfl (known_L (k := 2) rfl) rfl rfl) ?_)
      | (refine HL_skip rfl rfl rfl ?_)
    all_goals first
      | (refine HL_r rfl rfl rfl rfl (R_pure rfl rfl rfl) ?_)
      | (refine HL_skip rfl rfl rfl ?_)
    all_goals first
      | (refine HL_r rfl rfl rfl rfl (R_pickT rfl rfl) ?_)
      | (refine HL_r rfl rfl rfl rfl (R_pickF rfl rfl) ?_)
    all_goals refine HL_r rfl rfl rfl rfl (R_assign rfl) ?_
    all_goals refine HL_nil ?_
    all_goals (
      refine HQ_then ?_
      refine hK4 _ _ _ _ ?_; clear hK4 K4
      refine HC_cond rfl (fun h11 => ?_) (fun h11 => ?_)
      · try exact Bool.noConfusion h11
        all_goals try simp only [decide_eq_true_eq, decide_eq_false_iff_not, beq_iff_eq, beq_eq_false_iff_ne, bne_iff_ne, bne_eq_false_iff_eq, Bool.not_eq_true', Bool.not_eq_false', ne_eq, Int.not_lt, Int.not_le, ge_iff_le, gt_iff_lt] at h11
        all_goals (
          refine HC_skip ?_
          refine HQ_then ?_
          refine hK3 _ _ _ _ ?_; clear hK3 K3
          refine HC_cond rfl (fun h12 => ?_) (fun h12 => ?_)
          · try exact Bool.noConfusion h12
            all_goals try simp only [decide_eq_true_eq, decide_eq_false_iff_not, beq_iff_eq, beq_eq_false_iff_ne, bne_iff_ne, bne_eq_false_iff_eq, Bool.not_eq_true', Bool.not_eq_false', ne_eq, Int.not_lt, Int.not_le, ge_iff_le, gt_iff_lt] at h12
            all_goals (
              refine HC_seq fun K13 hK13 => ?_
              refine HC_region ?_
              all_goals (refine HL_store (k := 0) rfl rfl rfl rfl rfl rfl rfl rfl (by first | (simp only [List.setIfInBounds_toArray, List.set_cons_zero, List.set_cons_succ]; exact rfl) | exact rfl) (by first | (simp only [List.set_cons_zero, List.set_cons_succ]; exact rfl) | exact rfl) ?_)
              all_goals refine HL_nil ?_
              all_goals (
                refine HQ_then ?_
                refine hK13 _ _ _ _ ?_; clear hK13 K13
                refine HC_ret ?_
                refine HQ_blockR ?_
                refine HQ_thenR ?_; clear hK2 K2
                first
                  | (refine HQ_mark (k := 0) rfl rfl ?_
                     refine HQ_post rfl rfl (.cons (res_cell rfl (known_L (k := 1) rfl) rfl rfl) .nil) (fun w1 hs1 => ?_)
                     first | exact ⟨by rw [hfo, ← he]; rfl, hs1.keep⟩ | exact ⟨by rw [hfo, hz]; rfl, hs1.keep⟩)
                  | (refine HQ_post rfl rfl (.cons (res_cell rfl (known_L (k := 0) rfl) rfl rfl) .nil) (fun w1 hs1 => ?_)
                     first | exact ⟨by rw [fitT, if_pos (by omega)]; rfl, hs1.keep⟩ | exact ⟨by rw [fitT, if_neg (by omega), if_pos (by assumption)]; rfl, hs1.keep⟩)
                  | (refine HQ_post rfl rfl (.cons (res_cell rfl (known_L (k := 1) rfl) rfl rfl) .nil) (fun w1 hs1 => ?_)
                     first | exact ⟨by rw [fitT, if_pos (by omega)]; rfl, hs1.keep⟩ | exact ⟨by rw [fitT, if_neg (by omega), if_pos (by assumption)]; rfl, hs1.keep⟩)
                skip)
              skip)
          · try exact Bool.noConfusion h12
            all_goals try simp only [decide_eq_true_eq, decide_eq_false_iff_not, beq_iff_eq, beq_eq_false_iff_ne, bne_iff_ne, bne_eq_false_iff_eq, Bool.not_eq_true', Bool.not_eq_false', ne_eq, Int.not_lt, Int.not_le, ge_iff_le, gt_iff_lt] at h12
            all_goals (
              refine HC_seq fun K14 hK14 => ?_
              refine HC_drawB [] [(0, .grow (geCall 0 (fun r : Nat => Value.map (some r)) (fun r => [(r, kObj)]))), (1, .pure), (4, .pure), (8, .pure), (9, .pure)] 10 [1, 2, 5, 6, 0, 3, 4, 7, 8, 9] (by kernel_rfl) (by kernel_rfl) (by first | exact (fun _ h => nomatch h) | simp [SubS]) ?_
              all_goals refine HB_p (k := 1) rfl rfl rfl rfl rfl (fun _ hS => (R_fieldAddr rfl rfl (by first | (simp only [Nat.zero_add, Nat.reduceAdd, Nat.reduceMul, Nat.zero_mul, Nat.mul_one, Nat.add_zero]; exact rfl) | exact rfl))) ?_
              all_goals (refine HB_r (k := 2) rfl rfl rfl rfl rfl (R_load rfl (known_L (k := 2) rfl) rfl rfl) ?_)
              all_goals (refine HB_r (k := 5) rfl rfl rfl rfl rfl (R_loadA (vs := [_, _, _]) rfl (known_L (k := 2) rfl) rfl rfl rfl rfl) ?_)
              all_goals (refine HB_r (k := 6) rfl rfl rfl rfl rfl (R_loadA (vs := [_, _, _, _, _, _, _]) rfl (known_L (k := 1) rfl) rfl rfl rfl rfl) ?_)
              all_goals refine HB_callPE (k := 0) rfl rfl rfl rfl rfl (enters_of Tryd.func34 (by kernel_rfl) rfl) E_kinds fun mr => ?_
              all_goals refine HB_r (k := 3) rfl rfl rfl rfl rfl (R_lookup (keyI (t := 3) (by kernel_rfl)) rfl rfl (known_L (k := 0) rfl) rfl rfl ⟨_, rfl⟩ kMap_dom (kMap_val0 hkk)) ?_
              all_goals refine HB_p (k := 4) rfl rfl rfl rfl rfl (fun _ hS => (R_pure rfl rfl rfl)) ?_
              all_goals refine HB_as (fnV_t hkk) ?_
              all_goals refine HB_callR (k := 7) rfl rfl rfl rfl rfl hO.1 hO.2 (fun q hq => Or.inr hq) ?_
              all_goals refine HB_p (k := 8) rfl rfl rfl rfl rfl (fun _ hS => (R_pure rfl rfl rfl)) ?_
              all_goals refine HB_p (k := 9) rfl rfl rfl rfl rfl (fun _ hS => (R_assign rfl)) ?_
              all_goals refine HB_end ?_
              all_goals refine HL_nil ?_
              all_goals (
                refine HQ_then ?_
                refine hK14 _ _ _ _ ?_; clear hK14 K14
                refine HC_cond rfl (fun h15 => ?_) (fun h15 => ?_)
                · try exact Bool.noConfusion h15
                  all_goals try simp only [decide_eq_true_eq, decide_eq_false_iff_not, beq_iff_eq, beq_eq_false_iff_ne, bne_iff_ne, bne_eq_false_iff_eq, Bool.not_eq_true', Bool.not_eq_false', ne_eq, Int.not_lt, Int.not_le, ge_iff_le, gt_iff_lt] at h15
                  all_goals (
                    refine HC_seq fun K16 hK16 => ?_
                    refine HC_region ?_
                    all_goals (refine HL_store (k := 1) rfl rfl rfl rfl rfl rfl rfl rfl (by first | (simp only [List.setIfInBounds_toArray, List.set_cons_zero, List.set_cons_succ]; exact rfl) | exact rfl) (by first | (simp only [List.set_cons_zero, List.set_cons_succ]; exact rfl) | exact rfl) ?_)
                    all_goals refine HL_nil ?_
                    all_goals (
                      refine HQ_then ?_
                      refine hK16 _ _ _ _ ?_; clear hK16 K16
                      refine HC_ret ?_
                      refine HQ_blockR ?_
                      refine HQ_thenR ?_; clear hK2 K2
                      first
                        | (refine HQ_mark (k := 0) rfl rfl ?_
                           refine HQ_post rfl rfl (.cons (res_cell rfl (known_L (k := 1) rfl) rfl rfl) .nil) (fun w1 hs1 => ?_)
                           first | exact ⟨by rw [hfo, ← he]; rfl, hs1.keep⟩ | exact ⟨by rw [hfo, hz]; rfl, hs1.keep⟩)
                        | (refine HQ_post rfl rfl (.cons (res_cell rfl (known_L (k := 0) rfl) rfl rfl) .nil) (fun w1 hs1 => ?_)
                           first | exact ⟨by rw [fitT, if_pos (by omega)]; rfl, hs1.keep⟩ | exact ⟨by rw [fitT, if_neg (by omega), if_pos (by assumption)]; rfl, hs1.keep⟩)
                        | (refine HQ_post rfl rfl (.cons (res_cell rfl (known_L (k := 1) rfl) rfl rfl) .nil) (fun w1 hs1 => ?_)
                           first | exact ⟨by rw [fitT, if_pos (by omega)]; rfl, hs1.keep⟩ | exact ⟨by rw [fitT, if_neg (by omega), if_pos (by assumption)]; rfl, hs1.keep⟩)
                      skip)
                    skip)
                · try exact Bool.noConfusion h15
                  all_goals try simp only [decide_eq_true_eq, decide_eq_false_iff_not, beq_iff_eq, beq_eq_false_iff_ne, bne_iff_ne, bne_eq_false_iff_eq, Bool.not_eq_true', Bool.not_eq_false', ne_eq, Int.not_lt, Int.not_le, ge_iff_le, gt_iff_lt] at h15
                  all_goals (
                    refine HC_skip ?_
                    refine HQ_blockN ?_
                    refine HQ_then ?_
                    refine hK2 _ _ _ _ ?_; clear hK2 K2
                    refine HC_seq fun K17 hK17 => ?_
                    refine HC_seq fun K18 hK18 => ?_
                    have hfo := fit_ok (a := a) (b := b) (c := c) (d := d) (pb := pb) (pi := pi) (p := p) (show ¬ ((k = 4 ∧ n < items.length) ∨ (k = 6 ∧ n < bits.length)) by omega) (by assumption)
                    have hxl : ∀ i, i < items.length → inX k pick i < ins.length := fun i hi => inX_lt (v := .mk a b c d bits pb items pi pick) hck (by assumption) hi
                    have hp8 : k = 8 → 0 ≤ pick := fun h => by subst h; exact ofT_8 (v := .mk a b c d bits pb items pi pick) (by assumption)
                    refine HC_region ?_
                    all_goals (refine HL_r rfl rfl rfl rfl (R_loadA (vs := [_, _, _]) rfl (known_L (k := 3) rfl) rfl rfl rfl rfl) ?_)
                    all_goals (refine HL_r rfl rfl rfl rfl (R_loadA (vs := [_, _, _, _, _, _, _]) rfl (known_L (k := 2) rfl) rfl rfl rfl rfl) ?_)
                    all_goals refine HL_callPE rfl rfl rfl (enters_of Tryd.func41 (by kernel_rfl) rfl) (E_within (.mk k n p ins) (.mk a b c d bits pb items pi pick)) fun pp => ?_
                    all_goals obtain ⟨rt, rv⟩ := pp
                    all_goals change HL _ _ _ (vBlk rv (.mk a b c d bits pb items pi pick) :: tBlk rt (.mk k n p ins) :: _) _ _ _ _
                    all_goals refine HL_nil ?_
                    all_goals (
                      refine HQ_then ?_
                      refine hK18 _ _ _ _ ?_; clear hK18 K18
                      refine HC_block ?_
                      refine HC_sel [3, 0, 1, 2, 4, 5] (L' := [_, _, _, _, _, _]) (by decide) rfl ?_
                      refine HC_rangeR (τ := Int) (fun i (_ : Unit) => i ≤ items.length ∧ fitL (items.drop i) k pick ins i = fitL items k pick ins 0) (fun _ => [(r3, .cells #[.int .i64 (0)] 34 (0, 0))]) (fun j e => j = .ret ∧ e = fitL items k pick ins 0) (fun e => [(r3, .cells #[.int .i64 (e)] 34 (0, 0))]) [vBlk rv (.mk a b c d bits pb items pi pick), tBlk rt (.mk k n p ins), _, _, _] () rfl rfl (enters_of Tryd.func79 (by kernel_rfl) rfl) (I_within (n := n) (a := a) (b := b) (c := c) (d := d) (bits := bits) (pb := pb) hl hlt hs hst hxl hp8 rt rv) (by rintro _ _ _ ⟨_, rfl, _⟩; rfl) rfl (fun q hq => by rcases List.mem_cons.1 hq with rfl | hq; exact .inl (by simp); rcases List.mem_cons.1 hq with rfl | hq; exact .inl (by simp); exact .inr hq) rfl ⟨Nat.zero_le _, rfl⟩ ?_ ?_ ?_
                      · rintro q Xr Xb w3 i _ _ ⟨⟩ ⟨hii, rfl, rfl⟩ ⟨hil, hinv⟩ Kr hKr
                        have hix := itm_get hii
                        have hty := inTy_get (hxl i hii)
                        rw [dropI hix.1, fitL] at hinv
                        unfold wVals
                        refine HC_seq fun K19 hK19 => ?_
                        refine HC_region ?_
                        all_goals refine HL_alloc (cs := #[_, _, _]) rfl rfl rfl rfl fun r4 => ?_
                        all_goals refine HL_storeArr (k := 0) (n := 3) (ys := (inTy k pick ins i).cells) rfl rfl rfl rfl rfl (inTy k pick ins i).len rfl (inTy k pick ins i).one rfl ?_
                        all_goals refine HL_nil ?_
                        all_goals (
                          refine HQ_then ?_
                          refine hK19 _ _ _ _ ?_; clear hK19 K19
                          refine HC_region ?_
                          all_goals refine HL_alloc (cs := #[_, _, _, _, _, _, _]) rfl rfl rfl rfl fun r5 => ?_
                          all_goals refine HL_storeArr (k := 0) (n := 7) (ys := (itm items i).cells) rfl rfl rfl rfl rfl (itm items i).len rfl (itm items i).one rfl ?_
                          all_goals refine HL_nil ?_
                          all_goals (
                            refine HQ_then ?_
                            refine hKr _ _ ?_; clear hKr
                            refine HC_block ?_
                            refine HC_seq fun K20 hK20 => ?_
                            refine HC_region ?_
                            all_goals refine HL_r rfl rfl rfl rfl (R_loadArr (xs := (inTy k pick ins i).cells) (n := 3) rfl (known_L (k := 1) rfl) rfl rfl (inTy k pick ins i).len) ?_
                            all_goals refine HL_r rfl rfl rfl rfl (R_loadArr (xs := (itm items i).cells) (n := 7) rfl (known_L (k := 0) rfl) rfl rfl (itm items i).len) ?_
                            all_goals refine HL_callR rfl rfl rfl (enters_of Tryd.func32 (by kernel_rfl) rfl) (ih _ hix.2 (hi _ hix.2) _ (dp + 1) (hit _ hty.2) (hci _ hty.2)) (fun q hq => Or.inr (List.mem_append_right _ hq)) ?_
                            all_goals refine HL_r rfl rfl rfl rfl (R_assign rfl) ?_
                            all_goals refine HL_nil ?_
                            all_goals (
                              refine HQ_then ?_
                              refine hK20 _ _ _ _ ?_; clear hK20 K20
                              refine HC_seq fun K21 hK21 => ?_
                              refine HC_region ?_
                              all_goals refine HL_r rfl rfl rfl rfl (R_move rfl) ?_
                              all_goals refine HL_r rfl rfl rfl rfl (R_pure rfl rfl rfl) ?_
                              all_goals refine HL_nil ?_
                              all_goals (
                                refine HQ_then ?_
                                refine hK21 _ _ _ _ ?_; clear hK21 K21
                                refine HC_cond rfl (fun h22 => ?_) (fun h22 => ?_)
                                · try exact Bool.noConfusion h22
                                  all_goals try simp only [decide_eq_true_eq, decide_eq_false_iff_not, beq_iff_eq, beq_eq_false_iff_ne, bne_iff_ne, bne_eq_false_iff_eq, Bool.not_eq_true', Bool.not_eq_false', ne_eq, Int.not_lt, Int.not_le, ge_iff_le, gt_iff_lt] at h22
                                  all_goals (
                                    refine HC_seq fun K23 hK23 => ?_
                                    refine HC_region ?_
                                    all_goals refine HL_r rfl rfl rfl rfl (R_move rfl) ?_
                                    all_goals (refine HL_store (k := 2) rfl rfl rfl rfl rfl rfl rfl rfl (by first | (simp only [List.setIfInBounds_toArray, List.set_cons_zero, List.set_cons_succ]; exact rfl) | exact rfl) (by first | (simp only [List.set_cons_zero, List.set_cons_succ]; exact rfl) | exact rfl) ?_)
                                    all_goals refine HL_nil ?_
                                    all_goals (
                                      refine HQ_then ?_
                                      refine hK23 _ _ _ _ ?_; clear hK23 K23
                                      refine HC_ret ?_
                                      refine HQ_blockR ?_
                                      refine HQ_sel [2] (L' := [_]) (by decide) rfl ?_
                                      refine HQ_roundR (fitT (itm items i) (inTy k pick ins i)) ⟨rfl, by rw [if_neg (by assumption)] at hinv; exact hinv⟩ rfl
                                      skip)
                                    skip)
                                · try exact Bool.noConfusion h22
                                  all_goals try simp only [decide_eq_true_eq, decide_eq_false_iff_not, beq_iff_eq, beq_eq_false_iff_ne, bne_iff_ne, bne_eq_false_iff_eq, Bool.not_eq_true', Bool.not_eq_false', ne_eq, Int.not_lt, Int.not_le, ge_iff_le, gt_iff_lt] at h22
                                  all_goals (
                                    refine HC_skip ?_
                                    refine HQ_blockN ?_
                                    refine HQ_sel [2] (L' := [_]) (by decide) rfl ?_
                                    refine HQ_round () ⟨by omega, by rw [if_pos (by assumption)] at hinv; exact hinv⟩ rfl
                                    skip)
                                skip)
                              skip)
                            skip)
                          skip)
                      · rintro D i ⟨⟩ hfi ⟨hil, hinv⟩
                        have hin : i = items.length := hfi
                        have hz : fitL items k pick ins 0 = 0 := by rw [← hinv, hin, List.drop_length, fitL]
                        refine HQ_blockN ?_
                        refine HQ_then ?_
                        refine hK17 _ _ _ _ ?_; clear hK17 K17
                        refine HC_seq fun K24 hK24 => ?_
                        refine HC_region ?_
                        all_goals (refine HL_store (k := 1) rfl rfl rfl rfl rfl rfl rfl rfl (by first | (simp only [List.setIfInBounds_toArray, List.set_cons_zero, List.set_cons_succ]; exact rfl) | exact rfl) (by first | (simp only [List.set_cons_zero, List.set_cons_succ]; exact rfl) | exact rfl) ?_)
                        all_goals refine HL_nil ?_
                        all_goals (
                          refine HQ_then ?_
                          refine hK24 _ _ _ _ ?_; clear hK24 K24
                          refine HC_ret ?_
                          first
                            | (refine HQ_mark (k := 0) rfl rfl ?_
                               refine HQ_post rfl rfl (.cons (res_cell rfl (known_L (k := 1) rfl) rfl rfl) .nil) (fun w1 hs1 => ?_)
                               first | exact ⟨by rw [hfo, ← he]; rfl, hs1.keep⟩ | exact ⟨by rw [hfo, hz]; rfl, hs1.keep⟩)
                            | (refine HQ_post rfl rfl (.cons (res_cell rfl (known_L (k := 0) rfl) rfl rfl) .nil) (fun w1 hs1 => ?_)
                               first | exact ⟨by rw [fitT, if_pos (by omega)]; rfl, hs1.keep⟩ | exact ⟨by rw [fitT, if_neg (by omega), if_pos (by assumption)]; rfl, hs1.keep⟩)
                            | (refine HQ_post rfl rfl (.cons (res_cell rfl (known_L (k := 1) rfl) rfl rfl) .nil) (fun w1 hs1 => ?_)
                               first | exact ⟨by rw [fitT, if_pos (by omega)]; rfl, hs1.keep⟩ | exact ⟨by rw [fitT, if_neg (by omega), if_pos (by assumption)]; rfl, hs1.keep⟩)
                          skip)
                      · rintro D j e ⟨rfl, he⟩
                        refine HC_ret ?_
                        refine HQ_blockR ?_
                        refine HQ_thenR ?_; clear hK17 K17
                        first
                          | (refine HQ_mark (k := 0) rfl rfl ?_
                             refine HQ_post rfl rfl (.cons (res_cell rfl (known_L (k := 1) rfl) rfl rfl) .nil) (fun w1 hs1 => ?_)
                             first | exact ⟨by rw [hfo, ← he]; rfl, hs1.keep⟩ | exact ⟨by rw [hfo, hz]; rfl, hs1.keep⟩)
                          | (refine HQ_post rfl rfl (.cons (res_cell rfl (known_L (k := 0) rfl) rfl rfl) .nil) (fun w1 hs1 => ?_)
                             first | exact ⟨by rw [fitT, if_pos (by omega)]; rfl, hs1.keep⟩ | exact ⟨by rw [fitT, if_neg (by omega), if_pos (by assumption)]; rfl, hs1.keep⟩)
                          | (refine HQ_post rfl rfl (.cons (res_cell rfl (known_L (k := 1) rfl) rfl rfl) .nil) (fun w1 hs1 => ?_)
                             first | exact ⟨by rw [fitT, if_pos (by omega)]; rfl, hs1.keep⟩ | exact ⟨by rw [fitT, if_neg (by omega), if_pos (by assumption)]; rfl, hs1.keep⟩)
                      skip)
                    skip)
                skip)
              skip)
          skip)
      · try exact Bool.noConfusion h11
        all_goals try simp only [decide_eq_true_eq, decide_eq_false_iff_not, beq_iff_eq, beq_eq_false_iff_ne, bne_iff_ne, bne_eq_false_iff_eq, Bool.not_eq_true', Bool.not_eq_false', ne_eq, Int.not_lt, Int.not_le, ge_iff_le, gt_iff_lt] at h11
        all_goals (
          refine HC_region ?_
          all_goals refine HL_r rfl rfl rfl rfl (R_fieldAddr rfl rfl (by first | (simp only [Nat.zero_add, Nat.reduceAdd, Nat.reduceMul, Nat.zero_mul, Nat.mul_one, Nat.add_zero]; exact rfl) | exact rfl)) ?_
          all_goals (refine HL_r rfl rfl rfl rfl (R_load rfl (known_L (k := 2) rfl) rfl rfl) ?_)
          all_goals refine HL_r rfl rfl rfl rfl (R_pure rfl rfl rfl) ?_
          all_goals refine HL_r rfl rfl rfl rfl (R_move rfl) ?_
          all_goals (refine HL_case 23 rfl (fun hb25 => ?_) (fun hb25 => ?_) <;> (try simp only [decide_eq_true_eq, decide_eq_false_iff_not, beq_iff_eq, beq_eq_false_iff_ne, bne_iff_ne, bne_eq_false_iff_eq, Bool.not_eq_true', Bool.not_eq_false', ne_eq, Int.not_lt, Int.not_le, ge_iff_le, gt_iff_lt] at hb25) <;> first | (refine HL_r rfl rfl rfl rfl (R_fieldAddr rfl rfl (by first | (simp only [Nat.zero_add, Nat.reduceAdd, Nat.reduceMul, Nat.zero_mul, Nat.mul_one, Nat.add_zero]; exact rfl) | exact rfl)) ?_) | (refine HL_skip rfl rfl rfl ?_))
          all_goals first
            | (refine HL_r rfl rfl rfl rfl (R_load rfl (known_L (k := 1) rfl) rfl rfl) ?_)
            | (refine HL_skip rfl rfl rfl ?_)
          all_goals first
            | (refine HL_r rfl rfl rfl rfl (R_lenPl rfl hsb rfl) ?_)
            | (refine HL_skip rfl rfl rfl ?_)
          all_goals first
            | (refine HL_r rfl rfl rfl rfl (R_fieldAddr rfl rfl (by first | (simp only [Nat.zero_add, Nat.reduceAdd, Nat.reduceMul, Nat.zero_mul, Nat.mul_one, Nat.add_zero]; exact rfl) | exact rfl)) ?_)
            | (refine HL_skip rfl rfl rfl ?_)
          all_goals first
            | (refine HL_r rfl rfl rfl rfl (R_load rfl (known_L (k := 2) rfl) rfl rfl) ?_)
            | (refine HL_skip rfl rfl rfl ?_)
          all_goals first
            | (refine HL_r rfl rfl rfl rfl (R_pure rfl rfl rfl) ?_)
            | (refine HL_skip rfl rfl rfl ?_)
          all_goals first
            | (refine HL_r rfl rfl rfl rfl (R_pickT rfl rfl) ?_)
            | (refine HL_r rfl rfl rfl rfl (R_pickF rfl rfl) ?_)
          all_goals refine HL_r rfl rfl rfl rfl (R_assign rfl) ?_
          all_goals refine HL_nil ?_
          all_goals (
            refine HQ_then ?_
            refine hK3 _ _ _ _ ?_; clear hK3 K3
            refine HC_cond rfl (fun h31 => ?_) (fun h31 => ?_)
            · try exact Bool.noConfusion h31
              all_goals try simp only [decide_eq_true_eq, decide_eq_false_iff_not, beq_iff_eq, beq_eq_false_iff_ne, bne_iff_ne, bne_eq_false_iff_eq, Bool.not_eq_true', Bool.not_eq_false', ne_eq, Int.not_lt, Int.not_le, ge_iff_le, gt_iff_lt] at h31
              all_goals (
                refine HC_seq fun K32 hK32 => ?_
                refine HC_region ?_
                all_goals (refine HL_store (k := 0) rfl rfl rfl rfl rfl rfl rfl rfl (by first | (simp only [List.setIfInBounds_toArray, List.set_cons_zero, List.set_cons_succ]; exact rfl) | exact rfl) (by first | (simp only [List.set_cons_zero, List.set_cons_succ]; exact rfl) | exact rfl) ?_)
                all_goals refine HL_nil ?_
                all_goals (
                  refine HQ_then ?_
                  refine hK32 _ _ _ _ ?_; clear hK32 K32
                  refine HC_ret ?_
                  refine HQ_blockR ?_
                  refine HQ_thenR ?_; clear hK2 K2
                  first
                    | (refine HQ_mark (k := 0) rfl rfl ?_
                       refine HQ_post rfl rfl (.cons (res_cell rfl (known_L (k := 1) rfl) rfl rfl) .nil) (fun w1 hs1 => ?_)
                       first | exact ⟨by rw [hfo, ← he]; rfl, hs1.keep⟩ | exact ⟨by rw [hfo, hz]; rfl, hs1.keep⟩)
                    | (refine HQ_post rfl rfl (.cons (res_cell rfl (known_L (k := 0) rfl) rfl rfl) .nil) (fun w1 hs1 => ?_)
                       first | exact ⟨by rw [fitT, if_pos (by omega)]; rfl, hs1.keep⟩ | exact ⟨by rw [fitT, if_neg (by omega), if_pos (by assumption)]; rfl, hs1.keep⟩)
                    | (refine HQ_post rfl rfl (.cons (res_cell rfl (known_L (k := 1) rfl) rfl rfl) .nil) (fun w1 hs1 => ?_)
                       first | exact ⟨by rw [fitT, if_pos (by omega)]; rfl, hs1.keep⟩ | exact ⟨by rw [fitT, if_neg (by omega), if_pos (by assumption)]; rfl, hs1.keep⟩)
                  skip)
                skip)
            · try exact Bool.noConfusion h31
              all_goals try simp only [decide_eq_true_eq, decide_eq_false_iff_not, beq_iff_eq, beq_eq_false_iff_ne, bne_iff_ne, bne_eq_false_iff_eq, Bool.not_eq_true', Bool.not_eq_false', ne_eq, Int.not_lt, Int.not_le, ge_iff_le, gt_iff_lt] at h31
              all_goals (
                refine HC_seq fun K33 hK33 => ?_
                refine HC_drawB [] [(0, .grow (geCall 0 (fun r : Nat => Value.map (some r)) (fun r => [(r, kObj)]))), (1, .pure), (4, .pure), (8, .pure), (9, .pure)] 10 [1, 2, 5, 6, 0, 3, 4, 7, 8, 9] (by kernel_rfl) (by kernel_rfl) (by first | exact (fun _ h => nomatch h) | simp [SubS]) ?_
                all_goals refine HB_p (k := 1) rfl rfl rfl rfl rfl (fun _ hS => (R_fieldAddr rfl rfl (by first | (simp only [Nat.zero_add, Nat.reduceAdd, Nat.reduceMul, Nat.zero_mul, Nat.mul_one, Nat.add_zero]; exact rfl) | exact rfl))) ?_
                all_goals (refine HB_r (k := 2) rfl rfl rfl rfl rfl (R_load rfl (known_L (k := 2) rfl) rfl rfl) ?_)
                all_goals (refine HB_r (k := 5) rfl rfl rfl rfl rfl (R_loadA (vs := [_, _, _]) rfl (known_L (k := 2) rfl) rfl rfl rfl rfl) ?_)
                all_goals (refine HB_r (k := 6) rfl rfl rfl rfl rfl (R_loadA (vs := [_, _, _, _, _, _, _]) rfl (known_L (k := 1) rfl) rfl rfl rfl rfl) ?_)
                all_goals refine HB_callPE (k := 0) rfl rfl rfl rfl rfl (enters_of Tryd.func34 (by kernel_rfl) rfl) E_kinds fun mr => ?_
                all_goals refine HB_r (k := 3) rfl rfl rfl rfl rfl (R_lookup (keyI (t := 3) (by kernel_rfl)) rfl rfl (known_L (k := 0) rfl) rfl rfl ⟨_, rfl⟩ kMap_dom (kMap_val0 hkk)) ?_
                all_goals refine HB_p (k := 4) rfl rfl rfl rfl rfl (fun _ hS => (R_pure rfl rfl rfl)) ?_
                all_goals refine HB_as (fnV_t hkk) ?_
                all_goals refine HB_callR (k := 7) rfl rfl rfl rfl rfl hO.1 hO.2 (fun q hq => Or.inr hq) ?_
                all_goals refine HB_p (k := 8) rfl rfl rfl rfl rfl (fun _ hS => (R_pure rfl rfl rfl)) ?_
                all_goals refine HB_p (k := 9) rfl rfl rfl rfl rfl (fun _ hS => (R_assign rfl)) ?_
                all_goals refine HB_end ?_
                all_goals refine HL_nil ?_
                all_goals (
                  refine HQ_then ?_
                  refine hK33 _ _ _ _ ?_; clear hK33 K33
                  refine HC_cond rfl (fun h34 => ?_) (fun h34 => ?_)
                  · try exact Bool.noConfusion h34
                    all_goals try simp only [decide_eq_true_eq, decide_eq_false_iff_not, beq_iff_eq, beq_eq_false_iff_ne, bne_iff_ne, bne_eq_false_iff_eq, Bool.not_eq_true', Bool.not_eq_false', ne_eq, Int.not_lt, Int.not_le, ge_iff_le, gt_iff_lt] at h34
                    all_goals (
                      refine HC_seq fun K35 hK35 => ?_
                      refine HC_region ?_
                      all_goals (refine HL_store (k := 1) rfl rfl rfl rfl rfl rfl rfl rfl (by first | (simp only [List.setIfInBounds_toArray, List.set_cons_zero, List.set_cons_succ]; exact rfl) | exact rfl) (by first | (simp only [List.set_cons_zero, List.set_cons_succ]; exact rfl) | exact rfl) ?_)
                      all_goals refine HL_nil ?_
                      all_goals (
                        refine HQ_then ?_
                        refine hK35 _ _ _ _ ?_; clear hK35 K35
                        refine HC_ret ?_
                        refine HQ_blockR ?_
                        refine HQ_thenR ?_; clear hK2 K2
                        first
                          | (refine HQ_mark (k := 0) rfl rfl ?_
                             refine HQ_post rfl rfl (.cons (res_cell rfl (known_L (k := 1) rfl) rfl rfl) .nil) (fun w1 hs1 => ?_)
                             first | exact ⟨by rw [hfo, ← he]; rfl, hs1.keep⟩ | exact ⟨by rw [hfo, hz]; rfl, hs1.keep⟩)
                          | (refine HQ_post rfl rfl (.cons (res_cell rfl (known_L (k := 0) rfl) rfl rfl) .nil) (fun w1 hs1 => ?_)
                             first | exact ⟨by rw [fitT, if_pos (by omega)]; rfl, hs1.keep⟩ | exact ⟨by rw [fitT, if_neg (by omega), if_pos (by assumption)]; rfl, hs1.keep⟩)
                          | (refine HQ_post rfl rfl (.cons (res_cell rfl (known_L (k := 1) rfl) rfl rfl) .nil) (fun w1 hs1 => ?_)
                             first | exact ⟨by rw [fitT, if_pos (by omega)]; rfl, hs1.keep⟩ | exact ⟨by rw [fitT, if_neg (by omega), if_pos (by assumption)]; rfl, hs1.keep⟩)
                        skip)
                      skip)
                  · try exact Bool.noConfusion h34
                    all_goals try simp only [decide_eq_true_eq, decide_eq_false_iff_not, beq_iff_eq, beq_eq_false_iff_ne, bne_iff_ne, bne_eq_false_iff_eq, Bool.not_eq_true', Bool.not_eq_false', ne_eq, Int.not_lt, Int.not_le, ge_iff_le, gt_iff_lt] at h34
                    all_goals (
                      refine HC_skip ?_
                      refine HQ_blockN ?_
                      refine HQ_then ?_
                      refine hK2 _ _ _ _ ?_; clear hK2 K2
                      refine HC_seq fun K36 hK36 => ?_
                      refine HC_seq fun K37 hK37 => ?_
                      have hfo := fit_ok (a := a) (b := b) (c := c) (d := d) (pb := pb) (pi := pi) (p := p) (show ¬ ((k = 4 ∧ n < items.length) ∨ (k = 6 ∧ n < bits.length)) by omega) (by assumption)
                      have hxl : ∀ i, i < items.length → inX k pick i < ins.length := fun i hi => inX_lt (v := .mk a b c d bits pb items pi pick) hck (by assumption) hi
                      have hp8 : k = 8 → 0 ≤ pick := fun h => by subst h; exact ofT_8 (v := .mk a b c d bits pb items pi pick) (by assumption)
                      refine HC_region ?_
                      all_goals (refine HL_r rfl rfl rfl rfl (R_loadA (vs := [_, _, _]) rfl (known_L (k := 3) rfl) rfl rfl rfl rfl) ?_)
                      all_goals (refine HL_r rfl rfl rfl rfl (R_loadA (vs := [_, _, _, _, _, _, _]) rfl (known_L (k := 2) rfl) rfl rfl rfl rfl) ?_)
                      all_goals refine HL_callPE rfl rfl rfl (enters_of Tryd.func41 (by kernel_rfl) rfl) (E_within (.mk k n p ins) (.mk a b c d bits pb items pi pick)) fun pp => ?_
                      all_goals obtain ⟨rt, rv⟩ := pp
                      all_goals change HL _ _ _ (vBlk rv (.mk a b c d bits pb items pi pick) :: tBlk rt (.mk k n p ins) :: _) _ _ _ _
                      all_goals refine HL_nil ?_
                      all_goals (
                        refine HQ_then ?_
                        refine hK37 _ _ _ _ ?_; clear hK37 K37
                        refine HC_block ?_
                        refine HC_sel [3, 0, 1, 2, 4, 5] (L' := [_, _, _, _, _, _]) (by decide) rfl ?_
                        refine HC_rangeR (τ := Int) (fun i (_ : Unit) => i ≤ items.length ∧ fitL (items.drop i) k pick ins i = fitL items k pick ins 0) (fun _ => [(r3, .cells #[.int .i64 (0)] 34 (0, 0))]) (fun j e => j = .ret ∧ e = fitL items k pick ins 0) (fun e => [(r3, .cells #[.int .i64 (e)] 34 (0, 0))]) [vBlk rv (.mk a b c d bits pb items pi pick), tBlk rt (.mk k n p ins), _, _, _] () rfl rfl (enters_of Tryd.func79 (by kernel_rfl) rfl) (I_within (n := n) (a := a) (b := b) (c := c) (d := d) (bits := bits) (pb := pb) hl hlt hs hst hxl hp8 rt rv) (by rintro _ _ _ ⟨_, rfl, _⟩; rfl) rfl (fun q hq => by rcases List.mem_cons.1 hq with rfl | hq; exact .inl (by simp); rcases List.mem_cons.1 hq with rfl | hq; exact .inl (by simp); exact .inr hq) rfl ⟨Nat.zero_le _, rfl⟩ ?_ ?_ ?_
                        · rintro q Xr Xb w3 i _ _ ⟨⟩ ⟨hii, rfl, rfl⟩ ⟨hil, hinv⟩ Kr hKr
                          have hix := itm_get hii
                          have hty := inTy_get (hxl i hii)
                          rw [dropI hix.1, fitL] at hinv
                          unfold wVals
                          refine HC_seq fun K38 hK38 => ?_
                          refine HC_region ?_
                          all_goals refine HL_alloc (cs := #[_, _, _]) rfl rfl rfl rfl fun r6 => ?_
                          all_goals refine HL_storeArr (k := 0) (n := 3) (ys := (inTy k pick ins i).cells) rfl rfl rfl rfl rfl (inTy k pick ins i).len rfl (inTy k pick ins i).one rfl ?_
                          all_goals refine HL_nil ?_
                          all_goals (
                            refine HQ_then ?_
                            refine hK38 _ _ _ _ ?_; clear hK38 K38
                            refine HC_region ?_
                            all_goals refine HL_alloc (cs := #[_, _, _, _, _, _, _]) rfl rfl rfl rfl fun r7 => ?_
                            all_goals refine HL_storeArr (k := 0) (n := 7) (ys := (itm items i).cells) rfl rfl rfl rfl rfl (itm items i).len rfl (itm items i).one rfl ?_
                            all_goals refine HL_nil ?_
                            all_goals (
                              refine HQ_then ?_
                              refine hKr _ _ ?_; clear hKr
                              refine HC_block ?_
                              refine HC_seq fun K39 hK39 => ?_
                              refine HC_region ?_
                              all_goals refine HL_r rfl rfl rfl rfl (R_loadArr (xs := (inTy k pick ins i).cells) (n := 3) rfl (known_L (k := 1) rfl) rfl rfl (inTy k pick ins i).len) ?_
                              all_goals refine HL_r rfl rfl rfl rfl (R_loadArr (xs := (itm items i).cells) (n := 7) rfl (known_L (k := 0) rfl) rfl rfl (itm items i).len) ?_
                              all_goals refine HL_callR rfl rfl rfl (enters_of Tryd.func32 (by kernel_rfl) rfl) (ih _ hix.2 (hi _ hix.2) _ (dp + 1) (hit _ hty.2) (hci _ hty.2)) (fun q hq => Or.inr (List.mem_append_right _ hq)) ?_
                              all_goals refine HL_r rfl rfl rfl rfl (R_assign rfl) ?_
                              all_goals refine HL_nil ?_
                              all_goals (
                                refine HQ_then ?_
                                refine hK39 _ _ _ _ ?_; clear hK39 K39
                                refine HC_seq fun K40 hK40 => ?_
                                refine HC_region ?_
                                all_goals refine HL_r rfl rfl rfl rfl (R_move rfl) ?_
                                all_goals refine HL_r rfl rfl rfl rfl (R_pure rfl rfl rfl) ?_
                                all_goals refine HL_nil ?_
                                all_goals (
                                  refine HQ_then ?_
                                  refine hK40 _ _ _ _ ?_; clear hK40 K40
                                  refine HC_cond rfl (fun h41 => ?_) (fun h41 => ?_)
                                  · try exact Bool.noConfusion h41
                                    all_goals try simp only [decide_eq_true_eq, decide_eq_false_iff_not, beq_iff_eq, beq_eq_false_iff_ne, bne_iff_ne, bne_eq_false_iff_eq, Bool.not_eq_true', Bool.not_eq_false', ne_eq, Int.not_lt, Int.not_le, ge_iff_le, gt_iff_lt] at h41
                                    all_goals (
                                      refine HC_seq fun K42 hK42 => ?_
                                      refine HC_region ?_
                                      all_goals refine HL_r rfl rfl rfl rfl (R_move rfl) ?_
                                      all_goals (refine HL_store (k := 2) rfl rfl rfl rfl rfl rfl rfl rfl (by first | (simp only [List.setIfInBounds_toArray, List.set_cons_zero, List.set_cons_succ]; exact rfl) | exact rfl) (by first | (simp only [List.set_cons_zero, List.set_cons_succ]; exact rfl) | exact rfl) ?_)
                                      all_goals refine HL_nil ?_
                                      all_goals (
                                        refine HQ_then ?_
                                        refine hK42 _ _ _ _ ?_; clear hK42 K42
                                        refine HC_ret ?_
                                        refine HQ_blockR ?_
                                        refine HQ_sel [2] (L' := [_]) (by decide) rfl ?_
                                        refine HQ_roundR (fitT (itm items i) (inTy k pick ins i)) ⟨rfl, by rw [if_neg (by assumption)] at hinv; exact hinv⟩ rfl
                                        skip)
                                      skip)
                                  · try exact Bool.noConfusion h41
                                    all_goals try simp only [decide_eq_true_eq, decide_eq_false_iff_not, beq_iff_eq, beq_eq_false_iff_ne, bne_iff_ne, bne_eq_false_iff_eq, Bool.not_eq_true', Bool.not_eq_false', ne_eq, Int.not_lt, Int.not_le, ge_iff_le, gt_iff_lt] at h41
                                    all_goals (
                                      refine HC_skip ?_
                                      refine HQ_blockN ?_
                                      refine HQ_sel [2] (L' := [_]) (by decide) rfl ?_
                                      refine HQ_round () ⟨by omega, by rw [if_pos (by assumption)] at hinv; exact hinv⟩ rfl
                                      skip)
                                  skip)
                                skip)
                              skip)
                            skip)
                        · rintro D i ⟨⟩ hfi ⟨hil, hinv⟩
                          have hin : i = items.length := hfi
                          have hz : fitL items k pick ins 0 = 0 := by rw [← hinv, hin, List.drop_length, fitL]
                          refine HQ_blockN ?_
                          refine HQ_then ?_
                          refine hK36 _ _ _ _ ?_; clear hK36 K36
                          refine HC_seq fun K43 hK43 => ?_
                          refine HC_region ?_
                          all_goals (refine HL_store (k := 1) rfl rfl rfl rfl rfl rfl rfl rfl (by first | (simp only [List.setIfInBounds_toArray, List.set_cons_zero, List.set_cons_succ]; exact rfl) | exact rfl) (by first | (simp only [List.set_cons_zero, List.set_cons_succ]; exact rfl) | exact rfl) ?_)
                          all_goals refine HL_nil ?_
                          all_goals (
                            refine HQ_then ?_
                            refine hK43 _ _ _ _ ?_; clear hK43 K43
                            refine HC_ret ?_
                            first
                              | (refine HQ_mark (k := 0) rfl rfl ?_
                                 refine HQ_post rfl rfl (.cons (res_cell rfl (known_L (k := 1) rfl) rfl rfl) .nil) (fun w1 hs1 => ?_)
                                 first | exact ⟨by rw [hfo, ← he]; rfl, hs1.keep⟩ | exact ⟨by rw [hfo, hz]; rfl, hs1.keep⟩)
                              | (refine HQ_post rfl rfl (.cons (res_cell rfl (known_L (k := 0) rfl) rfl rfl) .nil) (fun w1 hs1 => ?_)
                                 first | exact ⟨by rw [fitT, if_pos (by omega)]; rfl, hs1.keep⟩ | exact ⟨by rw [fitT, if_neg (by omega), if_pos (by assumption)]; rfl, hs1.keep⟩)
                              | (refine HQ_post rfl rfl (.cons (res_cell rfl (known_L (k := 1) rfl) rfl rfl) .nil) (fun w1 hs1 => ?_)
                                 first | exact ⟨by rw [fitT, if_pos (by omega)]; rfl, hs1.keep⟩ | exact ⟨by rw [fitT, if_neg (by omega), if_pos (by assumption)]; rfl, hs1.keep⟩)
                            skip)
                        · rintro D j e ⟨rfl, he⟩
                          refine HC_ret ?_
                          refine HQ_blockR ?_
                          refine HQ_thenR ?_; clear hK36 K36
                          first
                            | (refine HQ_mark (k := 0) rfl rfl ?_
                               refine HQ_post rfl rfl (.cons (res_cell rfl (known_L (k := 1) rfl) rfl rfl) .nil) (fun w1 hs1 => ?_)
                               first | exact ⟨by rw [hfo, ← he]; rfl, hs1.keep⟩ | exact ⟨by rw [hfo, hz]; rfl, hs1.keep⟩)
                            | (refine HQ_post rfl rfl (.cons (res_cell rfl (known_L (k := 0) rfl) rfl rfl) .nil) (fun w1 hs1 => ?_)
                               first | exact ⟨by rw [fitT, if_pos (by omega)]; rfl, hs1.keep⟩ | exact ⟨by rw [fitT, if_neg (by omega), if_pos (by assumption)]; rfl, hs1.keep⟩)
                            | (refine HQ_post rfl rfl (.cons (res_cell rfl (known_L (k := 1) rfl) rfl rfl) .nil) (fun w1 hs1 => ?_)
                               first | exact ⟨by rw [fitT, if_pos (by omega)]; rfl, hs1.keep⟩ | exact ⟨by rw [fitT, if_neg (by omega), if_pos (by assumption)]; rfl, hs1.keep⟩)
                        skip)
                      skip)
                  skip)
                skip)
            skip)
          skip)
      skip)
    skip)
end Go.Proofs.YtdadaddakcidjaaDoor
