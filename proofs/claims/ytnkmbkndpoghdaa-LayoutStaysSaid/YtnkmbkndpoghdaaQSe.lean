import Derived.Test.YtnkmbkndpoghdaaQSd
namespace Go.Proofs.Ytnkmbkndpoghdaa
set_option linter.all false
open Go.SL Go.RowKit Go.Shelf
set_option maxRecDepth 10000 in
theorem S_val {R : List (Nat × Obj)} {p : Nat → Nat} {i rr e : Nat} {f : Int} (hi : i < 7) {r : Rec} (hr : r.ok) (hR : (rr, Obj.cells r.cells.toArray e (0, 0)) ∈ R) : PureR Try.prog 21 (.agg (rowC p i).toArray :: .bool (hasE f i) :: [ptV rr 0]).toArray (strV (rowW f r i).2) (rowB p i ++ R) := by
  refine pureR_of_HC Try.func21 rfl rfl fun w => ?_
  refine HC_seq fun K1 hK1 => ?_
  refine HC_region ?_
  all_goals refine HL_box (cs := (rowC p i).toArray) rfl rfl rfl rfl fun rb => ?_
  all_goals refine HL_r rfl rfl rfl rfl (R_assign rfl) ?_
  all_goals refine HL_nil ?_
  all_goals (
    refine HQ_then ?_
    refine hK1 _ _ _ _ ?_; clear hK1 K1
    refine HC_seq fun K2 hK2 => ?_
    refine HC_seq fun K3 hK3 => ?_
    refine HC_region ?_
    all_goals refine HL_r rfl rfl rfl rfl (R_move rfl) ?_
    all_goals refine HL_r rfl rfl rfl rfl (R_pure rfl rfl rfl) ?_
    all_goals refine HL_nil ?_
    all_goals (
      refine HQ_then ?_
      refine hK3 _ _ _ _ ?_; clear hK3 K3
      refine HC_cond rfl (fun h4 => ?_) (fun h4 => ?_)
      · try exact Bool.noConfusion h4
        all_goals try simp only [decide_eq_true_eq, decide_eq_false_iff_not, beq_iff_eq, beq_eq_false_iff_ne, bne_iff_ne, bne_eq_false_iff_eq, Bool.not_eq_true', Bool.not_eq_false', ne_eq, Int.not_lt, Int.not_le, ge_iff_le, gt_iff_lt] at h4
        all_goals (
          refine HC_seq fun K5 hK5 => ?_
          refine HC_region ?_
          all_goals refine HL_callP rfl rfl rfl (enters_of Try.func22 (by kernel_rfl) rfl) P_lnone ?_
          all_goals refine HL_r rfl rfl rfl rfl (R_assign rfl) ?_
          all_goals refine HL_nil ?_
          all_goals (
            refine HQ_then ?_
            refine hK5 _ _ _ _ ?_; clear hK5 K5
            refine HC_ret ?_
            refine HQ_thenR ?_; clear hK2 K2
            refine HQ_post rfl rfl (.cons (res_tmp rfl) .nil) (fun w1 hs1 => ?_)
            refine ⟨?_, hs1.keep⟩
            first
              | (rw [← row_yes (by assumption)]; rfl)
              | (rw [← row_no (by assumption)]; rfl)
              | trace_state
            skip)
          skip)
      · try exact Bool.noConfusion h4
        all_goals try simp only [decide_eq_true_eq, decide_eq_false_iff_not, beq_iff_eq, beq_eq_false_iff_ne, bne_iff_ne, bne_eq_false_iff_eq, Bool.not_eq_true', Bool.not_eq_false', ne_eq, Int.not_lt, Int.not_le, ge_iff_le, gt_iff_lt] at h4
        all_goals (
          refine HC_skip ?_
          refine HQ_then ?_
          refine hK2 _ _ _ _ ?_; clear hK2 K2
          refine HC_seq fun K6 hK6 => ?_
          refine HC_region ?_
          all_goals refine HL_r rfl rfl rfl rfl (R_fieldAddr rfl rfl (by first | (simp only [Nat.zero_add, Nat.reduceAdd, Nat.reduceMul, Nat.zero_mul, Nat.mul_one, Nat.add_zero]; exact rfl) | exact rfl)) ?_
          all_goals refine HL_r rfl rfl rfl rfl (R_load rfl (known_L (k := 0) rfl) rfl rfl) ?_
          all_goals refine HL_r rfl rfl rfl rfl (R_loadArr (xs := r.cells) (n := 17) rfl (Or.inr (List.mem_append_right _ hR)) rfl rfl rfl) ?_
          all_goals refine HL_callR rfl rfl rfl (enters_hold hi) (S_holdR hi (fun q hq => hq) r) (fun q hq => Or.inr (List.mem_append_left _ hq)) ?_
          all_goals refine HL_callP rfl rfl rfl (enters_of Try.func23 (by kernel_rfl) rfl) (P_word_Fixed (holds_ok hr i).wok) ?_
          all_goals refine HL_r rfl rfl rfl rfl (R_assign rfl) ?_
          all_goals refine HL_nil ?_
          all_goals (
            refine HQ_then ?_
            refine hK6 _ _ _ _ ?_; clear hK6 K6
            refine HC_ret ?_
            refine HQ_post rfl rfl (.cons (res_tmp rfl) .nil) (fun w1 hs1 => ?_)
            refine ⟨?_, hs1.keep⟩
            first
              | (rw [← row_yes (by assumption)]; rfl)
              | (rw [← row_no (by assumption)]; rfl)
              | trace_state
            skip)
          skip)
      skip)
    skip)
set_option maxRecDepth 10000 in
theorem S_lset {R : List (Nat × Obj)} {a : AcL} (ha : a.In R) {f : Int} (hf : Forked f) {gv : FuncId} {capsV : List Value} {vals : Nat → BS} (egv : Enters Try.prog gv) (hgv : ∀ i, i < 7 → ∀ p, PureR Try.prog gv (.agg (rowC p i).toArray :: .bool (hasE f i) :: capsV).toArray (strV (vals i)) (rowB p i ++ R)) :
    PureT (α := AcRes R (setRows a.er (tab.map fun i => (keyE (keyN i), vals i)))) Try.prog 20 [.int .i64 f, a.val, .func (.func gv) #[] capsV.toArray].toArray (fun x => x.val) [] (fun x => x.L) R := by
  obtain ⟨rows, hrows⟩ : ∃ rows, rows = tab.map fun i => (keyE (keyN i), vals i) := ⟨_, rfl⟩
  have hdr : ∀ i, i < 7 → rows.drop i = (keyE (keyN i), vals i) :: rows.drop (i + 1) := fun i hi => by rw [hrows]; exact map_drop _ hi
  have hd7 : rows.drop 7 = [] := by rw [hrows]; rfl
  rw [← hrows]
  clear hrows
  refine pureT_of_HC Try.func20 rfl rfl fun w => ?_
  refine HC_seq fun K1 hK1 => ?_
  refine HC_region ?_
  all_goals refine HL_box (cs := a.cells.toArray) rfl rfl rfl rfl fun rb => ?_
  all_goals refine HL_box (cs := #[_]) rfl rfl rfl rfl fun rv => ?_
  all_goals refine HL_alloc (cs := #[_, _, _, _, _, _, _, _]) rfl rfl rfl rfl fun r1 => ?_
  all_goals refine HL_alloc (cs := #[_]) rfl rfl rfl rfl fun r2 => ?_
  all_goals refine HL_nil ?_
  all_goals (
    refine HQ_then ?_
    refine hK1 _ _ _ _ ?_; clear hK1 K1
    refine HC_seq fun K2 hK2 => ?_
    refine HC_seq fun K3 hK3 => ?_
    refine HC_region ?_
    all_goals refine HL_r rfl rfl rfl rfl (R_move rfl) ?_
    all_goals refine HL_callPE rfl rfl rfl (enters_of Try.func32 (by kernel_rfl) rfl) (E_rows f) fun b => ?_
    all_goals refine HL_nil ?_
    all_goals (
      refine HQ_then ?_
      refine hK3 _ _ _ _ ?_; clear hK3 K3
      refine HC_block ?_
      refine HC_sel [4, 2, 1, 0, 3] (L' := [_, _, _, _, _]) (by decide) rfl ?_
      refine HC_rangeB (τ := AcSt R × Int) (fun i (s : AcSt R) => i ≤ 7 ∧ setRows a.er rows = setRows s.a.er (rows.drop i)) (fun s => (rb, .cells s.a.cells.toArray 37 (0, 0)) :: (r1, .cells ac0L.cells.toArray 37 (0, 0)) :: (r2, .cells #[.int .i64 0] 32 (0, 0)) :: s.L) (fun j s => j = .ret ∧ setRows a.er rows = (s.1.a.er, s.2)) (fun s => (rb, .cells s.1.a.cells.toArray 37 (0, 0)) :: (r1, .cells s.1.a.cells.toArray 37 (0, 0)) :: (r2, .cells #[.int .i64 s.2] 32 (0, 0)) :: s.1.L) [(b, .cells #[.int .i64 f] 3 (0, 0)), (rv, _)] ⟨a, [], ha⟩ rfl rfl (enters_of Try.func42 (by kernel_rfl) rfl) (I_rows hf b) nxT_len rfl (fun q hq => .inl (by rw [List.mem_singleton.1 hq]; exact List.mem_cons_self)) rfl ⟨Nat.zero_le _, rfl⟩ ?_ ?_ ?_
      · rintro q Xr Xb w3 i _ _ _ s ⟨hi, rfl, p, rfl, rfl⟩ ⟨hi7, hinv⟩ Kr hKr
        rw [hdr i hi, setRows_cons] at hinv
        refine HC_seq fun K4 hK4 => ?_
        refine HC_region ?_
        all_goals refine HL_alloc (cs := #[_, _, _, _, _]) rfl rfl rfl rfl fun r3 => ?_
        all_goals first
          | (refine HL_storeA (k := 0) (n := 5) (cs' := #[_, _, _, _, _]) (vs := #[_, _, _, _, _]) rfl rfl rfl rfl rfl rfl rfl (by exact Nat.le_of_ble_eq_true rfl) rfl (by first | (simp only [List.set_cons_zero, List.set_cons_succ]; exact rfl) | exact rfl) ?_)
          | (refine HL_storeA (k := 1) (n := 5) (cs' := #[_, _, _, _, _]) (vs := #[_, _, _, _, _]) rfl rfl rfl rfl rfl rfl rfl (by exact Nat.le_of_ble_eq_true rfl) rfl (by first | (simp only [List.set_cons_zero, List.set_cons_succ]; exact rfl) | exact rfl) ?_)
          | (refine HL_storeA (k := 2) (n := 5) (cs' := #[_, _, _, _, _]) (vs := #[_, _, _, _, _]) rfl rfl rfl rfl rfl rfl rfl (by exact Nat.le_of_ble_eq_true rfl) rfl (by first | (simp only [List.set_cons_zero, List.set_cons_succ]; exact rfl) | exact rfl) ?_)
          | (refine HL_storeA (k := 3) (n := 5) (cs' := #[_, _, _, _, _]) (vs := #[_, _, _, _, _]) rfl rfl rfl rfl rfl rfl rfl (by exact Nat.le_of_ble_eq_true rfl) rfl (by first | (simp only [List.set_cons_zero, List.set_cons_succ]; exact rfl) | exact rfl) ?_)
          | (refine HL_storeA (k := 4) (n := 5) (cs' := #[_, _, _, _, _]) (vs := #[_, _, _, _, _]) rfl rfl rfl rfl rfl rfl rfl (by exact Nat.le_of_ble_eq_true rfl) rfl (by first | (simp only [List.set_cons_zero, List.set_cons_succ]; exact rfl) | exact rfl) ?_)
          | (refine HL_storeA (k := 0) (n := 5) (vs := #[_, _, _, _, _]) rfl rfl rfl rfl rfl rfl rfl (by exact Nat.le_of_ble_eq_true rfl) (by first | (simp only [List.take_zero, List.nil_append, Array.toList_toArray, List.drop_succ_cons, List.drop_zero, List.take_succ_cons, List.cons_append, Nat.zero_add, Nat.reduceAdd, List.append_nil, List.drop_nil]; exact rfl) | exact rfl) (by first | (simp only [List.set_cons_zero, List.set_cons_succ]; exact rfl) | exact rfl) ?_)
          | (refine HL_storeA (k := 1) (n := 5) (vs := #[_, _, _, _, _]) rfl rfl rfl rfl rfl rfl rfl (by exact Nat.le_of_ble_eq_true rfl) (by first | (simp only [List.take_zero, List.nil_append, Array.toList_toArray, List.drop_succ_cons, List.drop_zero, List.take_succ_cons, List.cons_append, Nat.zero_add, Nat.reduceAdd, List.append_nil, List.drop_nil]; exact rfl) | exact rfl) (by first | (simp only [List.set_cons_zero, List.set_cons_succ]; exact rfl) | exact rfl) ?_)
          | (refine HL_storeA (k := 2) (n := 5) (vs := #[_, _, _, _, _]) rfl rfl rfl rfl rfl rfl rfl (by exact Nat.le_of_ble_eq_true rfl) (by first | (simp only [List.take_zero, List.nil_append, Array.toList_toArray, List.drop_succ_cons, List.drop_zero, List.take_succ_cons, List.cons_append, Nat.zero_add, Nat.reduceAdd, List.append_nil, List.drop_nil]; exact rfl) | exact rfl) (by first | (simp only [List.set_cons_zero, List.set_cons_succ]; exact rfl) | exact rfl) ?_)
          | (refine HL_storeA (k := 3) (n := 5) (vs := #[_, _, _, _, _]) rfl rfl rfl rfl rfl rfl rfl (by exact Nat.le_of_ble_eq_true rfl) (by first | (simp only [List.take_zero, List.nil_append, Array.toList_toArray, List.drop_succ_cons, List.drop_zero, List.take_succ_cons, List.cons_append, Nat.zero_add, Nat.reduceAdd, List.append_nil, List.drop_nil]; exact rfl) | exact rfl) (by first | (simp only [List.set_cons_zero, List.set_cons_succ]; exact rfl) | exact rfl) ?_)
          | (refine HL_storeA (k := 4) (n := 5) (vs := #[_, _, _, _, _]) rfl rfl rfl rfl rfl rfl rfl (by exact Nat.le_of_ble_eq_true rfl) (by first | (simp only [List.take_zero, List.nil_append, Array.toList_toArray, List.drop_succ_cons, List.drop_zero, List.take_succ_cons, List.cons_append, Nat.zero_add, Nat.reduceAdd, List.append_nil, List.drop_nil]; exact rfl) | exact rfl) (by first | (simp only [List.set_cons_zero, List.set_cons_succ]; exact rfl) | exact rfl) ?_)
        all_goals refine HL_nil ?_
        all_goals (
          refine HQ_then ?_
          refine hK4 _ _ _ _ ?_; clear hK4 K4
          refine HC_region ?_
          all_goals refine HL_r rfl rfl rfl rfl (R_assign rfl) ?_
          all_goals refine HL_nil ?_
          all_goals (
            refine HQ_then ?_
            refine hKr _ _ ?_; clear hKr
            refine HC_block ?_
            refine HC_seq fun K5 hK5 => ?_
            refine HC_drawB s.L [(1, .pure), (3, .pure), (6, .pure), (8, .grow (geCall (Classical.choice (acRes_ne s.ok (keyE (keyN i)) (vals i))) AcRes.val AcRes.L)), (9, .pure), (10, .pure), (11, .pure), (12, .grow (geNew ptrV (.cells #[.string ⟨#[]⟩, .int .u64 0, .int .u64 0, .int .u64 0, .int .u64 0, .int .u64 0, .string ⟨#[]⟩, .slice none 0 0] 37 (0, 0)))), (13, .turn), (14, .pure)] 15 [0, 1, 2, 3, 4, 5, 6, 7, 8, 9, 10, 11, 12, 13, 14] (by kernel_rfl) (by kernel_rfl) (fun p hp => List.mem_cons_of_mem _ (List.mem_cons_of_mem _ (List.mem_cons_of_mem _ (List.mem_cons_of_mem _ hp)))) ?_
            all_goals refine HB_r (k := 0) rfl rfl rfl rfl rfl (R_loadArr (xs := s.a.cells) (n := 8) rfl (known_L (k := 1) rfl) rfl rfl rfl) ?_
            all_goals refine HB_p (k := 1) rfl rfl rfl rfl rfl (fun _ hS => (R_fieldAddr rfl rfl (by first | (simp only [Nat.zero_add, Nat.reduceAdd, Nat.reduceMul, Nat.zero_mul, Nat.mul_one, Nat.add_zero]; exact rfl) | exact rfl))) ?_
            all_goals first
              | (refine HB_r (k := 2) rfl rfl rfl rfl rfl (R_load rfl (known_L (k := 0) rfl) rfl rfl) ?_)
              | (refine HB_r (k := 2) rfl rfl rfl rfl rfl (R_load rfl (known_L (k := 1) rfl) rfl rfl) ?_)
              | (refine HB_r (k := 2) rfl rfl rfl rfl rfl (R_load rfl (known_L (k := 2) rfl) rfl rfl) ?_)
              | (refine HB_r (k := 2) rfl rfl rfl rfl rfl (R_load rfl (known_L (k := 3) rfl) rfl rfl) ?_)
              | (refine HB_r (k := 2) rfl rfl rfl rfl rfl (R_load rfl (known_L (k := 4) rfl) rfl rfl) ?_)
            all_goals refine HB_callP (k := 3) rfl rfl rfl rfl rfl (enters_of Try.func33 (by kernel_rfl) rfl) (P_lkey (keyN_u i)) ?_
            all_goals refine HB_r (k := 4) rfl rfl rfl rfl rfl (R_load rfl (Or.inr (List.mem_append_left _ (List.mem_append_right _ (List.mem_cons_of_mem _ List.mem_cons_self)))) rfl rfl) ?_
            all_goals refine HB_r (k := 5) rfl rfl rfl rfl rfl (R_loadArr (xs := rowC p i) (n := 5) rfl (known_L (k := 0) rfl) rfl rfl rfl) ?_
            all_goals refine HB_p (k := 6) rfl rfl rfl rfl rfl (fun _ hS => (R_move rfl)) ?_
            all_goals refine HB_callR (k := 7) rfl rfl rfl rfl rfl egv (hgv i hi p) (fun q hq => (List.mem_append.1 hq).elim (fun h => Or.inr (List.mem_append_left _ (List.mem_append_left _ h))) (fun h => Or.inr (List.mem_append_right _ h))) ?_
            all_goals refine HB_callRE (k := 8) rfl rfl rfl rfl rfl (enters_of Try.func39 (by kernel_rfl) rfl) (S_Set s.ok (keyE (keyN i)) (vals i)) (fun q hq => (List.mem_append.1 hq).imp id (fun h => List.mem_append_right _ h)) fun x => ?_
            all_goals refine HB_p (k := 9) rfl rfl rfl rfl rfl (fun _ hS => (R_move rfl)) ?_
            all_goals refine HB_p (k := 10) rfl rfl rfl rfl rfl (fun _ hS => (R_extract rfl rfl)) ?_
            all_goals refine HB_p (k := 11) rfl rfl rfl rfl rfl (fun _ hS => (R_extract rfl rfl)) ?_
            all_goals refine HB_alloc (k := 12) (cs := #[_, _, _, _, _, _, _, _]) rfl rfl rfl rfl rfl rfl fun r4 => ?_
            all_goals refine HB_storeArr (k := 13) (q := 0) (n := 8) (ys := x.a.cells) rfl rfl rfl rfl rfl rfl rfl rfl rfl rfl rfl (fun p hp => List.mem_cons_of_mem _ (List.mem_append_right _ (List.mem_cons_of_mem _ (List.mem_cons_of_mem _ (List.mem_cons_of_mem _ (List.mem_cons_of_mem _ hp)))))) ?_
            all_goals refine HB_p (k := 14) rfl rfl rfl rfl rfl (fun _ hS => (R_assign rfl)) ?_
            all_goals refine HB_end ?_
            all_goals refine HL_nil ?_
            all_goals (
              refine HQ_then ?_
              refine hK5 _ _ _ _ ?_; clear hK5 K5
              refine HC_seq fun K6 hK6 => ?_
              refine HC_seq fun K7 hK7 => ?_
              refine HC_perm (L' := (r4, .cells x.a.cells.toArray 37 (0, 0)) :: (r3, .cells (rowC p i).toArray 60 (0, 0)) :: (rb, .cells s.a.cells.toArray 37 (0, 0)) :: (r1, .cells ac0L.cells.toArray 37 (0, 0)) :: (r2, .cells #[.int .i64 0] 32 (0, 0)) :: (x.L ++ s.L)) (List.Perm.cons _ (perm_mid x.L [_, _, _, _] s.L)) ?_
              have hx := x.eq
              have hxe : (setE s.a.er (keyE (keyN i)) (vals i)).2 = x.err := (congrArg Prod.snd hx).symm
              have hxa : (setE s.a.er (keyE (keyN i)) (vals i)).1 = x.a.er := (congrArg Prod.fst hx).symm
              refine HC_region ?_
              all_goals refine HL_r rfl rfl rfl rfl (R_move rfl) ?_
              all_goals refine HL_r rfl rfl rfl rfl (R_pure rfl rfl rfl) ?_
              all_goals refine HL_nil ?_
              all_goals (
                refine HQ_then ?_
                refine hK7 _ _ _ _ ?_; clear hK7 K7
                refine HC_cond rfl (fun h8 => ?_) (fun h8 => ?_)
                · try exact Bool.noConfusion h8
                  all_goals try simp only [decide_eq_true_eq, decide_eq_false_iff_not, beq_iff_eq, beq_eq_false_iff_ne, bne_iff_ne, bne_eq_false_iff_eq, Bool.not_eq_true', Bool.not_eq_false', ne_eq, Int.not_lt, Int.not_le, ge_iff_le, gt_iff_lt] at h8
                  all_goals (
                    refine HC_seq fun K9 hK9 => ?_
                    refine HC_region ?_
                    all_goals refine HL_r rfl rfl rfl rfl (R_loadArr (xs := s.a.cells) (n := 8) rfl (known_L (k := 2) rfl) rfl rfl rfl) ?_
                    all_goals refine HL_r rfl rfl rfl rfl (R_move rfl) ?_
                    all_goals refine HL_storeArr (k := 3) (n := 8) (ys := s.a.cells) rfl rfl rfl rfl rfl rfl rfl rfl rfl ?_
                    all_goals first
                      | (refine HL_store (k := 0) rfl rfl rfl rfl rfl rfl rfl rfl (by first | (simp only [List.setIfInBounds_toArray, List.set_cons_zero, List.set_cons_succ]; exact rfl) | exact rfl) (by first | (simp only [List.set_cons_zero, List.set_cons_succ]; exact rfl) | exact rfl) ?_)
                      | (refine HL_store (k := 1) rfl rfl rfl rfl rfl rfl rfl rfl (by first | (simp only [List.setIfInBounds_toArray, List.set_cons_zero, List.set_cons_succ]; exact rfl) | exact rfl) (by first | (simp only [List.set_cons_zero, List.set_cons_succ]; exact rfl) | exact rfl) ?_)
                      | (refine HL_store (k := 2) rfl rfl rfl rfl rfl rfl rfl rfl (by first | (simp only [List.setIfInBounds_toArray, List.set_cons_zero, List.set_cons_succ]; exact rfl) | exact rfl) (by first | (simp only [List.set_cons_zero, List.set_cons_succ]; exact rfl) | exact rfl) ?_)
                      | (refine HL_store (k := 3) rfl rfl rfl rfl rfl rfl rfl rfl (by first | (simp only [List.setIfInBounds_toArray, List.set_cons_zero, List.set_cons_succ]; exact rfl) | exact rfl) (by first | (simp only [List.set_cons_zero, List.set_cons_succ]; exact rfl) | exact rfl) ?_)
                      | (refine HL_store (k := 4) rfl rfl rfl rfl rfl rfl rfl rfl (by first | (simp only [List.setIfInBounds_toArray, List.set_cons_zero, List.set_cons_succ]; exact rfl) | exact rfl) (by first | (simp only [List.set_cons_zero, List.set_cons_succ]; exact rfl) | exact rfl) ?_)
                    all_goals refine HL_nil ?_
                    all_goals (
                      refine HQ_then ?_
                      refine hK9 _ _ _ _ ?_; clear hK9 K9
                      refine HC_ret ?_
                      refine HQ_thenR ?_; clear hK6 K6
                      refine HQ_blockR ?_
                      refine HQ_weak (L' := (rb, .cells s.a.cells.toArray 37 (0, 0)) :: (r1, .cells s.a.cells.toArray 37 (0, 0)) :: (r2, .cells #[.int .i64 x.err] 32 (0, 0)) :: s.L) (fun _ _ h => h) (.cons _ (.cons _ (.cons_cons _ (.cons_cons _ (.cons_cons _ (List.sublist_append_right _ _)))))) ?_
                      exact HQ_roundR (s, x.err) ⟨rfl, by rw [hinv, if_pos (by rw [hxe]; assumption)]; exact (set_same (by rw [hxe]; assumption)).trans (congrArg (Prod.mk s.a.er) hxe)⟩ rfl
                      skip)
                    skip)
                · try exact Bool.noConfusion h8
                  all_goals try simp only [decide_eq_true_eq, decide_eq_false_iff_not, beq_iff_eq, beq_eq_false_iff_ne, bne_iff_ne, bne_eq_false_iff_eq, Bool.not_eq_true', Bool.not_eq_false', ne_eq, Int.not_lt, Int.not_le, ge_iff_le, gt_iff_lt] at h8
                  all_goals (
                    refine HC_skip ?_
                    refine HQ_then ?_
                    refine hK6 _ _ _ _ ?_; clear hK6 K6
                    refine HC_region ?_
                    all_goals refine HL_r rfl rfl rfl rfl (R_loadArr (xs := x.a.cells) (n := 8) rfl (known_L (k := 0) rfl) rfl rfl rfl) ?_
                    all_goals refine HL_storeArr (k := 2) (n := 8) (ys := x.a.cells) rfl rfl rfl rfl rfl rfl rfl rfl rfl ?_
                    all_goals refine HL_nil ?_
                    all_goals (
                      refine HQ_blockN ?_
                      refine HQ_weak (L' := (rb, .cells x.a.cells.toArray 37 (0, 0)) :: (r1, .cells ac0L.cells.toArray 37 (0, 0)) :: (r2, .cells #[.int .i64 0] 32 (0, 0)) :: (x.L ++ s.L)) (fun _ _ h => h) (.cons _ (.cons _ (List.Sublist.refl _))) ?_
                      exact HQ_round (s.next x) ⟨by omega, by rw [hinv, if_neg (by rw [hxe]; simpa using ‹x.err = 0›), hxa]; rfl⟩ rfl
                      skip)
                    skip)
                skip)
              skip)
            skip)
          skip)
      · rintro D i s hfi ⟨-, hinv⟩
        obtain rfl : i = 7 := hfi
        rw [hd7] at hinv
        refine HQ_blockN ?_
        refine HQ_then ?_
        refine hK2 _ _ _ _ ?_; clear hK2 K2
        refine HC_seq fun K10 hK10 => ?_
        refine HC_region ?_
        all_goals refine HL_r rfl rfl rfl rfl (R_loadArr (xs := s.a.cells) (n := 8) rfl (known_L (k := 1) rfl) rfl rfl rfl) ?_
        all_goals refine HL_storeArr (k := 2) (n := 8) (ys := s.a.cells) rfl rfl rfl rfl rfl rfl rfl rfl rfl ?_
        all_goals first
          | (refine HL_store (k := 0) rfl rfl rfl rfl rfl rfl rfl rfl (by first | (simp only [List.setIfInBounds_toArray, List.set_cons_zero, List.set_cons_succ]; exact rfl) | exact rfl) (by first | (simp only [List.set_cons_zero, List.set_cons_succ]; exact rfl) | exact rfl) ?_)
          | (refine HL_store (k := 1) rfl rfl rfl rfl rfl rfl rfl rfl (by first | (simp only [List.setIfInBounds_toArray, List.set_cons_zero, List.set_cons_succ]; exact rfl) | exact rfl) (by first | (simp only [List.set_cons_zero, List.set_cons_succ]; exact rfl) | exact rfl) ?_)
          | (refine HL_store (k := 2) rfl rfl rfl rfl rfl rfl rfl rfl (by first | (simp only [List.setIfInBounds_toArray, List.set_cons_zero, List.set_cons_succ]; exact rfl) | exact rfl) (by first | (simp only [List.set_cons_zero, List.set_cons_succ]; exact rfl) | exact rfl) ?_)
          | (refine HL_store (k := 3) rfl rfl rfl rfl rfl rfl rfl rfl (by first | (simp only [List.setIfInBounds_toArray, List.set_cons_zero, List.set_cons_succ]; exact rfl) | exact rfl) (by first | (simp only [List.set_cons_zero, List.set_cons_succ]; exact rfl) | exact rfl) ?_)
          | (refine HL_store (k := 4) rfl rfl rfl rfl rfl rfl rfl rfl (by first | (simp only [List.setIfInBounds_toArray, List.set_cons_zero, List.set_cons_succ]; exact rfl) | exact rfl) (by first | (simp only [List.set_cons_zero, List.set_cons_succ]; exact rfl) | exact rfl) ?_)
        all_goals refine HL_nil ?_
        all_goals (
          refine HQ_then ?_
          refine hK10 _ _ _ _ ?_; clear hK10 K10
          refine HC_ret ?_
          refine HQ_mark (k := 0) rfl rfl ?_
          first
            | (refine HQ_post rfl rfl (.cons (res_cellA (vs := s.a.cells) rfl (known_L (k := 2) rfl) rfl rfl) (.cons (res_cell rfl (known_L (k := 3) rfl) rfl rfl) .nil)) (fun w1 hs1 => ?_)
               exact ⟨⟨s.a, 0, s.L, s.ok, by rw [hinv]; rfl⟩, rfl, hs1.weakL (.cons _ (.cons _ (.cons _ (.cons _ (List.sublist_append_left _ _)))))⟩)
            | (refine HQ_post rfl rfl (.cons (res_cellA (vs := s.1.a.cells) rfl (known_L (k := 2) rfl) rfl rfl) (.cons (res_cell rfl (known_L (k := 3) rfl) rfl rfl) .nil)) (fun w1 hs1 => ?_)
               exact ⟨⟨s.1.a, s.2, s.1.L, s.1.ok, hst.symm⟩, rfl, hs1.weakL (.cons _ (.cons _ (.cons _ (.cons _ (List.sublist_append_left _ _)))))⟩)
          skip)
      · rintro D j s ⟨rfl, hst⟩
        refine HC_ret ?_
        refine HQ_blockR ?_
        refine HQ_thenR ?_; clear hK2 K2
        refine HQ_mark (k := 0) rfl rfl ?_
        first
          | (refine HQ_post rfl rfl (.cons (res_cellA (vs := s.a.cells) rfl (known_L (k := 2) rfl) rfl rfl) (.cons (res_cell rfl (known_L (k := 3) rfl) rfl rfl) .nil)) (fun w1 hs1 => ?_)
             exact ⟨⟨s.a, 0, s.L, s.ok, by rw [hinv]; rfl⟩, rfl, hs1.weakL (.cons _ (.cons _ (.cons _ (.cons _ (List.sublist_append_left _ _)))))⟩)
          | (refine HQ_post rfl rfl (.cons (res_cellA (vs := s.1.a.cells) rfl (known_L (k := 2) rfl) rfl rfl) (.cons (res_cell rfl (known_L (k := 3) rfl) rfl rfl) .nil)) (fun w1 hs1 => ?_)
             exact ⟨⟨s.1.a, s.2, s.1.L, s.1.ok, hst.symm⟩, rfl, hs1.weakL (.cons _ (.cons _ (.cons _ (.cons _ (List.sublist_append_left _ _)))))⟩)
      skip)
    skip)
end Go.Proofs.Ytnkmbkndpoghdaa
namespace Go.Proofs.Ytnkmbkndpoghdaa
set_option linter.all false
open Go.SL Go.RowKit Go.Shelf
theorem code_in {R : List (Nat × Obj)} {a : AcL} (h : a.In R) {c : BS} (hc : c.length ≤ 512) : AcL.In R { a with code := c } := ⟨h.addr, h.nonce, h.bal, (by show c.length ≤ 9223372036854775807; omega), h.len, h.seg, h.slots⟩
theorem addr_in {R : List (Nat × Obj)} {a : AcL} (h : a.In R) {c : BS} (hc : c.length ≤ 512) : AcL.In R { a with addr := c } := ⟨(by show c.length ≤ 9223372036854775807; omega), h.nonce, h.bal, h.code, h.len, h.seg, h.slots⟩
theorem rows_w {f : Int} {r : Rec} : (tab.map fun i => (keyE (keyN i), (rowW f r i).2)) = rowsW f r := rfl
set_option maxRecDepth 10000 in
theorem S_wdo {R : List (Nat × Obj)} {f : Int} (hf : Forked f) {r : Rec} (hr : r.ok) {bf br ef er : Nat} (hbf : (bf, Obj.cells #[.int .i64 f] ef (0, 0)) ∈ R) (hbr : (br, Obj.cells r.cells.toArray er (0, 0)) ∈ R) {w : Nat} (hw : w < 2) {a : AcL} (ha : a.In R) :
    PureT (α := AcRes R (codedE f w a.er r)) Try.prog 18 (.int .i64 (w : Int) :: a.val :: [ptV bf 0, ptV br 0]).toArray (fun x => x.val) [] (fun x => x.L) R := by
  have hin := code_in ha (code_len f w)
  have hset := S_lset (gv := 21) (capsV := [ptV br 0]) (vals := fun i => (rowW f r i).2) hin hf (enters_of Try.func21 (by kernel_rfl) rfl) (fun i hi p => S_val hi hr hbr)
  rw [rows_w] at hset
  have hC : codedE f w a.er r = if (w : Int) = 1 then ({ a.er with code := (codeE f w).1 }, 0) else setRows { a.er with code := (codeE f w).1 } (rowsW f r) := by
    unfold codedE
    by_cases h : (w : Int) = 1
    · rw [if_pos h, if_pos h, h]
    · rw [if_neg h, if_neg h]
  rw [hC]
  clear hC
  refine pureT_of_HC Try.func18 rfl rfl fun w => ?_
  refine HC_seq fun K1 hK1 => ?_
  refine HC_region ?_
  all_goals refine HL_box (cs := a.cells.toArray) rfl rfl rfl rfl fun rb => ?_
  all_goals refine HL_alloc (cs := #[_, _, _, _, _, _, _, _]) rfl rfl rfl rfl fun r1 => ?_
  all_goals refine HL_r rfl rfl rfl rfl (R_assign rfl) ?_
  all_goals refine HL_nil ?_
  all_goals (
    refine HQ_then ?_
    refine hK1 _ _ _ _ ?_; clear hK1 K1
    refine HC_seq fun K2 hK2 => ?_
    refine HC_region ?_
    all_goals refine HL_r rfl rfl rfl rfl (R_load rfl (Or.inr hbf) rfl rfl) ?_
    all_goals refine HL_r rfl rfl rfl rfl (R_move rfl) ?_
    all_goals refine HL_callP rfl rfl rfl (enters_of Try.func19 (by kernel_rfl) rfl) (P_ofN hf hw) ?_
    all_goals refine HL_r rfl rfl rfl rfl (R_move rfl) ?_
    all_goals refine HL_r rfl rfl rfl rfl (R_extract rfl rfl) ?_
    all_goals refine HL_r rfl rfl rfl rfl (R_extract rfl rfl) ?_
    all_goals refine HL_r rfl rfl rfl rfl (R_fieldAddr rfl rfl (by first | (simp only [Nat.zero_add, Nat.reduceAdd, Nat.reduceMul, Nat.zero_mul, Nat.mul_one, Nat.add_zero]; exact rfl) | exact rfl)) ?_
    all_goals first
      | (refine HL_store (k := 0) rfl rfl rfl rfl rfl rfl rfl rfl (by first | (simp only [List.setIfInBounds_toArray, List.set_cons_zero, List.set_cons_succ]; exact rfl) | exact rfl) (by first | (simp only [List.set_cons_zero, List.set_cons_succ]; exact rfl) | exact rfl) ?_)
      | (refine HL_store (k := 1) rfl rfl rfl rfl rfl rfl rfl rfl (by first | (simp only [List.setIfInBounds_toArray, List.set_cons_zero, List.set_cons_succ]; exact rfl) | exact rfl) (by first | (simp only [List.set_cons_zero, List.set_cons_succ]; exact rfl) | exact rfl) ?_)
    all_goals refine HL_nil ?_
    all_goals (
      refine HQ_then ?_
      refine hK2 _ _ _ _ ?_; clear hK2 K2
      refine HC_seq fun K3 hK3 => ?_
      refine HC_seq fun K4 hK4 => ?_
      refine HC_region ?_
      all_goals refine HL_r rfl rfl rfl rfl (R_move rfl) ?_
      all_goals refine HL_r rfl rfl rfl rfl (R_pure rfl rfl rfl) ?_
      all_goals refine HL_nil ?_
      all_goals (
        refine HQ_then ?_
        refine hK4 _ _ _ _ ?_; clear hK4 K4
        refine HC_cond rfl (fun h5 => ?_) (fun h5 => ?_)
        · try exact Bool.noConfusion h5
          all_goals try simp only [decide_eq_true_eq, decide_eq_false_iff_not, beq_iff_eq, beq_eq_false_iff_ne, bne_iff_ne, bne_eq_false_iff_eq, Bool.not_eq_true', Bool.not_eq_false', ne_eq, Int.not_lt, Int.not_le, ge_iff_le, gt_iff_lt] at h5
          all_goals (
            refine HC_seq fun K6 hK6 => ?_
            refine HC_region ?_
            all_goals first
              | (refine HL_r rfl rfl rfl rfl (R_loadA (vs := [_, _, _, _, _, _, _, _]) rfl (known_L (k := 0) rfl) rfl rfl rfl rfl) ?_)
              | (refine HL_r rfl rfl rfl rfl (R_loadA (vs := [_, _, _, _, _, _, _, _]) rfl (known_L (k := 1) rfl) rfl rfl rfl rfl) ?_)
            all_goals first
              | (refine HL_storeA (k := 0) (n := 8) (cs' := #[_, _, _, _, _, _, _, _]) (vs := #[_, _, _, _, _, _, _, _]) rfl rfl rfl rfl rfl rfl rfl (by exact Nat.le_of_ble_eq_true rfl) rfl (by first | (simp only [List.set_cons_zero, List.set_cons_succ]; exact rfl) | exact rfl) ?_)
              | (refine HL_storeA (k := 1) (n := 8) (cs' := #[_, _, _, _, _, _, _, _]) (vs := #[_, _, _, _, _, _, _, _]) rfl rfl rfl rfl rfl rfl rfl (by exact Nat.le_of_ble_eq_true rfl) rfl (by first | (simp only [List.set_cons_zero, List.set_cons_succ]; exact rfl) | exact rfl) ?_)
              | (refine HL_storeA (k := 0) (n := 8) (vs := #[_, _, _, _, _, _, _, _]) rfl rfl rfl rfl rfl rfl rfl (by exact Nat.le_of_ble_eq_true rfl) (by first | (simp only [List.take_zero, List.nil_append, Array.toList_toArray, List.drop_succ_cons, List.drop_zero, List.take_succ_cons, List.cons_append, Nat.zero_add, Nat.reduceAdd, List.append_nil, List.drop_nil]; exact rfl) | exact rfl) (by first | (simp only [List.set_cons_zero, List.set_cons_succ]; exact rfl) | exact rfl) ?_)
              | (refine HL_storeA (k := 1) (n := 8) (vs := #[_, _, _, _, _, _, _, _]) rfl rfl rfl rfl rfl rfl rfl (by exact Nat.le_of_ble_eq_true rfl) (by first | (simp only [List.take_zero, List.nil_append, Array.toList_toArray, List.drop_succ_cons, List.drop_zero, List.take_succ_cons, List.cons_append, Nat.zero_add, Nat.reduceAdd, List.append_nil, List.drop_nil]; exact rfl) | exact rfl) (by first | (simp only [List.set_cons_zero, List.set_cons_succ]; exact rfl) | exact rfl) ?_)
            all_goals refine HL_r rfl rfl rfl rfl (R_assign rfl) ?_
            all_goals refine HL_nil ?_
            all_goals (
              refine HQ_then ?_
              refine hK6 _ _ _ _ ?_; clear hK6 K6
              refine HC_ret ?_
              refine HQ_thenR ?_; clear hK3 K3
              first
                | refine HQ_post rfl rfl (.cons (res_cellA (vs := [_, _, _, _, _, _, _, _]) rfl (known_L (k := 0) rfl) rfl rfl) (.cons (res_tmp rfl) .nil)) (fun w1 hs1 => ?_)
                | refine HQ_post rfl rfl (.cons (res_cellA (vs := [_, _, _, _, _, _, _, _]) rfl (known_L (k := 1) rfl) rfl rfl) (.cons (res_tmp rfl) .nil)) (fun w1 hs1 => ?_)
              first
                | (rw [if_pos (by omega)]
                   exact ⟨⟨{ a with code := (codeE f _).1 }, 0, [], hin, rfl⟩, rfl, hs1.weakL (List.nil_sublist _)⟩)
                | (rw [if_neg (by omega)]
                   exact ⟨x, rfl, hs1.weakL (List.sublist_append_right [_, _] _)⟩)
                | trace_state
              skip)
            skip)
        · try exact Bool.noConfusion h5
          all_goals try simp only [decide_eq_true_eq, decide_eq_false_iff_not, beq_iff_eq, beq_eq_false_iff_ne, bne_iff_ne, bne_eq_false_iff_eq, Bool.not_eq_true', Bool.not_eq_false', ne_eq, Int.not_lt, Int.not_le, ge_iff_le, gt_iff_lt] at h5
          all_goals (
            refine HC_skip ?_
            refine HQ_then ?_
            refine hK3 _ _ _ _ ?_; clear hK3 K3
            refine HC_seq fun K7 hK7 => ?_
            refine HC_region ?_
            all_goals refine HL_r rfl rfl rfl rfl (R_load rfl (Or.inr hbf) rfl rfl) ?_
            all_goals refine HL_r rfl rfl rfl rfl (R_loadA (vs := [_, _, _, _, _, _, _, _]) rfl (known_L (k := 1) rfl) rfl rfl rfl rfl) ?_
            all_goals refine HL_r rfl rfl rfl rfl (R_makeFunc rfl rfl) ?_
            all_goals refine HL_callRE rfl rfl rfl (enters_of Try.func20 (by kernel_rfl) rfl) hset (fun q hq => Or.inr hq) fun x => ?_
            all_goals refine HL_perm List.perm_append_comm ?_
            all_goals change HL _ _ ((21, .tuple #[x.a.val, .int .i64 x.err]) :: _) ((r1, _) :: (rb, _) :: x.L) _ _ _ _
            all_goals refine HL_r rfl rfl rfl rfl (R_extract rfl rfl) ?_
            all_goals refine HL_r rfl rfl rfl rfl (R_extract rfl rfl) ?_
            all_goals refine HL_storeArr (k := 0) (n := 8) (ys := x.a.cells) rfl rfl rfl rfl rfl rfl rfl rfl rfl ?_
            all_goals refine HL_r rfl rfl rfl rfl (R_assign rfl) ?_
            all_goals refine HL_nil ?_
            all_goals (
              refine HQ_then ?_
              refine hK7 _ _ _ _ ?_; clear hK7 K7
              refine HC_ret ?_
              first
                | refine HQ_post rfl rfl (.cons (res_cellA (vs := [_, _, _, _, _, _, _, _]) rfl (known_L (k := 0) rfl) rfl rfl) (.cons (res_tmp rfl) .nil)) (fun w1 hs1 => ?_)
                | refine HQ_post rfl rfl (.cons (res_cellA (vs := [_, _, _, _, _, _, _, _]) rfl (known_L (k := 1) rfl) rfl rfl) (.cons (res_tmp rfl) .nil)) (fun w1 hs1 => ?_)
              first
                | (rw [if_pos (by omega)]
                   exact ⟨⟨{ a with code := (codeE f _).1 }, 0, [], hin, rfl⟩, rfl, hs1.weakL (List.nil_sublist _)⟩)
                | (rw [if_neg (by omega)]
                   exact ⟨x, rfl, hs1.weakL (List.sublist_append_right [_, _] _)⟩)
                | trace_state
              skip)
            skip)
        skip)
      skip)
    skip)
end Go.Proofs.Ytnkmbkndpoghdaa
namespace Go.Proofs.Ytnkmbkndpoghdaa
set_option linter.all false
open Go.SL Go.RowKit Go.Shelf
set_option maxRecDepth 10000 in
theorem S_change {R : List (Nat × Obj)} {s : StL} (hs : s.In R) {f : Int} (hf : Forked f) {gd : FuncId} {capsd : List Value} {go : Int → AcE → AcE × Int} (egd : Enters Try.prog gd)
    (hdo : ∀ w : Nat, w < 2 → ∀ (a : AcL) (R' : List (Nat × Obj)), (∀ q ∈ R, q ∈ R') → a.In R' → PureT (α := AcRes R' (go w a.er)) Try.prog gd (.int .i64 (w : Int) :: a.val :: capsd).toArray (fun x => x.val) [] (fun x => x.L) R') :
    PureT (α := StRes R (changeE f s.er go)) Try.prog 17 [.int .i64 f, s.val, .func (.func gd) #[] capsd.toArray].toArray (fun x => x.val) [] (fun x => x.L) R := by
  obtain ⟨res, hres⟩ : ∃ res, res = changeE f s.er go := ⟨_, rfl⟩
  rw [← hres]
  refine pureT_of_HC Try.func17 rfl rfl fun w => ?_
  refine HC_seq fun K1 hK1 => ?_
  refine HC_region ?_
  all_goals refine HL_box (cs := s.cells.toArray) rfl rfl rfl rfl fun rb => ?_
  all_goals refine HL_alloc (cs := #[_]) rfl rfl rfl rfl fun r1 => ?_
  all_goals refine HL_r rfl rfl rfl rfl (R_assign rfl) ?_
  all_goals refine HL_nil ?_
  all_goals (
    refine HQ_then ?_
    refine hK1 _ _ _ _ ?_; clear hK1 K1
    refine HC_seq fun K2 hK2 => ?_
    refine HC_region ?_
    all_goals (refine HL_r rfl rfl rfl rfl (R_loadA (vs := [_]) rfl (known_L (k := 1) rfl) rfl rfl rfl rfl) ?_)
    all_goals refine HL_alloc (cs := #[_]) rfl rfl rfl rfl fun r2 => ?_
    all_goals (refine HL_storeA (k := 0) (n := 1) (cs' := #[_]) (vs := #[_]) rfl rfl rfl rfl rfl rfl rfl (by exact Nat.le_of_ble_eq_true rfl) rfl (by first | (simp only [List.set_cons_zero, List.set_cons_succ]; exact rfl) | exact rfl) ?_)
    all_goals refine HL_nil ?_
    all_goals (
      refine HQ_then ?_
      refine hK2 _ _ _ _ ?_; clear hK2 K2
      refine HC_seq fun K3 hK3 => ?_
      refine HC_seq fun K4 hK4 => ?_
      refine HC_region ?_
      all_goals refine HL_r rfl rfl rfl rfl (R_move rfl) ?_
      all_goals refine HL_nil ?_
      all_goals (
        refine HQ_then ?_
        refine hK4 _ _ _ _ ?_; clear hK4 K4
        refine HC_block ?_
        refine HC_loop (σ := Nat × StSt R) (fun q => q.1 ≤ 2 ∧ changeL f s.er go (([0, 1] : List Int).drop q.1) q.2.s.er = res) (fun q => [(0, .int .i64 f), (2, .func (.func gd) #[] capsd.toArray), (4, ptV rb 0), (6, ptV r1 0), (8, ptV r2 0), (17, .int .i64 (q.1 : Int))]) (fun q => (r2, .cells q.2.s.cells.toArray 24 (0, 0)) :: (r1, .cells st0L.cells.toArray 24 (0, 0)) :: (rb, .cells s.cells.toArray 24 (0, 0)) :: q.2.L) (fun _ _ _ => True) (fun q => 2 - q.1) (0, ⟨s, [], hs⟩) ⟨Nat.zero_le _, hres.symm⟩ (.cons rfl (.cons rfl (.cons rfl (.cons rfl (.cons rfl (.cons rfl .nil)))))) (List.Sublist.refl _) (fun _ _ h => h) ?_
        rintro ⟨i, t⟩ ⟨hi2, hinv⟩
        simp only at hi2 hinv
        change HC _ _ [(0, _), (2, _), (4, _), (6, _), (8, _), (17, .int .i64 (i : Int))] ((r2, .cells t.s.cells.toArray _ (0, 0)) :: (r1, _) :: (rb, _) :: t.L) _ _ _
        refine HC_seq fun K5 hK5 => ?_
        refine HC_region ?_
        all_goals refine HL_r rfl rfl rfl rfl (R_pure rfl rfl rfl) ?_
        all_goals refine HL_nil ?_
        all_goals (
          refine HQ_then ?_
          refine hK5 _ _ _ _ ?_; clear hK5 K5
          refine HC_seq fun K6 hK6 => ?_
          refine HC_cond rfl (fun h7 => ?_) (fun h7 => ?_)
          · try exact Bool.noConfusion h7
            all_goals try simp only [decide_eq_true_eq, decide_eq_false_iff_not, beq_iff_eq, beq_eq_false_iff_ne, bne_iff_ne, bne_eq_false_iff_eq, Bool.not_eq_true', Bool.not_eq_false', ne_eq, Int.not_lt, Int.not_le, ge_iff_le, gt_iff_lt] at h7
            all_goals (
              refine HC_skip ?_
              refine HQ_then ?_
              refine hK6 _ _ _ _ ?_; clear hK6 K6
              refine HC_seq fun K8 hK8 => ?_
              refine HC_block ?_
              refine HC_seq fun K9 hK9 => ?_
              refine HC_region ?_
              all_goals refine HL_r rfl rfl rfl rfl (R_move rfl) ?_
              all_goals refine HL_r rfl rfl rfl rfl (R_assign rfl) ?_
              all_goals refine HL_nil ?_
              all_goals (
                refine HQ_then ?_
                refine hK9 _ _ _ _ ?_; clear hK9 K9
                refine HC_seq fun K10 hK10 => ?_
                refine HC_seq fun K11 hK11 => ?_
                have hi : i < 2 := by omega
                rw [change_drop hi, changeL_cons] at hinv
                refine HC_region ?_
                all_goals refine HL_r rfl rfl rfl rfl (R_move rfl) ?_
                all_goals refine HL_r rfl rfl rfl rfl (R_move rfl) ?_
                all_goals refine HL_callP rfl rfl rfl (enters_of Try.func19 (by kernel_rfl) rfl) (P_ofN hf hi) ?_
                all_goals refine HL_r rfl rfl rfl rfl (R_move rfl) ?_
                all_goals refine HL_r rfl rfl rfl rfl (R_extract rfl rfl) ?_
                all_goals refine HL_r rfl rfl rfl rfl (R_extract rfl rfl) ?_
                all_goals refine HL_r rfl rfl rfl rfl (R_assign rfl) ?_
                all_goals refine HL_r rfl rfl rfl rfl (R_assign rfl) ?_
                all_goals refine HL_nil ?_
                all_goals (
                  refine HQ_then ?_
                  refine hK11 _ _ _ _ ?_; clear hK11 K11
                  refine HC_seq fun K12 hK12 => ?_
                  refine HC_region ?_
                  all_goals refine HL_r rfl rfl rfl rfl (R_move rfl) ?_
                  all_goals refine HL_r rfl rfl rfl rfl (R_pure rfl rfl rfl) ?_
                  all_goals refine HL_nil ?_
                  all_goals (
                    refine HQ_then ?_
                    refine hK12 _ _ _ _ ?_; clear hK12 K12
                    refine HC_cond rfl (fun h13 => ?_) (fun h13 => ?_)
                    · try exact Bool.noConfusion h13
                      all_goals try simp only [decide_eq_true_eq, decide_eq_false_iff_not, beq_iff_eq, beq_eq_false_iff_ne, bne_iff_ne, bne_eq_false_iff_eq, Bool.not_eq_true', Bool.not_eq_false', ne_eq, Int.not_lt, Int.not_le, ge_iff_le, gt_iff_lt] at h13
                      all_goals (
                        refine HC_exit ?_
                        refine HQ_thenE ?_; clear hK10 K10
                        refine HQ_blockE ?_
                        refine HQ_then ?_
                        refine hK8 _ _ _ _ ?_; clear hK8 K8
                        refine HC_region ?_
                        all_goals (refine HL_r rfl rfl rfl rfl (R_pure rfl rfl rfl) ?_; refine HL_wrap_i64 (by omega) (by omega) ?_)
                        all_goals refine HL_r rfl rfl rfl rfl (R_move rfl) ?_
                        all_goals refine HL_nil ?_
                        all_goals (
                          refine HQ_then ?_
                          first
                            | (exfalso; omega)
                            | (rw [if_neg (show ¬ (x.err ≠ 0) by omega), if_neg (show ¬ (y.err ≠ 0) by omega)] at hinv
                               exact HQ_again (i + 1, t.next y) ⟨by simp only; omega, hinv⟩ (by simp only; omega) (.cons rfl (.cons rfl (.cons rfl (.cons rfl (.cons rfl (.cons rfl .nil)))))) (.cons _ (.cons _ (List.Sublist.refl _))) (fun _ _ h => h))
                            | (rw [if_pos (by simp_all)] at hinv
                               exact HQ_again (i + 1, t) ⟨by simp only; omega, hinv⟩ (by simp only; omega) (.cons rfl (.cons rfl (.cons rfl (.cons rfl (.cons rfl (.cons rfl .nil)))))) (List.Sublist.refl _) (fun _ _ h => h))
                            | trace_state
                          skip)
                        skip)
                    · try exact Bool.noConfusion h13
                      all_goals try simp only [decide_eq_true_eq, decide_eq_false_iff_not, beq_iff_eq, beq_eq_false_iff_ne, bne_iff_ne, bne_eq_false_iff_eq, Bool.not_eq_true', Bool.not_eq_false', ne_eq, Int.not_lt, Int.not_le, ge_iff_le, gt_iff_lt] at h13
                      all_goals (
                        refine HC_skip ?_
                        refine HQ_then ?_
                        refine hK10 _ _ _ _ ?_; clear hK10 K10
                        refine HC_seq fun K14 hK14 => ?_
                        rw [if_neg (by simp_all)] at hinv
                        refine HC_drawB [] [(1, .pure), (2, .pure), (4, .pure), (5, .pure), (6, .pure), (7, .grow (geNew ptrV (.cells #[.string ⟨#[]⟩, .int .u64 0, .int .u64 0, .int .u64 0, .int .u64 0, .int .u64 0, .string ⟨#[]⟩, .slice none 0 0] 37 (0, 0)))), (8, .turn), (9, .pure)] 10 [0, 1, 2, 3, 4, 5, 6, 7, 8, 9] (by kernel_rfl) (by kernel_rfl) (by first | exact (fun _ h => nomatch h) | simp [SubS] | (intro p hp; simp [hp])) ?_
                        all_goals refine HB_r (k := 0) rfl rfl rfl rfl rfl (R_loadArr (xs := t.s.cells) (n := 1) rfl (known_L (k := 0) rfl) rfl rfl rfl) ?_
                        all_goals refine HB_p (k := 1) rfl rfl rfl rfl rfl (fun _ hS => (R_move rfl)) ?_
                        all_goals refine HB_callP (k := 2) rfl rfl rfl rfl rfl (enters_of Try.func8 (by kernel_rfl) rfl) (P_Addr i) ?_
                        all_goals refine HB_callR (k := 3) rfl rfl rfl rfl rfl (enters_of Try.func7 (by kernel_rfl) rfl) (S_Find t.ok (addrE i)) (fun q hq => (List.mem_append.1 hq).elim (fun h => Or.inl (List.mem_cons_of_mem _ (List.mem_cons_of_mem _ (List.mem_cons_of_mem _ h)))) Or.inr) ?_
                        all_goals refine HB_p (k := 4) rfl rfl rfl rfl rfl (fun _ hS => (R_move rfl)) ?_
                        all_goals refine HB_p (k := 5) rfl rfl rfl rfl rfl (fun _ hS => (R_extract rfl rfl)) ?_
                        all_goals refine HB_p (k := 6) rfl rfl rfl rfl rfl (fun _ hS => (R_extract rfl rfl)) ?_
                        all_goals refine HB_alloc (k := 7) (cs := #[_, _, _, _, _, _, _, _]) rfl rfl rfl rfl rfl rfl fun r3 => ?_
                        all_goals refine HB_storeArr (k := 8) (q := 0) (n := 8) (ys := (findL t.s (addrE i)).cells) rfl rfl rfl rfl rfl rfl rfl rfl rfl rfl rfl (fun _ h => nomatch h) ?_
                        all_goals refine HB_p (k := 9) rfl rfl rfl rfl rfl (fun _ hS => (R_assign rfl)) ?_
                        all_goals refine HB_end ?_
                        all_goals refine HL_nil ?_
                        all_goals (
                          refine HQ_then ?_
                          refine hK14 _ _ _ _ ?_; clear hK14 K14
                          refine HC_seq fun K15 hK15 => ?_
                          refine HC_region ?_
                          all_goals refine HL_r rfl rfl rfl rfl (R_move rfl) ?_
                          all_goals refine HL_callP rfl rfl rfl (enters_of Try.func8 (by kernel_rfl) rfl) (P_Addr i) ?_
                          all_goals refine HL_r rfl rfl rfl rfl (R_fieldAddr rfl rfl (by first | (simp only [Nat.zero_add, Nat.reduceAdd, Nat.reduceMul, Nat.zero_mul, Nat.mul_one, Nat.add_zero]; exact rfl) | exact rfl)) ?_
                          all_goals (refine HL_store (k := 0) rfl rfl rfl rfl rfl rfl rfl rfl (by first | (simp only [List.setIfInBounds_toArray, List.set_cons_zero, List.set_cons_succ]; exact rfl) | exact rfl) (by first | (simp only [List.set_cons_zero, List.set_cons_succ]; exact rfl) | exact rfl) ?_)
                          all_goals refine HL_nil ?_
                          all_goals (
                            refine HQ_then ?_
                            refine hK15 _ _ _ _ ?_; clear hK15 K15
                            refine HC_seq fun K16 hK16 => ?_
                            refine HC_region ?_
                            all_goals refine HL_r rfl rfl rfl rfl (R_move rfl) ?_
                            all_goals refine HL_r rfl rfl rfl rfl (R_move rfl) ?_
                            all_goals refine HL_r rfl rfl rfl rfl (R_loadA (vs := [_, _, _, _, _, _, _, _]) rfl (known_L (k := 0) rfl) rfl rfl rfl rfl) ?_
                            all_goals refine HL_callRE rfl rfl rfl egd (hdo i hi { findL t.s (addrE i) with addr := addrE i } (t.L ++ R) (fun q hq => List.mem_append_right _ hq) (addr_in (find_in t.ok (addrE i)) (addr_len i))) (fun q hq => (List.mem_append.1 hq).elim (fun h => Or.inl (List.mem_cons_of_mem _ (List.mem_cons_of_mem _ (List.mem_cons_of_mem _ (List.mem_cons_of_mem _ h))))) Or.inr) fun x => ?_
                            all_goals refine HL_perm (perm_mid x.L [_, _, _, _] t.L) ?_
                            all_goals change HL _ _ ((42, .tuple #[x.a.val, .int .i64 x.err]) :: _) ((r3, _) :: (r2, _) :: (r1, _) :: (rb, _) :: (x.L ++ t.L)) _ _ _ _
                            all_goals have hxe : (go i (oldE t.s.er i)).2 = x.err := by rw [← old_er]; exact (congrArg Prod.snd x.eq).symm
                            all_goals have hxa : (go i (oldE t.s.er i)).1 = x.a.er := by rw [← old_er]; exact (congrArg Prod.fst x.eq).symm
                            all_goals rw [hxe, hxa] at hinv
                            all_goals refine HL_r rfl rfl rfl rfl (R_move rfl) ?_
                            all_goals refine HL_r rfl rfl rfl rfl (R_extract rfl rfl) ?_
                            all_goals refine HL_r rfl rfl rfl rfl (R_extract rfl rfl) ?_
                            all_goals refine HL_alloc (cs := #[_, _, _, _, _, _, _, _]) rfl rfl rfl rfl fun r4 => ?_
                            all_goals refine HL_storeArr (k := 0) (n := 8) (ys := x.a.cells) rfl rfl rfl rfl rfl rfl rfl rfl rfl ?_
                            all_goals refine HL_r rfl rfl rfl rfl (R_assign rfl) ?_
                            all_goals refine HL_nil ?_
                            all_goals (
                              refine HQ_then ?_
                              refine hK16 _ _ _ _ ?_; clear hK16 K16
                              refine HC_seq fun K17 hK17 => ?_
                              refine HC_seq fun K18 hK18 => ?_
                              refine HC_region ?_
                              all_goals refine HL_r rfl rfl rfl rfl (R_move rfl) ?_
                              all_goals refine HL_r rfl rfl rfl rfl (R_pure rfl rfl rfl) ?_
                              all_goals refine HL_nil ?_
                              all_goals (
                                refine HQ_then ?_
                                refine hK18 _ _ _ _ ?_; clear hK18 K18
                                refine HC_cond rfl (fun h19 => ?_) (fun h19 => ?_)
                                · try exact Bool.noConfusion h19
                                  all_goals try simp only [decide_eq_true_eq, decide_eq_false_iff_not, beq_iff_eq, beq_eq_false_iff_ne, bne_iff_ne, bne_eq_false_iff_eq, Bool.not_eq_true', Bool.not_eq_false', ne_eq, Int.not_lt, Int.not_le, ge_iff_le, gt_iff_lt] at h19
                                  all_goals (
                                    refine HC_region ?_
                                    all_goals refine HL_r rfl rfl rfl rfl (R_loadArr (xs := t.s.cells) (n := 1) rfl (known_L (k := 2) rfl) rfl rfl rfl) ?_
                                    all_goals refine HL_r rfl rfl rfl rfl (R_loadArr (xs := x.a.cells) (n := 8) rfl (known_L (k := 0) rfl) rfl rfl rfl) ?_
                                    all_goals refine HL_callRE rfl rfl rfl (enters_of Try.func37 (by kernel_rfl) rfl) (S_Put (R := x.L ++ (t.L ++ R)) (t.ok.mono fun q hq => List.mem_append_right _ hq) x.ok) (fun q hq => (List.mem_append.1 hq).elim (fun h => Or.inl (List.mem_cons_of_mem _ (List.mem_cons_of_mem _ (List.mem_cons_of_mem _ (List.mem_cons_of_mem _ (List.mem_cons_of_mem _ (List.mem_append_left _ h))))))) fun hq => (List.mem_append.1 hq).elim (fun h => Or.inl (List.mem_cons_of_mem _ (List.mem_cons_of_mem _ (List.mem_cons_of_mem _ (List.mem_cons_of_mem _ (List.mem_cons_of_mem _ (List.mem_append_right _ h))))))) Or.inr) fun y => ?_
                                    all_goals refine HL_perm (perm_mid y.L [_, _, _, _, _] (x.L ++ t.L)) ?_
                                    all_goals change HL _ _ ((50, .tuple #[y.s.val, .int .i64 y.err]) :: _) ((r4, _) :: (r3, _) :: (r2, _) :: (r1, _) :: (rb, _) :: (y.L ++ (x.L ++ t.L))) _ _ _ _
                                    all_goals have hye : (putS t.s.er x.a.er).2 = y.err := (congrArg Prod.snd y.eq).symm
                                    all_goals have hys : (putS t.s.er x.a.er).1 = y.s.er := (congrArg Prod.fst y.eq).symm
                                    all_goals rw [hye, hys] at hinv
                                    all_goals refine HL_r rfl rfl rfl rfl (R_move rfl) ?_
                                    all_goals refine HL_r rfl rfl rfl rfl (R_extract rfl rfl) ?_
                                    all_goals refine HL_r rfl rfl rfl rfl (R_extract rfl rfl) ?_
                                    all_goals refine HL_storeArr (k := 2) (n := 1) (ys := y.s.cells) rfl rfl rfl rfl rfl rfl rfl rfl rfl ?_
                                    all_goals refine HL_r rfl rfl rfl rfl (R_assign rfl) ?_
                                    all_goals refine HL_nil ?_
                                    all_goals (
                                      refine HQ_then ?_
                                      refine hK17 _ _ _ _ ?_; clear hK17 K17
                                      refine HC_seq fun K20 hK20 => ?_
                                      refine HC_region ?_
                                      all_goals refine HL_r rfl rfl rfl rfl (R_move rfl) ?_
                                      all_goals refine HL_r rfl rfl rfl rfl (R_pure rfl rfl rfl) ?_
                                      all_goals refine HL_nil ?_
                                      all_goals (
                                        refine HQ_then ?_
                                        refine hK20 _ _ _ _ ?_; clear hK20 K20
                                        refine HC_cond rfl (fun h21 => ?_) (fun h21 => ?_)
                                        · try exact Bool.noConfusion h21
                                          all_goals try simp only [decide_eq_true_eq, decide_eq_false_iff_not, beq_iff_eq, beq_eq_false_iff_ne, bne_iff_ne, bne_eq_false_iff_eq, Bool.not_eq_true', Bool.not_eq_false', ne_eq, Int.not_lt, Int.not_le, ge_iff_le, gt_iff_lt] at h21
                                          all_goals (
                                            refine HC_seq fun K22 hK22 => ?_
                                            refine HC_region ?_
                                            all_goals refine HL_r rfl rfl rfl rfl (R_loadArr (xs := s.cells) (n := 1) rfl (known_L (k := 4) rfl) rfl rfl rfl) ?_
                                            all_goals refine HL_r rfl rfl rfl rfl (R_move rfl) ?_
                                            all_goals refine HL_storeArr (k := 3) (n := 1) (ys := s.cells) rfl rfl rfl rfl rfl rfl rfl rfl rfl ?_
                                            all_goals refine HL_r rfl rfl rfl rfl (R_assign rfl) ?_
                                            all_goals refine HL_nil ?_
                                            all_goals (
                                              refine HQ_then ?_
                                              refine hK22 _ _ _ _ ?_; clear hK22 K22
                                              refine HC_ret ?_
                                              refine HQ_blockR ?_
                                              refine HQ_thenR ?_; clear hK8 K8
                                              refine HQ_thenR ?_
                                              refine HQ_blockR ?_
                                              refine HQ_thenR ?_; clear hK3 K3
                                              first
                                                | refine HQ_post rfl rfl (.cons (res_cellA (vs := [_]) rfl (known_L (k := 0) rfl) rfl rfl) (.cons (res_tmp rfl) .nil)) (fun w1 hs1 => ?_)
                                                | refine HQ_post rfl rfl (.cons (res_cellA (vs := [_]) rfl (known_L (k := 1) rfl) rfl rfl) (.cons (res_tmp rfl) .nil)) (fun w1 hs1 => ?_)
                                                | refine HQ_post rfl rfl (.cons (res_cellA (vs := [_]) rfl (known_L (k := 2) rfl) rfl rfl) (.cons (res_tmp rfl) .nil)) (fun w1 hs1 => ?_)
                                                | refine HQ_post rfl rfl (.cons (res_cellA (vs := [_]) rfl (known_L (k := 3) rfl) rfl rfl) (.cons (res_tmp rfl) .nil)) (fun w1 hs1 => ?_)
                                                | refine HQ_post rfl rfl (.cons (res_cellA (vs := [_]) rfl (known_L (k := 4) rfl) rfl rfl) (.cons (res_tmp rfl) .nil)) (fun w1 hs1 => ?_)
                                              first
                                                | (rw [if_pos (show x.err ≠ 0 by omega)] at hinv
                                                   exact ⟨⟨s, x.err, [], hs, hinv⟩, rfl, hs1.weakL (List.nil_sublist _)⟩)
                                                | (rw [if_neg (show ¬ (x.err ≠ 0) by omega), if_pos (show y.err ≠ 0 by omega)] at hinv
                                                   exact ⟨⟨s, y.err, [], hs, hinv⟩, rfl, hs1.weakL (List.nil_sublist _)⟩)
                                                | (obtain rfl : i = 2 := by omega
                                                   exact ⟨⟨t.s, 0, t.L, t.ok, hinv⟩, rfl, hs1.weakL (.cons _ (.cons _ (.cons _ (List.Sublist.refl _))))⟩)
                                                | trace_state
                                              skip)
                                            skip)
                                        · try exact Bool.noConfusion h21
                                          all_goals try simp only [decide_eq_true_eq, decide_eq_false_iff_not, beq_iff_eq, beq_eq_false_iff_ne, bne_iff_ne, bne_eq_false_iff_eq, Bool.not_eq_true', Bool.not_eq_false', ne_eq, Int.not_lt, Int.not_le, ge_iff_le, gt_iff_lt] at h21
                                          all_goals (
                                            refine HC_skip ?_
                                            refine HQ_blockN ?_
                                            refine HQ_then ?_
                                            refine hK8 _ _ _ _ ?_; clear hK8 K8
                                            refine HC_region ?_
                                            all_goals (refine HL_r rfl rfl rfl rfl (R_pure rfl rfl rfl) ?_; refine HL_wrap_i64 (by omega) (by omega) ?_)
                                            all_goals refine HL_r rfl rfl rfl rfl (R_move rfl) ?_
                                            all_goals refine HL_nil ?_
                                            all_goals (
                                              refine HQ_then ?_
                                              first
                                                | (exfalso; omega)
                                                | (rw [if_neg (show ¬ (x.err ≠ 0) by omega), if_neg (show ¬ (y.err ≠ 0) by omega)] at hinv
                                                   exact HQ_again (i + 1, t.next y) ⟨by simp only; omega, hinv⟩ (by simp only; omega) (.cons rfl (.cons rfl (.cons rfl (.cons rfl (.cons rfl (.cons rfl .nil)))))) (.cons _ (.cons _ (List.Sublist.refl _))) (fun _ _ h => h))
                                                | (rw [if_pos (by simp_all)] at hinv
                                                   exact HQ_again (i + 1, t) ⟨by simp only; omega, hinv⟩ (by simp only; omega) (.cons rfl (.cons rfl (.cons rfl (.cons rfl (.cons rfl (.cons rfl .nil)))))) (List.Sublist.refl _) (fun _ _ h => h))
                                                | trace_state
                                              skip)
                                            skip)
                                        skip)
                                      skip)
                                    skip)
                                · try exact Bool.noConfusion h19
                                  all_goals try simp only [decide_eq_true_eq, decide_eq_false_iff_not, beq_iff_eq, beq_eq_false_iff_ne, bne_iff_ne, bne_eq_false_iff_eq, Bool.not_eq_true', Bool.not_eq_false', ne_eq, Int.not_lt, Int.not_le, ge_iff_le, gt_iff_lt] at h19
                                  all_goals (
                                    refine HC_skip ?_
                                    refine HQ_then ?_
                                    refine hK17 _ _ _ _ ?_; clear hK17 K17
                                    refine HC_seq fun K23 hK23 => ?_
                                    refine HC_region ?_
                                    all_goals refine HL_r rfl rfl rfl rfl (R_move rfl) ?_
                                    all_goals refine HL_r rfl rfl rfl rfl (R_pure rfl rfl rfl) ?_
                                    all_goals refine HL_nil ?_
                                    all_goals (
                                      refine HQ_then ?_
                                      refine hK23 _ _ _ _ ?_; clear hK23 K23
                                      refine HC_cond rfl (fun h24 => ?_) (fun h24 => ?_)
                                      · try exact Bool.noConfusion h24
                                        all_goals try simp only [decide_eq_true_eq, decide_eq_false_iff_not, beq_iff_eq, beq_eq_false_iff_ne, bne_iff_ne, bne_eq_false_iff_eq, Bool.not_eq_true', Bool.not_eq_false', ne_eq, Int.not_lt, Int.not_le, ge_iff_le, gt_iff_lt] at h24
                                        all_goals (
                                          refine HC_seq fun K25 hK25 => ?_
                                          refine HC_region ?_
                                          all_goals refine HL_r rfl rfl rfl rfl (R_loadArr (xs := s.cells) (n := 1) rfl (known_L (k := 4) rfl) rfl rfl rfl) ?_
                                          all_goals refine HL_r rfl rfl rfl rfl (R_move rfl) ?_
                                          all_goals refine HL_storeArr (k := 3) (n := 1) (ys := s.cells) rfl rfl rfl rfl rfl rfl rfl rfl rfl ?_
                                          all_goals refine HL_r rfl rfl rfl rfl (R_assign rfl) ?_
                                          all_goals refine HL_nil ?_
                                          all_goals (
                                            refine HQ_then ?_
                                            refine hK25 _ _ _ _ ?_; clear hK25 K25
                                            refine HC_ret ?_
                                            refine HQ_blockR ?_
                                            refine HQ_thenR ?_; clear hK8 K8
                                            refine HQ_thenR ?_
                                            refine HQ_blockR ?_
                                            refine HQ_thenR ?_; clear hK3 K3
                                            first
                                              | refine HQ_post rfl rfl (.cons (res_cellA (vs := [_]) rfl (known_L (k := 0) rfl) rfl rfl) (.cons (res_tmp rfl) .nil)) (fun w1 hs1 => ?_)
                                              | refine HQ_post rfl rfl (.cons (res_cellA (vs := [_]) rfl (known_L (k := 1) rfl) rfl rfl) (.cons (res_tmp rfl) .nil)) (fun w1 hs1 => ?_)
                                              | refine HQ_post rfl rfl (.cons (res_cellA (vs := [_]) rfl (known_L (k := 2) rfl) rfl rfl) (.cons (res_tmp rfl) .nil)) (fun w1 hs1 => ?_)
                                              | refine HQ_post rfl rfl (.cons (res_cellA (vs := [_]) rfl (known_L (k := 3) rfl) rfl rfl) (.cons (res_tmp rfl) .nil)) (fun w1 hs1 => ?_)
                                              | refine HQ_post rfl rfl (.cons (res_cellA (vs := [_]) rfl (known_L (k := 4) rfl) rfl rfl) (.cons (res_tmp rfl) .nil)) (fun w1 hs1 => ?_)
                                            first
                                              | (rw [if_pos (show x.err ≠ 0 by omega)] at hinv
                                                 exact ⟨⟨s, x.err, [], hs, hinv⟩, rfl, hs1.weakL (List.nil_sublist _)⟩)
                                              | (rw [if_neg (show ¬ (x.err ≠ 0) by omega), if_pos (show y.err ≠ 0 by omega)] at hinv
                                                 exact ⟨⟨s, y.err, [], hs, hinv⟩, rfl, hs1.weakL (List.nil_sublist _)⟩)
                                              | (obtain rfl : i = 2 := by omega
                                                 exact ⟨⟨t.s, 0, t.L, t.ok, hinv⟩, rfl, hs1.weakL (.cons _ (.cons _ (.cons _ (List.Sublist.refl _))))⟩)
                                              | trace_state
                                            skip)
                                          skip)
                                      · try exact Bool.noConfusion h24
                                        all_goals try simp only [decide_eq_true_eq, decide_eq_false_iff_not, beq_iff_eq, beq_eq_false_iff_ne, bne_iff_ne, bne_eq_false_iff_eq, Bool.not_eq_true', Bool.not_eq_false', ne_eq, Int.not_lt, Int.not_le, ge_iff_le, gt_iff_lt] at h24
                                        all_goals (
                                          refine HC_skip ?_
                                          refine HQ_blockN ?_
                                          refine HQ_then ?_
                                          refine hK8 _ _ _ _ ?_; clear hK8 K8
                                          refine HC_region ?_
                                          all_goals (refine HL_r rfl rfl rfl rfl (R_pure rfl rfl rfl) ?_; refine HL_wrap_i64 (by omega) (by omega) ?_)
                                          all_goals refine HL_r rfl rfl rfl rfl (R_move rfl) ?_
                                          all_goals refine HL_nil ?_
                                          all_goals (
                                            refine HQ_then ?_
                                            first
                                              | (exfalso; omega)
                                              | (rw [if_neg (show ¬ (x.err ≠ 0) by omega), if_neg (show ¬ (y.err ≠ 0) by omega)] at hinv
                                                 exact HQ_again (i + 1, t.next y) ⟨by simp only; omega, hinv⟩ (by simp only; omega) (.cons rfl (.cons rfl (.cons rfl (.cons rfl (.cons rfl (.cons rfl .nil)))))) (.cons _ (.cons _ (List.Sublist.refl _))) (fun _ _ h => h))
                                              | (rw [if_pos (by simp_all)] at hinv
                                                 exact HQ_again (i + 1, t) ⟨by simp only; omega, hinv⟩ (by simp only; omega) (.cons rfl (.cons rfl (.cons rfl (.cons rfl (.cons rfl (.cons rfl .nil)))))) (List.Sublist.refl _) (fun _ _ h => h))
                                              | trace_state
                                            skip)
                                          skip)
                                      skip)
                                    skip)
                                skip)
                              skip)
                            skip)
                          skip)
                        skip)
                    skip)
                  skip)
                skip)
              skip)
          · try exact Bool.noConfusion h7
            all_goals try simp only [decide_eq_true_eq, decide_eq_false_iff_not, beq_iff_eq, beq_eq_false_iff_ne, bne_iff_ne, bne_eq_false_iff_eq, Bool.not_eq_true', Bool.not_eq_false', ne_eq, Int.not_lt, Int.not_le, ge_iff_le, gt_iff_lt] at h7
            all_goals (
              refine HC_exit ?_
              refine HQ_thenE ?_; clear hK6 K6
              refine HQ_thenE ?_
              refine HQ_blockE ?_
              refine HQ_then ?_
              refine hK3 _ _ _ _ ?_; clear hK3 K3
              refine HC_seq fun K26 hK26 => ?_
              refine HC_region ?_
              all_goals refine HL_r rfl rfl rfl rfl (R_loadArr (xs := t.s.cells) (n := 1) rfl (known_L (k := 0) rfl) rfl rfl rfl) ?_
              all_goals refine HL_storeArr (k := 1) (n := 1) (ys := t.s.cells) rfl rfl rfl rfl rfl rfl rfl rfl rfl ?_
              all_goals refine HL_r rfl rfl rfl rfl (R_assign rfl) ?_
              all_goals refine HL_nil ?_
              all_goals (
                refine HQ_then ?_
                refine hK26 _ _ _ _ ?_; clear hK26 K26
                refine HC_ret ?_
                first
                  | refine HQ_post rfl rfl (.cons (res_cellA (vs := [_]) rfl (known_L (k := 0) rfl) rfl rfl) (.cons (res_tmp rfl) .nil)) (fun w1 hs1 => ?_)
                  | refine HQ_post rfl rfl (.cons (res_cellA (vs := [_]) rfl (known_L (k := 1) rfl) rfl rfl) (.cons (res_tmp rfl) .nil)) (fun w1 hs1 => ?_)
                  | refine HQ_post rfl rfl (.cons (res_cellA (vs := [_]) rfl (known_L (k := 2) rfl) rfl rfl) (.cons (res_tmp rfl) .nil)) (fun w1 hs1 => ?_)
                  | refine HQ_post rfl rfl (.cons (res_cellA (vs := [_]) rfl (known_L (k := 3) rfl) rfl rfl) (.cons (res_tmp rfl) .nil)) (fun w1 hs1 => ?_)
                  | refine HQ_post rfl rfl (.cons (res_cellA (vs := [_]) rfl (known_L (k := 4) rfl) rfl rfl) (.cons (res_tmp rfl) .nil)) (fun w1 hs1 => ?_)
                first
                  | (rw [if_pos (show x.err ≠ 0 by omega)] at hinv
                     exact ⟨⟨s, x.err, [], hs, hinv⟩, rfl, hs1.weakL (List.nil_sublist _)⟩)
                  | (rw [if_neg (show ¬ (x.err ≠ 0) by omega), if_pos (show y.err ≠ 0 by omega)] at hinv
                     exact ⟨⟨s, y.err, [], hs, hinv⟩, rfl, hs1.weakL (List.nil_sublist _)⟩)
                  | (obtain rfl : i = 2 := by omega
                     exact ⟨⟨t.s, 0, t.L, t.ok, hinv⟩, rfl, hs1.weakL (.cons _ (.cons _ (.cons _ (List.Sublist.refl _))))⟩)
                  | trace_state
                skip)
              skip)
          skip)
        skip)
      skip)
    skip)
set_option maxRecDepth 10000 in
theorem S_Write {R : List (Nat × Obj)} (f : Int) {s : StL} (hs : s.In R) {r : Rec} (hr : r.ok) : PureT (α := StRes R (writeE f s.er r)) Try.prog 6 [.int .i64 f, s.val, r.val].toArray (fun x => x.val) [] (fun x => x.L) R := by
  have hc := S_Check hs
  obtain ⟨res, hres⟩ : ∃ res, res = changeE f s.er fun w a => codedE f w a r := ⟨_, rfl⟩
  have hwr : writeE f s.er r = if fitsE f r ≠ 0 then (s.er, fitsE f r) else if chkS s.er ≠ 0 then (s.er, chkS s.er) else res := by rw [hres]; rfl
  rw [hwr]
  refine pureT_of_HC Try.func6 rfl rfl fun w => ?_
  refine HC_seq fun K1 hK1 => ?_
  refine HC_region ?_
  all_goals refine HL_box (cs := #[_]) rfl rfl rfl rfl fun r1 => ?_
  all_goals refine HL_box (cs := s.cells.toArray) rfl rfl rfl rfl fun rs => ?_
  all_goals refine HL_box (cs := r.cells.toArray) rfl rfl rfl rfl fun rr => ?_
  all_goals refine HL_alloc (cs := #[_]) rfl rfl rfl rfl fun r2 => ?_
  all_goals refine HL_r rfl rfl rfl rfl (R_assign rfl) ?_
  all_goals refine HL_nil ?_
  all_goals (
    refine HQ_then ?_
    refine hK1 _ _ _ _ ?_; clear hK1 K1
    refine HC_seq fun K2 hK2 => ?_
    refine HC_seq fun K3 hK3 => ?_
    refine HC_region ?_
    all_goals (refine HL_r rfl rfl rfl rfl (R_load rfl (known_L (k := 3) rfl) rfl rfl) ?_)
    all_goals refine HL_r rfl rfl rfl rfl (R_loadArr (xs := r.cells) (n := 17) rfl (known_L (k := 1) rfl) rfl rfl rfl) ?_
    all_goals refine HL_callP rfl rfl rfl (enters_of Try.func13 (by kernel_rfl) rfl) (P_Fits f r) ?_
    all_goals refine HL_r rfl rfl rfl rfl (R_assign rfl) ?_
    all_goals refine HL_nil ?_
    all_goals (
      refine HQ_then ?_
      refine hK3 _ _ _ _ ?_; clear hK3 K3
      refine HC_seq fun K4 hK4 => ?_
      refine HC_region ?_
      all_goals refine HL_r rfl rfl rfl rfl (R_move rfl) ?_
      all_goals refine HL_r rfl rfl rfl rfl (R_pure rfl rfl rfl) ?_
      all_goals refine HL_nil ?_
      all_goals (
        refine HQ_then ?_
        refine hK4 _ _ _ _ ?_; clear hK4 K4
        refine HC_cond rfl (fun h5 => ?_) (fun h5 => ?_)
        · try exact Bool.noConfusion h5
          all_goals try simp only [decide_eq_true_eq, decide_eq_false_iff_not, beq_iff_eq, beq_eq_false_iff_ne, bne_iff_ne, bne_eq_false_iff_eq, Bool.not_eq_true', Bool.not_eq_false', ne_eq, Int.not_lt, Int.not_le, ge_iff_le, gt_iff_lt] at h5
          all_goals (
            refine HC_seq fun K6 hK6 => ?_
            refine HC_region ?_
            all_goals (refine HL_r rfl rfl rfl rfl (R_loadA (vs := [_]) rfl (known_L (k := 2) rfl) rfl rfl rfl rfl) ?_)
            all_goals refine HL_r rfl rfl rfl rfl (R_move rfl) ?_
            all_goals (refine HL_storeA (k := 0) (n := 1) (cs' := #[_]) (vs := #[_]) rfl rfl rfl rfl rfl rfl rfl (by exact Nat.le_of_ble_eq_true rfl) rfl (by first | (simp only [List.set_cons_zero, List.set_cons_succ]; exact rfl) | exact rfl) ?_)
            all_goals refine HL_r rfl rfl rfl rfl (R_assign rfl) ?_
            all_goals refine HL_nil ?_
            all_goals (
              refine HQ_then ?_
              refine hK6 _ _ _ _ ?_; clear hK6 K6
              refine HC_ret ?_
              refine HQ_thenR ?_; clear hK2 K2
              first
                | refine HQ_post rfl rfl (.cons (res_cellA (vs := [_]) rfl (known_L (k := 0) rfl) rfl rfl) (.cons (res_tmp rfl) .nil)) (fun w1 hs1 => ?_)
                | refine HQ_post rfl rfl (.cons (res_cellA (vs := [_]) rfl (known_L (k := 1) rfl) rfl rfl) (.cons (res_tmp rfl) .nil)) (fun w1 hs1 => ?_)
                | refine HQ_post rfl rfl (.cons (res_cellA (vs := [_]) rfl (known_L (k := 2) rfl) rfl rfl) (.cons (res_tmp rfl) .nil)) (fun w1 hs1 => ?_)
                | refine HQ_post rfl rfl (.cons (res_cellA (vs := [_]) rfl (known_L (k := 3) rfl) rfl rfl) (.cons (res_tmp rfl) .nil)) (fun w1 hs1 => ?_)
              first
                | (rw [if_pos (by omega)]; exact ⟨⟨s, fitsE f r, [], hs, rfl⟩, rfl, hs1.weakL (List.nil_sublist _)⟩)
                | (rw [if_neg (by omega), if_pos (by omega)]; exact ⟨⟨s, chkS s.er, [], hs, rfl⟩, rfl, hs1.weakL (List.nil_sublist _)⟩)
                | (rw [if_neg (by omega), if_neg (by omega), hres]
                   exact ⟨⟨x.s, x.err, x.L ++ [(rr, Obj.cells r.cells.toArray 29 (0, 0)), (r1, Obj.cells #[.int .i64 f] 3 (0, 0))], x.ok.mono fun q hq => by simp only [List.mem_append, List.mem_cons, List.not_mem_nil, or_false] at hq ⊢; rcases hq with h | h | h | h <;> simp [h], x.eq⟩, rfl, (hs1.perm (L' := x.L ++ [_, _, _, _]) (List.perm_append_comm (l₁ := [_, _, _, _]))).weakL ((List.Sublist.refl _).append (.cons _ (.cons_cons _ (.cons _ (List.Sublist.refl _)))))⟩)
                | trace_state
              skip)
            skip)
        · try exact Bool.noConfusion h5
          all_goals try simp only [decide_eq_true_eq, decide_eq_false_iff_not, beq_iff_eq, beq_eq_false_iff_ne, bne_iff_ne, bne_eq_false_iff_eq, Bool.not_eq_true', Bool.not_eq_false', ne_eq, Int.not_lt, Int.not_le, ge_iff_le, gt_iff_lt] at h5
          all_goals (
            refine HC_skip ?_
            refine HQ_then ?_
            refine hK2 _ _ _ _ ?_; clear hK2 K2
            refine HC_seq fun K7 hK7 => ?_
            refine HC_seq fun K8 hK8 => ?_
            refine HC_region ?_
            all_goals (refine HL_r rfl rfl rfl rfl (R_loadA (vs := [_]) rfl (known_L (k := 2) rfl) rfl rfl rfl rfl) ?_)
            all_goals refine HL_callR rfl rfl rfl (enters_of Try.func16 (by kernel_rfl) rfl) hc (fun q hq => Or.inr hq) ?_
            all_goals refine HL_r rfl rfl rfl rfl (R_assign rfl) ?_
            all_goals refine HL_nil ?_
            all_goals (
              refine HQ_then ?_
              refine hK8 _ _ _ _ ?_; clear hK8 K8
              refine HC_seq fun K9 hK9 => ?_
              refine HC_region ?_
              all_goals refine HL_r rfl rfl rfl rfl (R_move rfl) ?_
              all_goals refine HL_r rfl rfl rfl rfl (R_pure rfl rfl rfl) ?_
              all_goals refine HL_nil ?_
              all_goals (
                refine HQ_then ?_
                refine hK9 _ _ _ _ ?_; clear hK9 K9
                refine HC_cond rfl (fun h10 => ?_) (fun h10 => ?_)
                · try exact Bool.noConfusion h10
                  all_goals try simp only [decide_eq_true_eq, decide_eq_false_iff_not, beq_iff_eq, beq_eq_false_iff_ne, bne_iff_ne, bne_eq_false_iff_eq, Bool.not_eq_true', Bool.not_eq_false', ne_eq, Int.not_lt, Int.not_le, ge_iff_le, gt_iff_lt] at h10
                  all_goals (
                    refine HC_seq fun K11 hK11 => ?_
                    refine HC_region ?_
                    all_goals (refine HL_r rfl rfl rfl rfl (R_loadA (vs := [_]) rfl (known_L (k := 2) rfl) rfl rfl rfl rfl) ?_)
                    all_goals refine HL_r rfl rfl rfl rfl (R_move rfl) ?_
                    all_goals (refine HL_storeA (k := 0) (n := 1) (cs' := #[_]) (vs := #[_]) rfl rfl rfl rfl rfl rfl rfl (by exact Nat.le_of_ble_eq_true rfl) rfl (by first | (simp only [List.set_cons_zero, List.set_cons_succ]; exact rfl) | exact rfl) ?_)
                    all_goals refine HL_r rfl rfl rfl rfl (R_assign rfl) ?_
                    all_goals refine HL_nil ?_
                    all_goals (
                      refine HQ_then ?_
                      refine hK11 _ _ _ _ ?_; clear hK11 K11
                      refine HC_ret ?_
                      refine HQ_thenR ?_; clear hK7 K7
                      first
                        | refine HQ_post rfl rfl (.cons (res_cellA (vs := [_]) rfl (known_L (k := 0) rfl) rfl rfl) (.cons (res_tmp rfl) .nil)) (fun w1 hs1 => ?_)
                        | refine HQ_post rfl rfl (.cons (res_cellA (vs := [_]) rfl (known_L (k := 1) rfl) rfl rfl) (.cons (res_tmp rfl) .nil)) (fun w1 hs1 => ?_)
                        | refine HQ_post rfl rfl (.cons (res_cellA (vs := [_]) rfl (known_L (k := 2) rfl) rfl rfl) (.cons (res_tmp rfl) .nil)) (fun w1 hs1 => ?_)
                        | refine HQ_post rfl rfl (.cons (res_cellA (vs := [_]) rfl (known_L (k := 3) rfl) rfl rfl) (.cons (res_tmp rfl) .nil)) (fun w1 hs1 => ?_)
                      first
                        | (rw [if_pos (by omega)]; exact ⟨⟨s, fitsE f r, [], hs, rfl⟩, rfl, hs1.weakL (List.nil_sublist _)⟩)
                        | (rw [if_neg (by omega), if_pos (by omega)]; exact ⟨⟨s, chkS s.er, [], hs, rfl⟩, rfl, hs1.weakL (List.nil_sublist _)⟩)
                        | (rw [if_neg (by omega), if_neg (by omega), hres]
                           exact ⟨⟨x.s, x.err, x.L ++ [(rr, Obj.cells r.cells.toArray 29 (0, 0)), (r1, Obj.cells #[.int .i64 f] 3 (0, 0))], x.ok.mono fun q hq => by simp only [List.mem_append, List.mem_cons, List.not_mem_nil, or_false] at hq ⊢; rcases hq with h | h | h | h <;> simp [h], x.eq⟩, rfl, (hs1.perm (L' := x.L ++ [_, _, _, _]) (List.perm_append_comm (l₁ := [_, _, _, _]))).weakL ((List.Sublist.refl _).append (.cons _ (.cons_cons _ (.cons _ (List.Sublist.refl _)))))⟩)
                        | trace_state
                      skip)
                    skip)
                · try exact Bool.noConfusion h10
                  all_goals try simp only [decide_eq_true_eq, decide_eq_false_iff_not, beq_iff_eq, beq_eq_false_iff_ne, bne_iff_ne, bne_eq_false_iff_eq, Bool.not_eq_true', Bool.not_eq_false', ne_eq, Int.not_lt, Int.not_le, ge_iff_le, gt_iff_lt] at h10
                  all_goals (
                    refine HC_skip ?_
                    refine HQ_then ?_
                    refine hK7 _ _ _ _ ?_; clear hK7 K7
                    refine HC_seq fun K12 hK12 => ?_
                    have hf : Forked f := (fits_ok (show fitsE f r = 0 by omega)).1
                    have hch := S_change (R := (rr, Obj.cells r.cells.toArray 29 (0, 0)) :: (r1, Obj.cells #[.int .i64 f] 3 (0, 0)) :: R) (hs.mono fun q hq => List.mem_cons_of_mem _ (List.mem_cons_of_mem _ hq)) hf (gd := 18) (capsd := [ptV r1 0, ptV rr 0]) (go := fun w a => codedE f w a r) (enters_of Try.func18 (by kernel_rfl) rfl) (fun w hw a R2 hR2 ha => S_wdo hf hr (hR2 _ (List.mem_cons_of_mem _ List.mem_cons_self)) (hR2 _ List.mem_cons_self) hw ha)
                    refine HC_region ?_
                    all_goals (refine HL_r rfl rfl rfl rfl (R_load rfl (known_L (k := 3) rfl) rfl rfl) ?_)
                    all_goals (refine HL_r rfl rfl rfl rfl (R_loadA (vs := [_]) rfl (known_L (k := 2) rfl) rfl rfl rfl rfl) ?_)
                    all_goals refine HL_r rfl rfl rfl rfl (R_makeFunc rfl rfl) ?_
                    all_goals refine HL_callRE (Rl := (rr, Obj.cells r.cells.toArray 29 (0, 0)) :: (r1, Obj.cells #[.int .i64 f] 3 (0, 0)) :: R) rfl rfl rfl (enters_of Try.func17 (by kernel_rfl) rfl) hch (fun q hq => by
                      rcases List.mem_cons.1 hq with rfl | hq
                      · exact Or.inl (by simp)
                      · rcases List.mem_cons.1 hq with rfl | hq
                        · exact Or.inl (by simp)
                        · exact Or.inr hq) fun x => ?_
                    all_goals refine HL_perm List.perm_append_comm ?_
                    all_goals change HL _ _ ((26, .tuple #[x.s.val, .int .i64 x.err]) :: _) ((r2, _) :: (rr, _) :: (rs, _) :: (r1, _) :: x.L) _ _ _ _
                    all_goals refine HL_r rfl rfl rfl rfl (R_extract rfl rfl) ?_
                    all_goals refine HL_r rfl rfl rfl rfl (R_extract rfl rfl) ?_
                    all_goals refine HL_storeArr (k := 0) (n := 1) (ys := x.s.cells) rfl rfl rfl rfl rfl rfl rfl rfl rfl ?_
                    all_goals refine HL_r rfl rfl rfl rfl (R_assign rfl) ?_
                    all_goals refine HL_nil ?_
                    all_goals (
                      refine HQ_then ?_
                      refine hK12 _ _ _ _ ?_; clear hK12 K12
                      refine HC_ret ?_
                      first
                        | refine HQ_post rfl rfl (.cons (res_cellA (vs := [_]) rfl (known_L (k := 0) rfl) rfl rfl) (.cons (res_tmp rfl) .nil)) (fun w1 hs1 => ?_)
                        | refine HQ_post rfl rfl (.cons (res_cellA (vs := [_]) rfl (known_L (k := 1) rfl) rfl rfl) (.cons (res_tmp rfl) .nil)) (fun w1 hs1 => ?_)
                        | refine HQ_post rfl rfl (.cons (res_cellA (vs := [_]) rfl (known_L (k := 2) rfl) rfl rfl) (.cons (res_tmp rfl) .nil)) (fun w1 hs1 => ?_)
                        | refine HQ_post rfl rfl (.cons (res_cellA (vs := [_]) rfl (known_L (k := 3) rfl) rfl rfl) (.cons (res_tmp rfl) .nil)) (fun w1 hs1 => ?_)
                      first
                        | (rw [if_pos (by omega)]; exact ⟨⟨s, fitsE f r, [], hs, rfl⟩, rfl, hs1.weakL (List.nil_sublist _)⟩)
                        | (rw [if_neg (by omega), if_pos (by omega)]; exact ⟨⟨s, chkS s.er, [], hs, rfl⟩, rfl, hs1.weakL (List.nil_sublist _)⟩)
                        | (rw [if_neg (by omega), if_neg (by omega), hres]
                           exact ⟨⟨x.s, x.err, x.L ++ [(rr, Obj.cells r.cells.toArray 29 (0, 0)), (r1, Obj.cells #[.int .i64 f] 3 (0, 0))], x.ok.mono fun q hq => by simp only [List.mem_append, List.mem_cons, List.not_mem_nil, or_false] at hq ⊢; rcases hq with h | h | h | h <;> simp [h], x.eq⟩, rfl, (hs1.perm (L' := x.L ++ [_, _, _, _]) (List.perm_append_comm (l₁ := [_, _, _, _]))).weakL ((List.Sublist.refl _).append (.cons _ (.cons_cons _ (.cons _ (List.Sublist.refl _)))))⟩)
                        | trace_state
                      skip)
                    skip)
                skip)
              skip)
            skip)
        skip)
      skip)
    skip)
set_option maxRecDepth 10000 in
theorem S_lRead {R : List (Nat × Obj)} (f : Int) {s : StL} (hs : s.In R) : PureR Try.prog 11 [.int .i64 f, s.val].toArray (.tuple #[(readS f s.er).1.val, .int .i64 (readS f s.er).2]) R := by
  have hc := S_lCheck f hs
  have hA := find_in hs A0
  have hrs : readS f s.er = if checkE f s.er ≠ 0 then (rec0, checkE f s.er) else (readE f (findL s A0).er, 0) := by rw [find_er]; rfl
  rw [hrs]
  refine pureR_of_HC Try.func11 rfl rfl fun w => ?_
  refine HC_seq fun K1 hK1 => ?_
  refine HC_region ?_
  all_goals refine HL_box (cs := s.cells.toArray) rfl rfl rfl rfl fun rs => ?_
  all_goals refine HL_alloc (cs := #[_, _, _, _, _, _, _, _, _, _, _, _, _, _, _, _, _]) rfl rfl rfl rfl fun r1 => ?_
  all_goals refine HL_r rfl rfl rfl rfl (R_assign rfl) ?_
  all_goals refine HL_nil ?_
  all_goals (
    refine HQ_then ?_
    refine hK1 _ _ _ _ ?_; clear hK1 K1
    refine HC_seq fun K2 hK2 => ?_
    refine HC_seq fun K3 hK3 => ?_
    refine HC_region ?_
    all_goals refine HL_r rfl rfl rfl rfl (R_move rfl) ?_
    all_goals (refine HL_r rfl rfl rfl rfl (R_loadA (vs := [_]) rfl (known_L (k := 1) rfl) rfl rfl rfl rfl) ?_)
    all_goals refine HL_callR rfl rfl rfl (enters_of Try.func14 (by kernel_rfl) rfl) hc (fun q hq => Or.inr hq) ?_
    all_goals refine HL_r rfl rfl rfl rfl (R_assign rfl) ?_
    all_goals refine HL_nil ?_
    all_goals (
      refine HQ_then ?_
      refine hK3 _ _ _ _ ?_; clear hK3 K3
      refine HC_seq fun K4 hK4 => ?_
      refine HC_region ?_
      all_goals refine HL_r rfl rfl rfl rfl (R_move rfl) ?_
      all_goals refine HL_r rfl rfl rfl rfl (R_pure rfl rfl rfl) ?_
      all_goals refine HL_nil ?_
      all_goals (
        refine HQ_then ?_
        refine hK4 _ _ _ _ ?_; clear hK4 K4
        refine HC_cond rfl (fun h5 => ?_) (fun h5 => ?_)
        · try exact Bool.noConfusion h5
          all_goals try simp only [decide_eq_true_eq, decide_eq_false_iff_not, beq_iff_eq, beq_eq_false_iff_ne, bne_iff_ne, bne_eq_false_iff_eq, Bool.not_eq_true', Bool.not_eq_false', ne_eq, Int.not_lt, Int.not_le, ge_iff_le, gt_iff_lt] at h5
          all_goals (
            refine HC_seq fun K6 hK6 => ?_
            refine HC_region ?_
            all_goals refine HL_r rfl rfl rfl rfl (R_build (r := [_, _, _, _, _, _, _, _, _, _, _, _, _, _, _, _, _]) rfl rfl) ?_
            all_goals refine HL_r rfl rfl rfl rfl (R_move rfl) ?_
            all_goals (refine HL_storeA (k := 0) (n := 17) (cs' := #[_, _, _, _, _, _, _, _, _, _, _, _, _, _, _, _, _]) (vs := #[_, _, _, _, _, _, _, _, _, _, _, _, _, _, _, _, _]) rfl rfl rfl rfl rfl rfl rfl (by exact Nat.le_of_ble_eq_true rfl) rfl (by first | (simp only [List.set_cons_zero, List.set_cons_succ]; exact rfl) | exact rfl) ?_)
            all_goals refine HL_r rfl rfl rfl rfl (R_assign rfl) ?_
            all_goals refine HL_nil ?_
            all_goals (
              refine HQ_then ?_
              refine hK6 _ _ _ _ ?_; clear hK6 K6
              refine HC_ret ?_
              refine HQ_thenR ?_; clear hK2 K2
              first
                | refine HQ_post rfl rfl (.cons (res_cellA (vs := [_, _, _, _, _, _, _, _, _, _, _, _, _, _, _, _, _]) rfl (known_L (k := 0) rfl) rfl rfl) (.cons (res_tmp rfl) .nil)) (fun w1 hs1 => ?_)
                | refine HQ_post rfl rfl (.cons (res_cellA (vs := [_, _, _, _, _, _, _, _, _, _, _, _, _, _, _, _, _]) rfl (known_L (k := 1) rfl) rfl rfl) (.cons (res_tmp rfl) .nil)) (fun w1 hs1 => ?_)
                | refine HQ_post rfl rfl (.cons (res_cellA (vs := [_, _, _, _, _, _, _, _, _, _, _, _, _, _, _, _, _]) rfl (known_L (k := 2) rfl) rfl rfl) (.cons (res_tmp rfl) .nil)) (fun w1 hs1 => ?_)
                | refine HQ_post rfl rfl (.cons (res_cellA (vs := [_, _, _, _, _, _, _, _, _, _, _, _, _, _, _, _, _]) rfl (known_L (k := 3) rfl) rfl rfl) (.cons (res_tmp rfl) .nil)) (fun w1 hs1 => ?_)
              first
                | (rw [if_pos (by omega)]; exact ⟨rfl, hs1.keep⟩)
                | (rw [if_neg (by omega)]; exact ⟨rfl, hs1.keep⟩)
                | trace_state
              skip)
            skip)
        · try exact Bool.noConfusion h5
          all_goals try simp only [decide_eq_true_eq, decide_eq_false_iff_not, beq_iff_eq, beq_eq_false_iff_ne, bne_iff_ne, bne_eq_false_iff_eq, Bool.not_eq_true', Bool.not_eq_false', ne_eq, Int.not_lt, Int.not_le, ge_iff_le, gt_iff_lt] at h5
          all_goals (
            refine HC_skip ?_
            refine HQ_then ?_
            refine hK2 _ _ _ _ ?_; clear hK2 K2
            refine HC_seq fun K7 hK7 => ?_
            have hrd := S_read (f := f) (by
              obtain ⟨a, ha⟩ := check_ok.1 (show checkE f s.er = 0 by omega)
              exact ha.forked) hA
            refine HC_drawB [] [(1, .pure), (3, .pure), (4, .pure), (5, .pure), (6, .grow (geNew ptrV (.cells #[.string ⟨#[]⟩, .int .u64 0, .int .u64 0, .int .u64 0, .int .u64 0, .int .u64 0, .string ⟨#[]⟩, .slice none 0 0] 37 (0, 0)))), (7, .turn), (8, .pure)] 9 [0, 1, 2, 3, 4, 5, 6, 7, 8] (by kernel_rfl) (by kernel_rfl) (by first | exact (fun _ h => nomatch h) | simp [SubS] | (intro p hp; simp [hp])) ?_
            all_goals (refine HB_r (k := 0) rfl rfl rfl rfl rfl (R_loadA (vs := [_]) rfl (known_L (k := 1) rfl) rfl rfl rfl rfl) ?_)
            all_goals refine HB_callP (k := 1) rfl rfl rfl rfl rfl (enters_of Try.func8 (by kernel_rfl) rfl) (P_Addr 0) ?_
            all_goals refine HB_callR (k := 2) rfl rfl rfl rfl rfl (enters_of Try.func7 (by kernel_rfl) rfl) (S_Find hs A0) (fun q hq => Or.inr hq) ?_
            all_goals refine HB_p (k := 3) rfl rfl rfl rfl rfl (fun _ hS => (R_move rfl)) ?_
            all_goals refine HB_p (k := 4) rfl rfl rfl rfl rfl (fun _ hS => (R_extract rfl rfl)) ?_
            all_goals refine HB_p (k := 5) rfl rfl rfl rfl rfl (fun _ hS => (R_extract rfl rfl)) ?_
            all_goals refine HB_alloc (k := 6) (cs := #[_, _, _, _, _, _, _, _]) rfl rfl rfl rfl rfl rfl fun r2 => ?_
            all_goals refine HB_storeArr (k := 7) (q := 0) (n := 8) (ys := (findL s A0).cells) rfl rfl rfl rfl rfl rfl rfl rfl rfl rfl rfl (fun _ h => nomatch h) ?_
            all_goals refine HB_p (k := 8) rfl rfl rfl rfl rfl (fun _ hS => (R_assign rfl)) ?_
            all_goals refine HB_end ?_
            all_goals refine HL_nil ?_
            all_goals (
              refine HQ_then ?_
              refine hK7 _ _ _ _ ?_; clear hK7 K7
              refine HC_seq fun K8 hK8 => ?_
              refine HC_region ?_
              all_goals refine HL_r rfl rfl rfl rfl (R_move rfl) ?_
              all_goals refine HL_r rfl rfl rfl rfl (R_loadArr (xs := (findL s A0).cells) (n := 8) rfl (known_L (k := 0) rfl) rfl rfl rfl) ?_
              all_goals refine HL_callR rfl rfl rfl (enters_of Try.func29 (by kernel_rfl) rfl) hrd (fun q hq => Or.inr hq) ?_
              all_goals refine HL_storeArr (k := 1) (n := 17) (ys := (readE f (findL s A0).er).cells) rfl rfl rfl rfl rfl rfl rfl rfl rfl ?_
              all_goals refine HL_r rfl rfl rfl rfl (R_assign rfl) ?_
              all_goals refine HL_nil ?_
              all_goals (
                refine HQ_then ?_
                refine hK8 _ _ _ _ ?_; clear hK8 K8
                refine HC_ret ?_
                first
                  | refine HQ_post rfl rfl (.cons (res_cellA (vs := [_, _, _, _, _, _, _, _, _, _, _, _, _, _, _, _, _]) rfl (known_L (k := 0) rfl) rfl rfl) (.cons (res_tmp rfl) .nil)) (fun w1 hs1 => ?_)
                  | refine HQ_post rfl rfl (.cons (res_cellA (vs := [_, _, _, _, _, _, _, _, _, _, _, _, _, _, _, _, _]) rfl (known_L (k := 1) rfl) rfl rfl) (.cons (res_tmp rfl) .nil)) (fun w1 hs1 => ?_)
                  | refine HQ_post rfl rfl (.cons (res_cellA (vs := [_, _, _, _, _, _, _, _, _, _, _, _, _, _, _, _, _]) rfl (known_L (k := 2) rfl) rfl rfl) (.cons (res_tmp rfl) .nil)) (fun w1 hs1 => ?_)
                  | refine HQ_post rfl rfl (.cons (res_cellA (vs := [_, _, _, _, _, _, _, _, _, _, _, _, _, _, _, _, _]) rfl (known_L (k := 3) rfl) rfl rfl) (.cons (res_tmp rfl) .nil)) (fun w1 hs1 => ?_)
                first
                  | (rw [if_pos (by omega)]; exact ⟨rfl, hs1.keep⟩)
                  | (rw [if_neg (by omega)]; exact ⟨rfl, hs1.keep⟩)
                  | trace_state
                skip)
              skip)
            skip)
        skip)
      skip)
    skip)
end Go.Proofs.Ytnkmbkndpoghdaa
namespace Go.Proofs.Ytnkmbkndpoghdaa
set_option linter.all false
open Go.SL Go.RowKit Go.Shelf
/-! Few: which states are looked at -/
def fewA (a : AcE) : Bool := !((decide (100 < a.addr.length) || (decide (60 < a.code.length) && decide (a.code.length ≤ 512))) || decide (20 < a.slots.length)) && a.slots.all fun x => !(decide (100 < x.1.length) || decide (100 < x.2.length))
def fewG : Nat → Int → List AcE → Bool × Int
  | _, n, [] => (true, n)
  | i, n, a :: l => if 40 < i then (true, n) else if fewA a = false then (false, n) else fewG (i + 1) (n + (a.slots.length : Int)) l
def fewS (s : List AcE) : Bool := (fewG 0 0 s).1 && (decide (s.length ≤ 40) && decide ((fewG 0 0 s).2 ≤ 40))
theorem few_all {a : AcE} {i : Nat} {x : BS × BS} (hx : a.slots[i]? = some x) (h : x.1.length > 100 ∨ x.2.length > 100) : fewA a = false := by
  unfold fewA
  have : (a.slots.all fun x => !(decide (100 < x.1.length) || decide (100 < x.2.length))) = false := by
    rw [List.all_eq_false]
    exact ⟨x, List.mem_of_getElem? hx, by rcases h with h | h <;> simp [h]⟩
  rw [this, Bool.and_false]
theorem few_len {a : AcE} (h : fewA a = true) : a.slots.length ≤ 20 := by
  unfold fewA at h
  simp only [Bool.and_eq_true, Bool.not_eq_true', Bool.or_eq_false_iff, decide_eq_false_iff_not] at h
  omega
theorem few_step {i : Nat} {n : Int} {s : List AcE} {a : AcE} (h : s[i]? = some a) (hi : i ≤ 40) (hf : fewA a = true) : fewG i n (s.drop i) = fewG (i + 1) (n + (a.slots.length : Int)) (s.drop (i + 1)) := by
  obtain ⟨hlt, e⟩ := List.getElem?_eq_some_iff.1 h
  rw [List.drop_eq_getElem_cons hlt, e]
  unfold fewG
  rw [if_neg (by omega), if_neg (by rw [hf]; simp)]
  cases s.drop (i + 1) <;> rfl
theorem few_stop {i : Nat} {n : Int} {s : List AcE} (h : 40 < i ∨ s.length ≤ i) : fewG i n (s.drop i) = (true, n) := by
  rcases h with h | h
  · cases s.drop i with
    | nil => rfl
    | cons a l => unfold fewG; rw [if_pos h]
  · rw [List.drop_of_length_le h]; rfl
theorem few_no {i : Nat} {n : Int} {s : List AcE} {a : AcE} (h : s[i]? = some a) (hi : i ≤ 40) (hf : fewA a = false) : (fewG i n (s.drop i)).1 = false := by
  obtain ⟨hlt, e⟩ := List.getElem?_eq_some_iff.1 h
  rw [List.drop_eq_getElem_cons hlt, e]
  unfold fewG
  rw [if_neg (by omega), if_pos hf]
set_option maxRecDepth 10000 in
theorem S_FewAcct {R : List (Nat × Obj)} {a : AcL} (ha : a.In R) : PureR Try.prog 15 [a.val].toArray (.bool (fewA a.er)) R := by
  have hl := ha.len
  have hseg := ha.seg
  obtain ⟨res, hres⟩ : ∃ b, b = fewA a.er := ⟨_, rfl⟩
  rw [← hres]
  have h1 : (100 < (a.addr.length : Int) ∨ (60 < (a.code.length : Int) ∧ (a.code.length : Int) ≤ 512) ∨ 20 < (a.slots.length : Int)) → res = false := fun h => by
    rw [hres]; unfold fewA
    have : ((decide (100 < a.addr.length) || (decide (60 < a.code.length) && decide (a.code.length ≤ 512))) || decide (20 < a.slots.length)) = true := by
      simp only [Bool.or_eq_true, Bool.and_eq_true, decide_eq_true_eq]; omega
    show (!((decide (100 < a.addr.length) || (decide (60 < a.code.length) && decide (a.code.length ≤ 512))) || decide (20 < a.slots.length)) && _) = false
    rw [this]; rfl
  have h2 : ¬ (100 < (a.addr.length : Int) ∨ (60 < (a.code.length : Int) ∧ (a.code.length : Int) ≤ 512) ∨ 20 < (a.slots.length : Int)) → (∀ (j : Nat) (x : BS × BS), a.slots[j]? = some x → x.1.length ≤ 100 ∧ x.2.length ≤ 100) → res = true := fun h h' => by
    rw [hres]; unfold fewA
    have e : ((decide (100 < a.addr.length) || (decide (60 < a.code.length) && decide (a.code.length ≤ 512))) || decide (20 < a.slots.length)) = false := by
      simp only [Bool.or_eq_false_iff, Bool.and_eq_false_iff, decide_eq_false_iff_not]; omega
    show (!((decide (100 < a.addr.length) || (decide (60 < a.code.length) && decide (a.code.length ≤ 512))) || decide (20 < a.slots.length)) && _) = true
    rw [e]
    simp only [Bool.not_false, Bool.true_and, List.all_eq_true]
    intro x hx
    obtain ⟨j, hj⟩ := List.getElem?_of_mem hx
    obtain ⟨g1, g2⟩ := h' j x hj
    simp; omega
  refine pureR_of_HC Try.func15 rfl rfl fun w => ?_
  refine HC_seq fun K1 hK1 => ?_
  refine HC_region ?_
  all_goals refine HL_box (cs := a.cells.toArray) rfl rfl rfl rfl fun r1 => ?_
  all_goals refine HL_r rfl rfl rfl rfl (R_assign rfl) ?_
  all_goals refine HL_nil ?_
  all_goals (
    refine HQ_then ?_
    refine hK1 _ _ _ _ ?_; clear hK1 K1
    refine HC_seq fun K2 hK2 => ?_
    refine HC_seq fun K3 hK3 => ?_
    refine HC_region ?_
    all_goals refine HL_r rfl rfl rfl rfl (R_fieldAddr rfl rfl (by first | (simp only [Nat.zero_add, Nat.reduceAdd, Nat.reduceMul, Nat.zero_mul, Nat.mul_one, Nat.add_zero]; exact rfl) | exact rfl)) ?_
    all_goals refine HL_r rfl rfl rfl rfl (R_load rfl (known_L (k := 0) rfl) rfl rfl) ?_
    all_goals (refine HL_r rfl rfl rfl rfl (R_lenBs rfl rfl) ?_)
    all_goals refine HL_r rfl rfl rfl rfl (R_pure rfl rfl rfl) ?_
    all_goals refine HL_r rfl rfl rfl rfl (R_move rfl) ?_
    all_goals (refine HL_case 8 rfl (fun hb4 => ?_) (fun hb4 => ?_) <;> (try simp only [decide_eq_true_eq, decide_eq_false_iff_not, beq_iff_eq, beq_eq_false_iff_ne, bne_iff_ne, bne_eq_false_iff_eq, Bool.not_eq_true', Bool.not_eq_false', ne_eq, Int.not_lt, Int.not_le, ge_iff_le, gt_iff_lt] at hb4) <;> first | (refine HL_r rfl rfl rfl rfl (R_fieldAddr rfl rfl (by first | (simp only [Nat.zero_add, Nat.reduceAdd, Nat.reduceMul, Nat.zero_mul, Nat.mul_one, Nat.add_zero]; exact rfl) | exact rfl)) ?_) | (refine HL_skip rfl rfl rfl ?_))
    all_goals first
      | (refine HL_r rfl rfl rfl rfl (R_load rfl (known_L (k := 0) rfl) rfl rfl) ?_)
      | (refine HL_skip rfl rfl rfl ?_)
    all_goals first
      | (refine HL_r rfl rfl rfl rfl (R_lenBs rfl rfl) ?_)
      | (refine HL_skip rfl rfl rfl ?_)
    all_goals first
      | (refine HL_r rfl rfl rfl rfl (R_pure rfl rfl rfl) ?_)
      | (refine HL_skip rfl rfl rfl ?_)
    all_goals first
      | (refine HL_r rfl rfl rfl rfl (R_move rfl) ?_)
      | (refine HL_skip rfl rfl rfl ?_)
    all_goals first
      | (refine HL_skip rfl rfl rfl ?_)
      | (refine HL_case 13 rfl (fun hb9 => ?_) (fun hb9 => ?_) <;> (try simp only [decide_eq_true_eq, decide_eq_false_iff_not, beq_iff_eq, beq_eq_false_iff_ne, bne_iff_ne, bne_eq_false_iff_eq, Bool.not_eq_true', Bool.not_eq_false', ne_eq, Int.not_lt, Int.not_le, ge_iff_le, gt_iff_lt] at hb9) <;> first | (refine HL_r rfl rfl rfl rfl (R_fieldAddr rfl rfl (by first | (simp only [Nat.zero_add, Nat.reduceAdd, Nat.reduceMul, Nat.zero_mul, Nat.mul_one, Nat.add_zero]; exact rfl) | exact rfl)) ?_) | (refine HL_skip rfl rfl rfl ?_))
    all_goals first
      | (refine HL_r rfl rfl rfl rfl (R_load rfl (known_L (k := 0) rfl) rfl rfl) ?_)
      | (refine HL_skip rfl rfl rfl ?_)
    all_goals first
      | (refine HL_r rfl rfl rfl rfl (R_lenBs rfl rfl) ?_)
      | (refine HL_skip rfl rfl rfl ?_)
    all_goals first
      | (refine HL_r rfl rfl rfl rfl (R_pure rfl rfl rfl) ?_)
      | (refine HL_skip rfl rfl rfl ?_)
    all_goals first
      | (refine HL_r rfl rfl rfl rfl (R_pickT rfl rfl) ?_)
      | (refine HL_r rfl rfl rfl rfl (R_pickF rfl rfl) ?_)
      | (refine HL_skip rfl rfl rfl ?_)
    all_goals first
      | (refine HL_r rfl rfl rfl rfl (R_pickT rfl rfl) ?_)
      | (refine HL_r rfl rfl rfl rfl (R_pickF rfl rfl) ?_)
    all_goals refine HL_r rfl rfl rfl rfl (R_move rfl) ?_
    all_goals first
      | (refine HL_r rfl rfl rfl rfl (R_fieldAddr rfl rfl (by first | (simp only [Nat.zero_add, Nat.reduceAdd, Nat.reduceMul, Nat.zero_mul, Nat.mul_one, Nat.add_zero]; exact rfl) | exact rfl)) ?_)
      | (refine HL_skip rfl rfl rfl ?_)
      | (refine HL_case 20 rfl (fun hb14 => ?_) (fun hb14 => ?_) <;> (try simp only [decide_eq_true_eq, decide_eq_false_iff_not, beq_iff_eq, beq_eq_false_iff_ne, bne_iff_ne, bne_eq_false_iff_eq, Bool.not_eq_true', Bool.not_eq_false', ne_eq, Int.not_lt, Int.not_le, ge_iff_le, gt_iff_lt] at hb14) <;> first | (refine HL_r rfl rfl rfl rfl (R_fieldAddr rfl rfl (by first | (simp only [Nat.zero_add, Nat.reduceAdd, Nat.reduceMul, Nat.zero_mul, Nat.mul_one, Nat.add_zero]; exact rfl) | exact rfl)) ?_) | (refine HL_skip rfl rfl rfl ?_))
    all_goals first
      | (refine HL_r rfl rfl rfl rfl (R_load rfl (known_L (k := 0) rfl) rfl rfl) ?_)
      | (refine HL_skip rfl rfl rfl ?_)
    all_goals first
      | (refine HL_r rfl rfl rfl rfl (R_lenPl rfl hseg rfl) ?_)
      | (refine HL_skip rfl rfl rfl ?_)
    all_goals first
      | (refine HL_r rfl rfl rfl rfl (R_pure rfl rfl rfl) ?_)
      | (refine HL_skip rfl rfl rfl ?_)
    all_goals first
      | (refine HL_r rfl rfl rfl rfl (R_pickT rfl rfl) ?_)
      | (refine HL_r rfl rfl rfl rfl (R_pickF rfl rfl) ?_)
    all_goals refine HL_nil ?_
    all_goals (
      refine HQ_then ?_
      refine hK3 _ _ _ _ ?_; clear hK3 K3
      refine HC_cond rfl (fun h18 => ?_) (fun h18 => ?_)
      · try exact Bool.noConfusion h18
        all_goals try simp only [decide_eq_true_eq, decide_eq_false_iff_not, beq_iff_eq, beq_eq_false_iff_ne, bne_iff_ne, bne_eq_false_iff_eq, Bool.not_eq_true', Bool.not_eq_false', ne_eq, Int.not_lt, Int.not_le, ge_iff_le, gt_iff_lt] at h18
        all_goals (
          refine HC_seq fun K19 hK19 => ?_
          refine HC_region ?_
          all_goals refine HL_r rfl rfl rfl rfl (R_assign rfl) ?_
          all_goals refine HL_nil ?_
          all_goals (
            refine HQ_then ?_
            refine hK19 _ _ _ _ ?_; clear hK19 K19
            refine HC_ret ?_
            refine HQ_thenR ?_; clear hK2 K2
            refine HQ_post rfl rfl (.cons (res_tmp rfl) .nil) (fun w1 hs1 => ?_)
            first
              | (rw [h1 (by omega)]; exact ⟨rfl, hs1.keep⟩)
              | (rw [hres, few_all hx (by omega)]; exact ⟨rfl, hs1.keep⟩)
              | (rw [h2 h0 (fun j y hy => hinv j y (by have := (List.getElem?_eq_some_iff.1 hy).1; omega) hy)]; exact ⟨rfl, hs1.keep⟩)
              | trace_state
            skip)
          skip)
      · try exact Bool.noConfusion h18
        all_goals try simp only [decide_eq_true_eq, decide_eq_false_iff_not, beq_iff_eq, beq_eq_false_iff_ne, bne_iff_ne, bne_eq_false_iff_eq, Bool.not_eq_true', Bool.not_eq_false', ne_eq, Int.not_lt, Int.not_le, ge_iff_le, gt_iff_lt] at h18
        all_goals (
          refine HC_skip ?_
          refine HQ_then ?_
          refine hK2 _ _ _ _ ?_; clear hK2 K2
          refine HC_seq fun K20 hK20 => ?_
          refine HC_seq fun K21 hK21 => ?_
          refine HC_region ?_
          all_goals refine HL_r rfl rfl rfl rfl (R_assign rfl) ?_
          all_goals refine HL_nil ?_
          all_goals (
            refine HQ_then ?_
            refine hK21 _ _ _ _ ?_; clear hK21 K21
            refine HC_block ?_
            have h0 : ¬ (100 < (a.addr.length : Int) ∨ (60 < (a.code.length : Int) ∧ (a.code.length : Int) ≤ 512) ∨ 20 < (a.slots.length : Int)) := by
              simp_all
              all_goals first | done | omega | trace_state
            refine HC_loop (σ := Nat) (fun i => i ≤ a.slots.length ∧ ∀ (j : Nat) (x : BS × BS), j < i → a.slots[j]? = some x → x.1.length ≤ 100 ∧ x.2.length ≤ 100) (fun i => [(1, .pointer (some ⟨r1, 0, none⟩)), (3, .int .i64 (i : Int))]) (fun _ => [(r1, .cells a.cells.toArray 37 (0, 0))]) (fun _ _ _ => True) (fun i => a.slots.length - i) 0 ⟨Nat.zero_le _, fun _ _ h => absurd h (Nat.not_lt_zero _)⟩ (.cons rfl (.cons rfl .nil)) (List.Sublist.refl _) (fun _ _ h => h) ?_
            rintro i ⟨hi1, hinv⟩
            refine HC_seq fun K22 hK22 => ?_
            refine HC_seq fun K23 hK23 => ?_
            refine HC_region ?_
            all_goals refine HL_r rfl rfl rfl rfl (R_move rfl) ?_
            all_goals refine HL_r rfl rfl rfl rfl (R_fieldAddr rfl rfl (by first | (simp only [Nat.zero_add, Nat.reduceAdd, Nat.reduceMul, Nat.zero_mul, Nat.mul_one, Nat.add_zero]; exact rfl) | exact rfl)) ?_
            all_goals refine HL_r rfl rfl rfl rfl (R_load rfl (known_L (k := 0) rfl) rfl rfl) ?_
            all_goals (refine HL_r rfl rfl rfl rfl (R_lenPl rfl hseg rfl) ?_)
            all_goals refine HL_r rfl rfl rfl rfl (R_pure rfl rfl rfl) ?_
            all_goals refine HL_nil ?_
            all_goals (
              refine HQ_then ?_
              refine hK23 _ _ _ _ ?_; clear hK23 K23
              refine HC_cond rfl (fun h24 => ?_) (fun h24 => ?_)
              · try exact Bool.noConfusion h24
                all_goals try simp only [decide_eq_true_eq, decide_eq_false_iff_not, beq_iff_eq, beq_eq_false_iff_ne, bne_iff_ne, bne_eq_false_iff_eq, Bool.not_eq_true', Bool.not_eq_false', ne_eq, Int.not_lt, Int.not_le, ge_iff_le, gt_iff_lt] at h24
                all_goals (
                  refine HC_skip ?_
                  refine HQ_then ?_
                  refine hK22 _ _ _ _ ?_; clear hK22 K22
                  refine HC_seq fun K25 hK25 => ?_
                  refine HC_block ?_
                  refine HC_seq fun K26 hK26 => ?_
                  obtain ⟨x, hx, hmx⟩ := getI (show i < a.slots.length by omega)
                  have hxl := ha.slots x hmx
                  refine HC_region ?_
                  all_goals refine HL_r rfl rfl rfl rfl (R_fieldAddr rfl rfl (by first | (simp only [Nat.zero_add, Nat.reduceAdd, Nat.reduceMul, Nat.zero_mul, Nat.mul_one, Nat.add_zero]; exact rfl) | exact rfl)) ?_
                  all_goals refine HL_r rfl rfl rfl rfl (R_load rfl (known_L (k := 0) rfl) rfl rfl) ?_
                  all_goals refine HL_r rfl rfl rfl rfl (R_move rfl) ?_
                  all_goals refine HL_r rfl rfl rfl rfl (R_indexPl (j := i) rfl hseg rfl rfl rfl (by first | rfl | omega) (by omega)) ?_
                  all_goals refine HL_r rfl rfl rfl rfl (R_fieldAddr (off' := plO a.p + (i * 2 + 0)) rfl rfl (by show plO a.p + i * 2 + 0 = _; omega)) ?_
                  all_goals refine HL_r rfl rfl rfl rfl (R_loadEf slC_len (k := 0) (v := strV x.1) (fun q hq => Or.inr hq) rfl hseg hx rfl rfl) ?_
                  all_goals (refine HL_r rfl rfl rfl rfl (R_lenBs rfl rfl) ?_)
                  all_goals refine HL_r rfl rfl rfl rfl (R_pure rfl rfl rfl) ?_
                  all_goals refine HL_r rfl rfl rfl rfl (R_move rfl) ?_
                  all_goals (refine HL_case 41 rfl (fun hb27 => ?_) (fun hb27 => ?_) <;> (try simp only [decide_eq_true_eq, decide_eq_false_iff_not, beq_iff_eq, beq_eq_false_iff_ne, bne_iff_ne, bne_eq_false_iff_eq, Bool.not_eq_true', Bool.not_eq_false', ne_eq, Int.not_lt, Int.not_le, ge_iff_le, gt_iff_lt] at hb27) <;> first | (refine HL_r rfl rfl rfl rfl (R_fieldAddr rfl rfl (by first | (simp only [Nat.zero_add, Nat.reduceAdd, Nat.reduceMul, Nat.zero_mul, Nat.mul_one, Nat.add_zero]; exact rfl) | exact rfl)) ?_) | (refine HL_skip rfl rfl rfl ?_))
                  all_goals first
                    | (refine HL_r rfl rfl rfl rfl (R_load rfl (known_L (k := 0) rfl) rfl rfl) ?_)
                    | (refine HL_skip rfl rfl rfl ?_)
                  all_goals first
                    | (refine HL_r rfl rfl rfl rfl (R_move rfl) ?_)
                    | (refine HL_skip rfl rfl rfl ?_)
                  all_goals first
                    | (refine HL_r rfl rfl rfl rfl (R_indexPl (j := i) rfl hseg rfl rfl rfl (by first | rfl | omega) (by omega)) ?_)
                    | (refine HL_skip rfl rfl rfl ?_)
                  all_goals first
                    | (refine HL_r rfl rfl rfl rfl (R_fieldAddr (off' := plO a.p + (i * 2 + 1)) rfl rfl (by show plO a.p + i * 2 + 1 = _; omega)) ?_)
                    | (refine HL_skip rfl rfl rfl ?_)
                  all_goals first
                    | (refine HL_r rfl rfl rfl rfl (R_loadEf slC_len (k := 1) (v := strV x.2) (fun q hq => Or.inr hq) rfl hseg hx rfl rfl) ?_)
                    | (refine HL_skip rfl rfl rfl ?_)
                  all_goals first
                    | (refine HL_r rfl rfl rfl rfl (R_lenBs rfl rfl) ?_)
                    | (refine HL_skip rfl rfl rfl ?_)
                  all_goals first
                    | (refine HL_r rfl rfl rfl rfl (R_pure rfl rfl rfl) ?_)
                    | (refine HL_skip rfl rfl rfl ?_)
                  all_goals first
                    | (refine HL_r rfl rfl rfl rfl (R_pickT rfl rfl) ?_)
                    | (refine HL_r rfl rfl rfl rfl (R_pickF rfl rfl) ?_)
                  all_goals refine HL_nil ?_
                  all_goals (
                    refine HQ_then ?_
                    refine hK26 _ _ _ _ ?_; clear hK26 K26
                    refine HC_cond rfl (fun h35 => ?_) (fun h35 => ?_)
                    · try exact Bool.noConfusion h35
                      all_goals try simp only [decide_eq_true_eq, decide_eq_false_iff_not, beq_iff_eq, beq_eq_false_iff_ne, bne_iff_ne, bne_eq_false_iff_eq, Bool.not_eq_true', Bool.not_eq_false', ne_eq, Int.not_lt, Int.not_le, ge_iff_le, gt_iff_lt] at h35
                      all_goals (
                        refine HC_seq fun K36 hK36 => ?_
                        refine HC_region ?_
                        all_goals refine HL_r rfl rfl rfl rfl (R_assign rfl) ?_
                        all_goals refine HL_nil ?_
                        all_goals (
                          refine HQ_then ?_
                          refine hK36 _ _ _ _ ?_; clear hK36 K36
                          refine HC_ret ?_
                          refine HQ_blockR ?_
                          refine HQ_thenR ?_; clear hK25 K25
                          refine HQ_thenR ?_
                          refine HQ_blockR ?_
                          refine HQ_thenR ?_; clear hK20 K20
                          refine HQ_post rfl rfl (.cons (res_tmp rfl) .nil) (fun w1 hs1 => ?_)
                          first
                            | (rw [h1 (by omega)]; exact ⟨rfl, hs1.keep⟩)
                            | (rw [hres, few_all hx (by omega)]; exact ⟨rfl, hs1.keep⟩)
                            | (rw [h2 h0 (fun j y hy => hinv j y (by have := (List.getElem?_eq_some_iff.1 hy).1; omega) hy)]; exact ⟨rfl, hs1.keep⟩)
                            | trace_state
                          skip)
                        skip)
                    · try exact Bool.noConfusion h35
                      all_goals try simp only [decide_eq_true_eq, decide_eq_false_iff_not, beq_iff_eq, beq_eq_false_iff_ne, bne_iff_ne, bne_eq_false_iff_eq, Bool.not_eq_true', Bool.not_eq_false', ne_eq, Int.not_lt, Int.not_le, ge_iff_le, gt_iff_lt] at h35
                      all_goals (
                        refine HC_skip ?_
                        refine HQ_blockN ?_
                        refine HQ_then ?_
                        refine hK25 _ _ _ _ ?_; clear hK25 K25
                        refine HC_region ?_
                        all_goals refine HL_r rfl rfl rfl rfl (R_move rfl) ?_
                        all_goals (refine HL_r rfl rfl rfl rfl (R_pure rfl rfl rfl) ?_; refine HL_wrap_i64 (by omega) (by omega) ?_)
                        all_goals refine HL_r rfl rfl rfl rfl (R_assign rfl) ?_
                        all_goals refine HL_nil ?_
                        all_goals (
                          refine HQ_then ?_
                          exact HQ_again (i + 1) ⟨by omega, fun j y hj hy => by
                            rcases Nat.lt_succ_iff_lt_or_eq.1 hj with h | rfl
                            · exact hinv j y h hy
                            · obtain rfl := Option.some.inj (hx.symm.trans hy); simp_all; all_goals first | done | omega | trace_state⟩ (by omega) (.cons rfl (.cons rfl .nil)) (List.Sublist.refl _) (fun _ _ h => h)
                          skip)
                        skip)
                    skip)
                  skip)
              · try exact Bool.noConfusion h24
                all_goals try simp only [decide_eq_true_eq, decide_eq_false_iff_not, beq_iff_eq, beq_eq_false_iff_ne, bne_iff_ne, bne_eq_false_iff_eq, Bool.not_eq_true', Bool.not_eq_false', ne_eq, Int.not_lt, Int.not_le, ge_iff_le, gt_iff_lt] at h24
                all_goals (
                  refine HC_exit ?_
                  refine HQ_thenE ?_; clear hK22 K22
                  refine HQ_thenE ?_
                  refine HQ_blockE ?_
                  refine HQ_then ?_
                  refine hK20 _ _ _ _ ?_; clear hK20 K20
                  refine HC_seq fun K37 hK37 => ?_
                  refine HC_region ?_
                  all_goals refine HL_r rfl rfl rfl rfl (R_assign rfl) ?_
                  all_goals refine HL_nil ?_
                  all_goals (
                    refine HQ_then ?_
                    refine hK37 _ _ _ _ ?_; clear hK37 K37
                    refine HC_ret ?_
                    refine HQ_post rfl rfl (.cons (res_tmp rfl) .nil) (fun w1 hs1 => ?_)
                    first
                      | (rw [h1 (by omega)]; exact ⟨rfl, hs1.keep⟩)
                      | (rw [hres, few_all hx (by omega)]; exact ⟨rfl, hs1.keep⟩)
                      | (rw [h2 h0 (fun j y hy => hinv j y (by have := (List.getElem?_eq_some_iff.1 hy).1; omega) hy)]; exact ⟨rfl, hs1.keep⟩)
                      | trace_state
                    skip)
                  skip)
              skip)
            skip)
          skip)
      skip)
    skip)
set_option maxRecDepth 10000 in
theorem S_Few {R : List (Nat × Obj)} {s : StL} (hs : s.In R) : PureR Try.prog 5 [s.val].toArray (.bool (fewS s.er)) R := by
  have hl := hs.len
  have hseg := hs.seg
  obtain ⟨⟨rb, rn⟩, hres⟩ : ∃ b, b = fewG 0 0 s.er := ⟨_, rfl⟩
  have hfs : fewS s.er = (rb && (decide (s.accts.length ≤ 40) && decide (rn ≤ 40))) := by unfold fewS; rw [← hres, s.er_len]
  rw [hfs]
  refine pureR_of_HC Try.func5 rfl rfl fun w => ?_
  refine HC_seq fun K1 hK1 => ?_
  refine HC_region ?_
  all_goals refine HL_box (cs := s.cells.toArray) rfl rfl rfl rfl fun r1 => ?_
  all_goals refine HL_r rfl rfl rfl rfl (R_assign rfl) ?_
  all_goals refine HL_nil ?_
  all_goals (
    refine HQ_then ?_
    refine hK1 _ _ _ _ ?_; clear hK1 K1
    refine HC_seq fun K2 hK2 => ?_
    refine HC_region ?_
    all_goals refine HL_r rfl rfl rfl rfl (R_assign rfl) ?_
    all_goals refine HL_nil ?_
    all_goals (
      refine HQ_then ?_
      refine hK2 _ _ _ _ ?_; clear hK2 K2
      refine HC_seq fun K3 hK3 => ?_
      refine HC_seq fun K4 hK4 => ?_
      refine HC_region ?_
      all_goals refine HL_r rfl rfl rfl rfl (R_assign rfl) ?_
      all_goals refine HL_nil ?_
      all_goals (
        refine HQ_then ?_
        refine hK4 _ _ _ _ ?_; clear hK4 K4
        refine HC_block ?_
        refine HC_loop (σ := Nat × Int) (fun q => q.1 ≤ s.accts.length ∧ 0 ≤ q.2 ∧ q.2 ≤ 20 * q.1 ∧ q.1 ≤ 41 ∧ fewG q.1 q.2 (s.er.drop q.1) = (rb, rn)) (fun q => [(1, .pointer (some ⟨r1, 0, none⟩)), (3, .int .i64 q.2), (4, .int .i64 (q.1 : Int))]) (fun _ => [(r1, .cells s.cells.toArray 24 (0, 0))]) (fun _ _ _ => True) (fun q => s.accts.length - q.1) (0, 0) ⟨Nat.zero_le _, by omega, by omega, by omega, hres.symm⟩ (.cons rfl (.cons rfl (.cons rfl .nil))) (List.Sublist.refl _) (fun _ _ h => h) ?_
        rintro ⟨i, n⟩ ⟨hi1, hn0, hn1, hi41, hinv⟩
        simp only at hi1 hn0 hn1 hi41 hinv
        change HC _ _ [(1, _), (3, .int .i64 n), (4, .int .i64 (i : Int))] _ _ _ _
        refine HC_seq fun K5 hK5 => ?_
        refine HC_seq fun K6 hK6 => ?_
        refine HC_region ?_
        all_goals refine HL_r rfl rfl rfl rfl (R_move rfl) ?_
        all_goals refine HL_r rfl rfl rfl rfl (R_fieldAddr rfl rfl (by first | (simp only [Nat.zero_add, Nat.reduceAdd, Nat.reduceMul, Nat.zero_mul, Nat.mul_one, Nat.add_zero]; exact rfl) | exact rfl)) ?_
        all_goals refine HL_r rfl rfl rfl rfl (R_load rfl (known_L (k := 0) rfl) rfl rfl) ?_
        all_goals (refine HL_r rfl rfl rfl rfl (R_lenPl rfl hseg rfl) ?_)
        all_goals refine HL_r rfl rfl rfl rfl (R_pure rfl rfl rfl) ?_
        all_goals refine HL_r rfl rfl rfl rfl (R_move rfl) ?_
        all_goals (refine HL_case 11 rfl (fun hb7 => ?_) (fun hb7 => ?_) <;> (try simp only [decide_eq_true_eq, decide_eq_false_iff_not, beq_iff_eq, beq_eq_false_iff_ne, bne_iff_ne, bne_eq_false_iff_eq, Bool.not_eq_true', Bool.not_eq_false', ne_eq, Int.not_lt, Int.not_le, ge_iff_le, gt_iff_lt] at hb7) <;> first | (refine HL_r rfl rfl rfl rfl (R_move rfl) ?_) | (refine HL_skip rfl rfl rfl ?_))
        all_goals first
          | (refine HL_r rfl rfl rfl rfl (R_pure rfl rfl rfl) ?_)
          | (refine HL_skip rfl rfl rfl ?_)
        all_goals first
          | (refine HL_r rfl rfl rfl rfl (R_pickT rfl rfl) ?_)
          | (refine HL_r rfl rfl rfl rfl (R_pickF rfl rfl) ?_)
        all_goals refine HL_nil ?_
        all_goals (
          refine HQ_then ?_
          refine hK6 _ _ _ _ ?_; clear hK6 K6
          refine HC_cond rfl (fun h9 => ?_) (fun h9 => ?_)
          · try exact Bool.noConfusion h9
            all_goals try simp only [decide_eq_true_eq, decide_eq_false_iff_not, beq_iff_eq, beq_eq_false_iff_ne, bne_iff_ne, bne_eq_false_iff_eq, Bool.not_eq_true', Bool.not_eq_false', ne_eq, Int.not_lt, Int.not_le, ge_iff_le, gt_iff_lt] at h9
            all_goals (
              refine HC_skip ?_
              refine HQ_then ?_
              refine hK5 _ _ _ _ ?_; clear hK5 K5
              refine HC_seq fun K10 hK10 => ?_
              refine HC_block ?_
              refine HC_seq fun K11 hK11 => ?_
              obtain ⟨a, ha, hma⟩ := getI (show i < s.accts.length by omega)
              have ha2 := hs.accts a hma
              have hi40 : i ≤ 40 := by simp_all <;> omega
              refine HC_region ?_
              all_goals refine HL_r rfl rfl rfl rfl (R_fieldAddr rfl rfl (by first | (simp only [Nat.zero_add, Nat.reduceAdd, Nat.reduceMul, Nat.zero_mul, Nat.mul_one, Nat.add_zero]; exact rfl) | exact rfl)) ?_
              all_goals refine HL_r rfl rfl rfl rfl (R_load rfl (known_L (k := 0) rfl) rfl rfl) ?_
              all_goals refine HL_r rfl rfl rfl rfl (R_move rfl) ?_
              all_goals refine HL_r rfl rfl rfl rfl (R_indexPl (j := i) rfl hseg rfl rfl rfl (by first | rfl | omega) (by omega)) ?_
              all_goals refine HL_r rfl rfl rfl rfl (R_loadEl AcL.len (fun q hq => Or.inr hq) rfl hseg ha rfl rfl) ?_
              all_goals refine HL_callR rfl rfl rfl (enters_of Try.func15 (by kernel_rfl) rfl) (S_FewAcct ha2) (fun q hq => Or.inr hq) ?_
              all_goals refine HL_r rfl rfl rfl rfl (R_assign rfl) ?_
              all_goals refine HL_nil ?_
              all_goals (
                refine HQ_then ?_
                refine hK11 _ _ _ _ ?_; clear hK11 K11
                refine HC_seq fun K12 hK12 => ?_
                refine HC_seq fun K13 hK13 => ?_
                refine HC_region ?_
                all_goals refine HL_r rfl rfl rfl rfl (R_move rfl) ?_
                all_goals refine HL_r rfl rfl rfl rfl (R_pure rfl rfl rfl) ?_
                all_goals refine HL_nil ?_
                all_goals (
                  refine HQ_then ?_
                  refine hK13 _ _ _ _ ?_; clear hK13 K13
                  refine HC_cond rfl (fun h14 => ?_) (fun h14 => ?_)
                  · try exact Bool.noConfusion h14
                    all_goals try simp only [decide_eq_true_eq, decide_eq_false_iff_not, beq_iff_eq, beq_eq_false_iff_ne, bne_iff_ne, bne_eq_false_iff_eq, Bool.not_eq_true', Bool.not_eq_false', ne_eq, Int.not_lt, Int.not_le, ge_iff_le, gt_iff_lt] at h14
                    all_goals (
                      refine HC_seq fun K15 hK15 => ?_
                      refine HC_region ?_
                      all_goals refine HL_r rfl rfl rfl rfl (R_assign rfl) ?_
                      all_goals refine HL_nil ?_
                      all_goals (
                        refine HQ_then ?_
                        refine hK15 _ _ _ _ ?_; clear hK15 K15
                        refine HC_ret ?_
                        refine HQ_thenR ?_; clear hK12 K12
                        refine HQ_blockR ?_
                        refine HQ_thenR ?_; clear hK10 K10
                        refine HQ_thenR ?_
                        refine HQ_blockR ?_
                        refine HQ_thenR ?_; clear hK3 K3
                        refine HQ_post rfl rfl (.cons (res_tmp rfl) .nil) (fun w1 hs1 => ?_)
                        first
                          | (have hff : fewA a.er = false := by simp_all
                             have h1 := few_no (n := n) (er_get ha) hi40 hff
                             rw [hinv] at h1
                             rw [show rb = false from h1]; exact ⟨rfl, hs1.keep⟩)
                          | (rw [few_stop (by rw [s.er_len]; omega)] at hinv
                             obtain ⟨rfl, rfl⟩ := Prod.mk.inj hinv
                             refine ⟨?_, hs1.keep⟩
                             simp [resVal]
                             all_goals first | done | omega | trace_state)
                          | trace_state
                        skip)
                      skip)
                  · try exact Bool.noConfusion h14
                    all_goals try simp only [decide_eq_true_eq, decide_eq_false_iff_not, beq_iff_eq, beq_eq_false_iff_ne, bne_iff_ne, bne_eq_false_iff_eq, Bool.not_eq_true', Bool.not_eq_false', ne_eq, Int.not_lt, Int.not_le, ge_iff_le, gt_iff_lt] at h14
                    all_goals (
                      refine HC_skip ?_
                      refine HQ_then ?_
                      refine hK12 _ _ _ _ ?_; clear hK12 K12
                      have hft : fewA a.er = true := by simp_all
                      have h20 := few_len hft
                      have h20 : a.slots.length ≤ 20 := h20
                      rw [few_step (er_get ha) hi40 hft] at hinv
                      refine HC_region ?_
                      all_goals refine HL_r rfl rfl rfl rfl (R_move rfl) ?_
                      all_goals refine HL_r rfl rfl rfl rfl (R_fieldAddr rfl rfl (by first | (simp only [Nat.zero_add, Nat.reduceAdd, Nat.reduceMul, Nat.zero_mul, Nat.mul_one, Nat.add_zero]; exact rfl) | exact rfl)) ?_
                      all_goals refine HL_r rfl rfl rfl rfl (R_load rfl (known_L (k := 0) rfl) rfl rfl) ?_
                      all_goals refine HL_r rfl rfl rfl rfl (R_move rfl) ?_
                      all_goals refine HL_r rfl rfl rfl rfl (R_indexPl (j := i) rfl hseg rfl rfl rfl (by first | rfl | omega) (by omega)) ?_
                      all_goals refine HL_r rfl rfl rfl rfl (R_fieldAddr (off' := plO s.p + (i * 8 + 7)) rfl rfl (by show plO s.p + i * 8 + 7 = _; omega)) ?_
                      all_goals refine HL_r rfl rfl rfl rfl (R_loadEf AcL.len (k := 7) (v := plV a.slots.length a.p) (fun q hq => Or.inr hq) rfl hseg ha rfl rfl) ?_
                      all_goals (refine HL_r rfl rfl rfl rfl (R_lenPl rfl ha2.seg rfl) ?_)
                      all_goals (refine HL_r rfl rfl rfl rfl (R_pure rfl rfl rfl) ?_; refine HL_wrap_i64 (by omega) (by omega) ?_)
                      all_goals refine HL_r rfl rfl rfl rfl (R_assign rfl) ?_
                      all_goals refine HL_nil ?_
                      all_goals (
                        refine HQ_blockN ?_
                        refine HQ_then ?_
                        refine hK10 _ _ _ _ ?_; clear hK10 K10
                        refine HC_region ?_
                        all_goals refine HL_r rfl rfl rfl rfl (R_move rfl) ?_
                        all_goals (refine HL_r rfl rfl rfl rfl (R_pure rfl rfl rfl) ?_; refine HL_wrap_i64 (by omega) (by omega) ?_)
                        all_goals refine HL_r rfl rfl rfl rfl (R_assign rfl) ?_
                        all_goals refine HL_nil ?_
                        all_goals (
                          refine HQ_then ?_
                          exact HQ_again (i + 1, n + (a.slots.length : Int)) ⟨by simp only; omega, by simp only; omega, by simp only; omega, by simp only; omega, hinv⟩ (by simp only; omega) (.cons rfl (.cons rfl (.cons rfl .nil))) (List.Sublist.refl _) (fun _ _ h => h)
                          skip)
                        skip)
                      skip)
                  skip)
                skip)
              skip)
          · try exact Bool.noConfusion h9
            all_goals try simp only [decide_eq_true_eq, decide_eq_false_iff_not, beq_iff_eq, beq_eq_false_iff_ne, bne_iff_ne, bne_eq_false_iff_eq, Bool.not_eq_true', Bool.not_eq_false', ne_eq, Int.not_lt, Int.not_le, ge_iff_le, gt_iff_lt] at h9
            all_goals (
              refine HC_exit ?_
              refine HQ_thenE ?_; clear hK5 K5
              refine HQ_thenE ?_
              refine HQ_blockE ?_
              refine HQ_then ?_
              refine hK3 _ _ _ _ ?_; clear hK3 K3
              refine HC_seq fun K16 hK16 => ?_
              refine HC_region ?_
              all_goals refine HL_r rfl rfl rfl rfl (R_fieldAddr rfl rfl (by first | (simp only [Nat.zero_add, Nat.reduceAdd, Nat.reduceMul, Nat.zero_mul, Nat.mul_one, Nat.add_zero]; exact rfl) | exact rfl)) ?_
              all_goals refine HL_r rfl rfl rfl rfl (R_load rfl (known_L (k := 0) rfl) rfl rfl) ?_
              all_goals (refine HL_r rfl rfl rfl rfl (R_lenPl rfl hseg rfl) ?_)
              all_goals refine HL_r rfl rfl rfl rfl (R_pure rfl rfl rfl) ?_
              all_goals refine HL_r rfl rfl rfl rfl (R_move rfl) ?_
              all_goals (refine HL_case 38 rfl (fun hb17 => ?_) (fun hb17 => ?_) <;> (try simp only [decide_eq_true_eq, decide_eq_false_iff_not, beq_iff_eq, beq_eq_false_iff_ne, bne_iff_ne, bne_eq_false_iff_eq, Bool.not_eq_true', Bool.not_eq_false', ne_eq, Int.not_lt, Int.not_le, ge_iff_le, gt_iff_lt] at hb17) <;> first | (refine HL_r rfl rfl rfl rfl (R_move rfl) ?_) | (refine HL_skip rfl rfl rfl ?_))
              all_goals first
                | (refine HL_r rfl rfl rfl rfl (R_pure rfl rfl rfl) ?_)
                | (refine HL_skip rfl rfl rfl ?_)
              all_goals first
                | (refine HL_r rfl rfl rfl rfl (R_pickT rfl rfl) ?_)
                | (refine HL_r rfl rfl rfl rfl (R_pickF rfl rfl) ?_)
              all_goals refine HL_r rfl rfl rfl rfl (R_assign rfl) ?_
              all_goals refine HL_nil ?_
              all_goals (
                refine HQ_then ?_
                refine hK16 _ _ _ _ ?_; clear hK16 K16
                refine HC_ret ?_
                refine HQ_post rfl rfl (.cons (res_tmp rfl) .nil) (fun w1 hs1 => ?_)
                first
                  | (have hff : fewA a.er = false := by simp_all
                     have h1 := few_no (n := n) (er_get ha) hi40 hff
                     rw [hinv] at h1
                     rw [show rb = false from h1]; exact ⟨rfl, hs1.keep⟩)
                  | (rw [few_stop (by rw [s.er_len]; omega)] at hinv
                     obtain ⟨rfl, rfl⟩ := Prod.mk.inj hinv
                     refine ⟨?_, hs1.keep⟩
                     simp [resVal]
                     all_goals first | done | omega | trace_state)
                  | trace_state
                skip)
              skip)
          skip)
        skip)
      skip)
    skip)
end Go.Proofs.Ytnkmbkndpoghdaa
namespace Go.Proofs.Ytnkmbkndpoghdaa
set_option linter.all false
open Go.SL Go.RowKit Go.Shelf
/-! the fixed facts of the law of layouts -/
def rw1 : Rec := ⟨5, 6, ⟨7, 0, 0, 0⟩, w40, w40, 8, 0, 0⟩
def rw3 : Rec := ⟨0, 0, w40, w40, w40, 8, 9, 0⟩
def rwE : Rec := ⟨0, 0, w40, w40, w40, 0, 1, 0⟩
def rwO : Rec := ⟨0, 0, w40, w40, ⟨1, 0, 0, 0⟩, 0, 0, 0⟩
theorem u64_lt {n : Nat} (h : n < 1000) : U64 n := by unfold U64; omega
theorem rw1_ok : rw1.ok := ⟨u64_lt (by decide), u64_lt (by decide), ⟨u64_lt (by decide), u64_0, u64_0, u64_0⟩, w40_ok, w40_ok, u64_lt (by decide), u64_0, u64_0⟩
theorem rw3_ok : rw3.ok := ⟨u64_0, u64_0, w40_ok, w40_ok, w40_ok, u64_lt (by decide), u64_lt (by decide), u64_0⟩
def sw1 : List AcE := (writeE 0 [] rw1).1
def sw3 : List AcE := (writeE 3 sw1 rw3).1
theorem pair0 {p : List AcE × Int} (h : p.2 = 0) : p = (p.1, 0) := by
  obtain ⟨a, b⟩ := p
  cases h; rfl
theorem wk1 : writeE 0 [] rw1 = (sw1, 0) := pair0 (p := writeE 0 [] rw1) (by decide +kernel)
theorem wk3 : writeE 3 sw1 rw3 = (sw3, 0) := pair0 (p := writeE 3 sw1 rw3) (by decide +kernel)
theorem wk4 : sw1.length = 1 := by decide +kernel
theorem wk5 : sw3.length = 2 := by decide +kernel
theorem wk6 : readS 1 sw1 = (rec0, 2) := by decide +kernel
theorem wk7 : readS 0 [] = (rec0, 12) := by decide +kernel
theorem wk8 : fitsE 2 rwE = 2 := by decide +kernel
theorem wk9 : fitsE 3 rwO = 2 := by decide +kernel
theorem wk10 : fitsE 6 rw1 = 10 := by decide +kernel
theorem wk11 : readS 0 sw1 = (rw1, 0) := (back rw1_ok wk1).2.1
theorem wk12 : readS 3 sw3 = (rw3, 0) := (back rw3_ok wk3).2.1
theorem wk13 : checkE 0 sw1 = 0 := (back rw1_ok wk1).1
theorem as_read {f : Int} {s : List AcE} {r : Rec} {e : Int} (h : readS f s = (r, e)) : Value.tuple #[(readS f s).1.val, .int .i64 (readS f s).2] = .tuple #[r.val, .int .i64 e] := by rw [h]
theorem as_int {a b : Int} (h : a = b) : Value.int .i64 a = .int .i64 b := congrArg _ h
theorem as_bool {a b : Bool} (h : a = b) : Value.bool a = .bool b := congrArg _ h
set_option maxRecDepth 10000 in
theorem S_works23 {R : List (Nat × Obj)} : PureR Try.prog 4 #[] (.bool true) R := by
  refine pureR_of_HC Try.func4 rfl rfl fun w => ?_
  refine HC_seq fun K1 hK1 => ?_
  refine HC_region ?_
  all_goals refine HL_r rfl rfl rfl rfl (R_assign rfl) ?_
  all_goals refine HL_nil ?_
  all_goals (
    refine HQ_then ?_
    refine hK1 _ _ _ _ ?_; clear hK1 K1
    refine HC_seq fun K2 hK2 => ?_
    refine HC_region ?_
    all_goals refine HL_r rfl rfl rfl rfl (R_build (r := [_, _, _, _]) rfl rfl) ?_
    all_goals refine HL_r rfl rfl rfl rfl (R_build (r := [_, _, _, _, _, _, _, _, _, _, _, _, _, _, _, _, _]) rfl rfl) ?_
    all_goals refine HL_alloc (cs := #[_, _, _, _, _, _, _, _, _, _, _, _, _, _, _, _, _]) rfl rfl rfl rfl fun r1 => ?_
    all_goals refine HL_storeArr (k := 0) (n := 17) (ys := rw1.cells) rfl rfl rfl rfl rfl rfl rfl rfl rfl ?_
    all_goals refine HL_nil ?_
    all_goals (
      refine HQ_then ?_
      refine hK2 _ _ _ _ ?_; clear hK2 K2
      refine HC_seq fun K3 hK3 => ?_
      refine HC_region ?_
      all_goals refine HL_r rfl rfl rfl rfl (R_build (r := [_]) rfl rfl) ?_
      all_goals refine HL_r rfl rfl rfl rfl (R_loadArr (xs := rw1.cells) (n := 17) rfl (known_L (k := 0) rfl) rfl rfl rfl) ?_
      all_goals refine HL_callRE rfl rfl rfl (enters_of Try.func6 (by kernel_rfl) rfl) (S_Write (R := []) 0 (s := st0L) st0_in (r := rw1) rw1_ok) (fun q hq => nomatch hq) fun x => ?_
      all_goals refine HL_perm List.perm_append_comm ?_
      all_goals change HL _ _ ((25, .tuple #[x.s.val, .int .i64 x.err]) :: _) ((r1, _) :: x.L) _ _ _ _
      all_goals have hxe : x.err = 0 := (congrArg Prod.snd x.eq).trans (congrArg Prod.snd wk1)
      all_goals have hxs : x.s.er = sw1 := (congrArg Prod.fst x.eq).trans (congrArg Prod.fst wk1)
      all_goals rw [hxe]
      all_goals refine HL_r rfl rfl rfl rfl (R_move rfl) ?_
      all_goals refine HL_r rfl rfl rfl rfl (R_extract rfl rfl) ?_
      all_goals refine HL_r rfl rfl rfl rfl (R_extract rfl rfl) ?_
      all_goals refine HL_alloc (cs := #[_]) rfl rfl rfl rfl fun r2 => ?_
      all_goals refine HL_storeArr (k := 0) (n := 1) (ys := x.s.cells) rfl rfl rfl rfl rfl rfl rfl rfl rfl ?_
      all_goals refine HL_r rfl rfl rfl rfl (R_assign rfl) ?_
      all_goals refine HL_nil ?_
      all_goals (
        refine HQ_then ?_
        refine hK3 _ _ _ _ ?_; clear hK3 K3
        refine HC_seq fun K4 hK4 => ?_
        refine HC_region ?_
        all_goals refine HL_r rfl rfl rfl rfl (R_loadArr (xs := x.s.cells) (n := 1) rfl (known_L (k := 0) rfl) rfl rfl rfl) ?_
        all_goals refine HL_callR rfl rfl rfl (enters_of Try.func11 (by kernel_rfl) rfl) (S_lRead (R := x.L ++ []) 0 x.ok) (fun q hq => Or.inl (List.mem_cons_of_mem _ (List.mem_cons_of_mem _ (List.append_nil x.L ▸ hq)))) ?_; refine HL_as (as_read (hxs ▸ wk11)) ?_
        all_goals refine HL_r rfl rfl rfl rfl (R_move rfl) ?_
        all_goals refine HL_r rfl rfl rfl rfl (R_extract rfl rfl) ?_
        all_goals refine HL_r rfl rfl rfl rfl (R_extract rfl rfl) ?_
        all_goals refine HL_alloc (cs := #[_, _, _, _, _, _, _, _, _, _, _, _, _, _, _, _, _]) rfl rfl rfl rfl fun r3 => ?_
        all_goals refine HL_storeArr (k := 0) (n := 17) (ys := rw1.cells) rfl rfl rfl rfl rfl rfl rfl rfl rfl ?_
        all_goals refine HL_r rfl rfl rfl rfl (R_assign rfl) ?_
        all_goals refine HL_nil ?_
        all_goals (
          refine HQ_then ?_
          refine hK4 _ _ _ _ ?_; clear hK4 K4
          refine HC_seq fun K5 hK5 => ?_
          refine HC_region ?_
          all_goals refine HL_r rfl rfl rfl rfl (R_loadArr (xs := x.s.cells) (n := 1) rfl (known_L (k := 1) rfl) rfl rfl rfl) ?_
          all_goals refine HL_callR rfl rfl rfl (enters_of Try.func11 (by kernel_rfl) rfl) (S_lRead (R := x.L ++ []) 1 x.ok) (fun q hq => Or.inl (List.mem_cons_of_mem _ (List.mem_cons_of_mem _ (List.mem_cons_of_mem _ (List.append_nil x.L ▸ hq))))) ?_; refine HL_as (as_read (hxs ▸ wk6)) ?_
          all_goals refine HL_r rfl rfl rfl rfl (R_move rfl) ?_
          all_goals refine HL_r rfl rfl rfl rfl (R_extract rfl rfl) ?_
          all_goals refine HL_r rfl rfl rfl rfl (R_extract rfl rfl) ?_
          all_goals refine HL_alloc (cs := #[_, _, _, _, _, _, _, _, _, _, _, _, _, _, _, _, _]) rfl rfl rfl rfl fun r4 => ?_
          all_goals refine HL_storeArr (k := 0) (n := 17) (ys := rec0.cells) rfl rfl rfl rfl rfl rfl rfl rfl rfl ?_
          all_goals refine HL_r rfl rfl rfl rfl (R_assign rfl) ?_
          all_goals refine HL_nil ?_
          all_goals (
            refine HQ_then ?_
            refine hK5 _ _ _ _ ?_; clear hK5 K5
            refine HC_seq fun K6 hK6 => ?_
            refine HC_region ?_
            all_goals refine HL_r rfl rfl rfl rfl (R_loadArr (xs := x.s.cells) (n := 1) rfl (known_L (k := 2) rfl) rfl rfl rfl) ?_
            all_goals refine HL_r rfl rfl rfl rfl (R_build (r := [_, _, _, _, _, _, _, _, _, _, _, _, _, _, _, _, _]) rfl rfl) ?_
            all_goals refine HL_callRE rfl rfl rfl (enters_of Try.func6 (by kernel_rfl) rfl) (S_Write (R := x.L ++ []) 3 x.ok (r := rw3) rw3_ok) (fun q hq => Or.inl (List.mem_cons_of_mem _ (List.mem_cons_of_mem _ (List.mem_cons_of_mem _ (List.mem_cons_of_mem _ (List.append_nil x.L ▸ hq)))))) fun y => ?_
            all_goals refine HL_perm (perm_mid y.L [_, _, _, _] x.L) ?_
            all_goals change HL _ _ ((41, .tuple #[y.s.val, .int .i64 y.err]) :: _) ((r4, _) :: (r3, _) :: (r2, _) :: (r1, _) :: (y.L ++ x.L)) _ _ _ _
            all_goals have hye : y.err = 0 := (congrArg Prod.snd y.eq).trans (by rw [hxs, wk3])
            all_goals have hys : y.s.er = sw3 := (congrArg Prod.fst y.eq).trans (by rw [hxs, wk3])
            all_goals rw [hye]
            all_goals refine HL_r rfl rfl rfl rfl (R_move rfl) ?_
            all_goals refine HL_r rfl rfl rfl rfl (R_extract rfl rfl) ?_
            all_goals refine HL_r rfl rfl rfl rfl (R_extract rfl rfl) ?_
            all_goals refine HL_alloc (cs := #[_]) rfl rfl rfl rfl fun r5 => ?_
            all_goals refine HL_storeArr (k := 0) (n := 1) (ys := y.s.cells) rfl rfl rfl rfl rfl rfl rfl rfl rfl ?_
            all_goals refine HL_r rfl rfl rfl rfl (R_assign rfl) ?_
            all_goals refine HL_nil ?_
            all_goals (
              refine HQ_then ?_
              refine hK6 _ _ _ _ ?_; clear hK6 K6
              refine HC_seq fun K7 hK7 => ?_
              refine HC_region ?_
              all_goals refine HL_r rfl rfl rfl rfl (R_loadArr (xs := y.s.cells) (n := 1) rfl (known_L (k := 0) rfl) rfl rfl rfl) ?_
              all_goals refine HL_callR rfl rfl rfl (enters_of Try.func11 (by kernel_rfl) rfl) (S_lRead (R := y.L ++ (x.L ++ [])) 3 y.ok) (fun q hq => Or.inl (List.mem_cons_of_mem _ (List.mem_cons_of_mem _ (List.mem_cons_of_mem _ (List.mem_cons_of_mem _ (List.mem_cons_of_mem _ ((List.mem_append.1 hq).elim (fun h => List.mem_append_left _ h) fun h => List.mem_append_right _ (List.append_nil x.L ▸ h)))))))) ?_; refine HL_as (as_read (hys ▸ wk12)) ?_
              all_goals refine HL_r rfl rfl rfl rfl (R_move rfl) ?_
              all_goals refine HL_r rfl rfl rfl rfl (R_extract rfl rfl) ?_
              all_goals refine HL_r rfl rfl rfl rfl (R_extract rfl rfl) ?_
              all_goals refine HL_alloc (cs := #[_, _, _, _, _, _, _, _, _, _, _, _, _, _, _, _, _]) rfl rfl rfl rfl fun r6 => ?_
              all_goals refine HL_storeArr (k := 0) (n := 17) (ys := rw3.cells) rfl rfl rfl rfl rfl rfl rfl rfl rfl ?_
              all_goals refine HL_r rfl rfl rfl rfl (R_assign rfl) ?_
              all_goals refine HL_nil ?_
              all_goals (
                refine HQ_then ?_
                refine hK7 _ _ _ _ ?_; clear hK7 K7
                refine HC_seq fun K8 hK8 => ?_
                refine HC_region ?_
                all_goals refine HL_r rfl rfl rfl rfl (R_build (r := [_]) rfl rfl) ?_
                all_goals refine HL_callR rfl rfl rfl (enters_of Try.func11 (by kernel_rfl) rfl) (S_lRead (R := []) 0 (s := st0L) st0_in) (fun q hq => nomatch hq) ?_; refine HL_as (as_read wk7) ?_
                all_goals refine HL_r rfl rfl rfl rfl (R_move rfl) ?_
                all_goals refine HL_r rfl rfl rfl rfl (R_extract rfl rfl) ?_
                all_goals refine HL_r rfl rfl rfl rfl (R_extract rfl rfl) ?_
                all_goals refine HL_alloc (cs := #[_, _, _, _, _, _, _, _, _, _, _, _, _, _, _, _, _]) rfl rfl rfl rfl fun r7 => ?_
                all_goals refine HL_storeArr (k := 0) (n := 17) (ys := rec0.cells) rfl rfl rfl rfl rfl rfl rfl rfl rfl ?_
                all_goals refine HL_r rfl rfl rfl rfl (R_assign rfl) ?_
                all_goals refine HL_nil ?_
                all_goals (
                  refine HQ_then ?_
                  refine hK8 _ _ _ _ ?_; clear hK8 K8
                  refine HC_seq fun K9 hK9 => ?_
                  refine HC_region ?_
                  all_goals refine HL_callP rfl rfl rfl (enters_of Try.func12 (by kernel_rfl) rfl) (P_Code 1 1) ?_; refine HL_as (show _ = Value.tuple #[strV [], .bool false, .int .i64 0] from rfl) ?_
                  all_goals refine HL_r rfl rfl rfl rfl (R_move rfl) ?_
                  all_goals refine HL_r rfl rfl rfl rfl (R_extract rfl rfl) ?_
                  all_goals refine HL_r rfl rfl rfl rfl (R_extract rfl rfl) ?_
                  all_goals refine HL_r rfl rfl rfl rfl (R_extract rfl rfl) ?_
                  all_goals refine HL_r rfl rfl rfl rfl (R_assign rfl) ?_
                  all_goals refine HL_r rfl rfl rfl rfl (R_assign rfl) ?_
                  all_goals refine HL_r rfl rfl rfl rfl (R_assign rfl) ?_
                  all_goals refine HL_nil ?_
                  all_goals (
                    refine HQ_then ?_
                    refine hK9 _ _ _ _ ?_; clear hK9 K9
                    refine HC_seq fun K10 hK10 => ?_
                    refine HC_region ?_
                    all_goals refine HL_callP rfl rfl rfl (enters_of Try.func12 (by kernel_rfl) rfl) (P_Code 5 0) ?_; refine HL_as (show _ = Value.tuple #[strV cFive, .bool true, .int .i64 0] from rfl) ?_
                    all_goals refine HL_r rfl rfl rfl rfl (R_move rfl) ?_
                    all_goals refine HL_r rfl rfl rfl rfl (R_extract rfl rfl) ?_
                    all_goals refine HL_r rfl rfl rfl rfl (R_extract rfl rfl) ?_
                    all_goals refine HL_r rfl rfl rfl rfl (R_extract rfl rfl) ?_
                    all_goals refine HL_r rfl rfl rfl rfl (R_assign rfl) ?_
                    all_goals refine HL_r rfl rfl rfl rfl (R_assign rfl) ?_
                    all_goals refine HL_r rfl rfl rfl rfl (R_assign rfl) ?_
                    all_goals refine HL_nil ?_
                    all_goals (
                      refine HQ_then ?_
                      refine hK10 _ _ _ _ ?_; clear hK10 K10
                      refine HC_seq fun K11 hK11 => ?_
                      refine HC_region ?_
                      all_goals refine HL_r rfl rfl rfl rfl (R_move rfl) ?_
                      all_goals refine HL_r rfl rfl rfl rfl (R_pure rfl rfl rfl) ?_
                      all_goals refine HL_r rfl rfl rfl rfl (R_move rfl) ?_
                      all_goals (refine HL_r rfl rfl rfl rfl (R_move rfl) ?_)
                      all_goals (refine HL_r rfl rfl rfl rfl (R_pure rfl rfl rfl) ?_)
                      all_goals (refine HL_r rfl rfl rfl rfl (R_pickT rfl rfl) ?_)
                      all_goals refine HL_r rfl rfl rfl rfl (R_move rfl) ?_
                      all_goals refine HL_r rfl rfl rfl rfl (R_loadArr (xs := rw1.cells) (n := 17) rfl (known_L (k := 4) rfl) rfl rfl rfl) ?_
                      all_goals refine HL_r rfl rfl rfl rfl (R_loadArr (xs := rw1.cells) (n := 17) rfl (known_L (k := 6) rfl) rfl rfl rfl) ?_
                      all_goals refine HL_r rfl rfl rfl rfl (R_eqStr (xs := (rw1).cells) (ys := (rw1).cells) rfl rfl rfl (by kernel_rfl) (by kernel_rfl) (.scal (by decide) rfl rfl rfl rfl rfl (.scal (by decide) rfl rfl rfl rfl rfl (.arr (by decide) rfl rfl rfl rfl rfl rfl rfl rfl rfl rfl (.arr (by decide) rfl rfl rfl rfl rfl rfl rfl rfl rfl rfl (.arr (by decide) rfl rfl rfl rfl rfl rfl rfl rfl rfl rfl (.scal (by decide) rfl rfl rfl rfl rfl (.scal (by decide) rfl rfl rfl rfl rfl (.scal (by decide) rfl rfl rfl rfl rfl .nil))))))))) ?_; refine HL_as (congrArg Value.bool (rec_eq (rw1) (rw1))) ?_; refine HL_as (as_bool (show decide (rw1 = rw1) = true from decide_eq_true rfl)) ?_
                      all_goals (refine HL_r rfl rfl rfl rfl (R_pickT rfl rfl) ?_)
                      all_goals refine HL_r rfl rfl rfl rfl (R_move rfl) ?_
                      all_goals (refine HL_r rfl rfl rfl rfl (R_move rfl) ?_)
                      all_goals (refine HL_r rfl rfl rfl rfl (R_pure rfl rfl rfl) ?_)
                      all_goals (refine HL_r rfl rfl rfl rfl (R_pickT rfl rfl) ?_)
                      all_goals refine HL_r rfl rfl rfl rfl (R_move rfl) ?_
                      all_goals (refine HL_r rfl rfl rfl rfl (R_move rfl) ?_)
                      all_goals (refine HL_r rfl rfl rfl rfl (R_pure rfl rfl rfl) ?_)
                      all_goals (refine HL_r rfl rfl rfl rfl (R_pickT rfl rfl) ?_)
                      all_goals refine HL_r rfl rfl rfl rfl (R_move rfl) ?_
                      all_goals (refine HL_r rfl rfl rfl rfl (R_move rfl) ?_)
                      all_goals (refine HL_r rfl rfl rfl rfl (R_pure rfl rfl rfl) ?_)
                      all_goals (refine HL_r rfl rfl rfl rfl (R_pickT rfl rfl) ?_)
                      all_goals refine HL_r rfl rfl rfl rfl (R_move rfl) ?_
                      all_goals refine HL_r rfl rfl rfl rfl (R_loadArr (xs := rw3.cells) (n := 17) rfl (known_L (k := 1) rfl) rfl rfl rfl) ?_
                      all_goals (refine HL_r rfl rfl rfl rfl (R_build (r := [_, _, _, _, _, _, _, _, _, _, _, _, _, _, _, _, _]) rfl rfl) ?_)
                      all_goals refine HL_r rfl rfl rfl rfl (R_eqStr (xs := (rw3).cells) (ys := (rw3).cells) rfl rfl rfl (by kernel_rfl) (by kernel_rfl) (.scal (by decide) rfl rfl rfl rfl rfl (.scal (by decide) rfl rfl rfl rfl rfl (.arr (by decide) rfl rfl rfl rfl rfl rfl rfl rfl rfl rfl (.arr (by decide) rfl rfl rfl rfl rfl rfl rfl rfl rfl rfl (.arr (by decide) rfl rfl rfl rfl rfl rfl rfl rfl rfl rfl (.scal (by decide) rfl rfl rfl rfl rfl (.scal (by decide) rfl rfl rfl rfl rfl (.scal (by decide) rfl rfl rfl rfl rfl .nil))))))))) ?_; refine HL_as (congrArg Value.bool (rec_eq (rw3) (rw3))) ?_; refine HL_as (as_bool (show decide (rw3 = rw3) = true from decide_eq_true rfl)) ?_
                      all_goals (refine HL_r rfl rfl rfl rfl (R_pickT rfl rfl) ?_)
                      all_goals refine HL_r rfl rfl rfl rfl (R_move rfl) ?_
                      all_goals (refine HL_r rfl rfl rfl rfl (R_move rfl) ?_)
                      all_goals (refine HL_r rfl rfl rfl rfl (R_pure rfl rfl rfl) ?_)
                      all_goals (refine HL_r rfl rfl rfl rfl (R_pickT rfl rfl) ?_)
                      all_goals refine HL_r rfl rfl rfl rfl (R_move rfl) ?_
                      all_goals (refine HL_r rfl rfl rfl rfl (R_move rfl) ?_)
                      all_goals refine HL_r rfl rfl rfl rfl (R_strEq (a := []) (b := []) rfl rfl) ?_
                      all_goals (refine HL_r rfl rfl rfl rfl (R_pickT rfl rfl) ?_)
                      all_goals refine HL_r rfl rfl rfl rfl (R_move rfl) ?_
                      all_goals (refine HL_r rfl rfl rfl rfl (R_move rfl) ?_)
                      all_goals (refine HL_r rfl rfl rfl rfl (R_pure rfl rfl rfl) ?_)
                      all_goals (refine HL_r rfl rfl rfl rfl (R_pickT rfl rfl) ?_)
                      all_goals refine HL_r rfl rfl rfl rfl (R_move rfl) ?_
                      all_goals (refine HL_r rfl rfl rfl rfl (R_move rfl) ?_)
                      all_goals (refine HL_r rfl rfl rfl rfl (R_pure rfl rfl rfl) ?_)
                      all_goals (refine HL_r rfl rfl rfl rfl (R_pickT rfl rfl) ?_)
                      all_goals refine HL_r rfl rfl rfl rfl (R_move rfl) ?_
                      all_goals (refine HL_r rfl rfl rfl rfl (R_move rfl) ?_)
                      all_goals refine HL_r rfl rfl rfl rfl (R_strEq (a := cFive) (b := cFive) rfl rfl) ?_; refine HL_as (as_bool (show decide (cFive = cFive) = true from decide_eq_true rfl)) ?_
                      all_goals (refine HL_r rfl rfl rfl rfl (R_pickT rfl rfl) ?_)
                      all_goals refine HL_r rfl rfl rfl rfl (R_move rfl) ?_
                      all_goals (refine HL_r rfl rfl rfl rfl (R_move rfl) ?_)
                      all_goals (refine HL_r rfl rfl rfl rfl (R_pickT rfl rfl) ?_)
                      all_goals refine HL_r rfl rfl rfl rfl (R_move rfl) ?_
                      all_goals (refine HL_r rfl rfl rfl rfl (R_move rfl) ?_)
                      all_goals (refine HL_r rfl rfl rfl rfl (R_pure rfl rfl rfl) ?_)
                      all_goals (refine HL_r rfl rfl rfl rfl (R_pickT rfl rfl) ?_)
                      all_goals refine HL_r rfl rfl rfl rfl (R_move rfl) ?_
                      all_goals (refine HL_r rfl rfl rfl rfl (R_build (r := [_, _, _, _, _, _, _, _, _, _, _, _, _, _, _, _, _]) rfl rfl) ?_)
                      all_goals refine HL_callP rfl rfl rfl (enters_of Try.func13 (by kernel_rfl) rfl) (P_Fits 2 rwE) ?_; refine HL_as (as_int wk8) ?_
                      all_goals (refine HL_r rfl rfl rfl rfl (R_pure rfl rfl rfl) ?_)
                      all_goals (refine HL_r rfl rfl rfl rfl (R_pickT rfl rfl) ?_)
                      all_goals refine HL_r rfl rfl rfl rfl (R_move rfl) ?_
                      all_goals (refine HL_r rfl rfl rfl rfl (R_build (r := [_, _, _, _]) rfl rfl) ?_)
                      all_goals (refine HL_r rfl rfl rfl rfl (R_build (r := [_, _, _, _, _, _, _, _, _, _, _, _, _, _, _, _, _]) rfl rfl) ?_)
                      all_goals refine HL_callP rfl rfl rfl (enters_of Try.func13 (by kernel_rfl) rfl) (P_Fits 3 rwO) ?_; refine HL_as (as_int wk9) ?_
                      all_goals (refine HL_r rfl rfl rfl rfl (R_pure rfl rfl rfl) ?_)
                      all_goals (refine HL_r rfl rfl rfl rfl (R_pickT rfl rfl) ?_)
                      all_goals refine HL_r rfl rfl rfl rfl (R_move rfl) ?_
                      all_goals refine HL_r rfl rfl rfl rfl (R_loadArr (xs := rw1.cells) (n := 17) rfl (known_L (k := 6) rfl) rfl rfl rfl) ?_
                      all_goals refine HL_callP rfl rfl rfl (enters_of Try.func13 (by kernel_rfl) rfl) (P_Fits 6 rw1) ?_; refine HL_as (as_int wk10) ?_
                      all_goals (refine HL_r rfl rfl rfl rfl (R_pure rfl rfl rfl) ?_)
                      all_goals (refine HL_r rfl rfl rfl rfl (R_pickT rfl rfl) ?_)
                      all_goals refine HL_r rfl rfl rfl rfl (R_move rfl) ?_
                      all_goals refine HL_callP rfl rfl rfl (enters_of Try.func8 (by kernel_rfl) rfl) (P_Addr 0) ?_
                      all_goals refine HL_r rfl rfl rfl rfl (R_lenStr rfl rfl rfl) ?_; refine HL_as (show _ = Value.int .i64 20 from rfl) ?_
                      all_goals (refine HL_r rfl rfl rfl rfl (R_pure rfl rfl rfl) ?_)
                      all_goals (refine HL_r rfl rfl rfl rfl (R_pickT rfl rfl) ?_)
                      all_goals refine HL_r rfl rfl rfl rfl (R_move rfl) ?_
                      all_goals refine HL_callP rfl rfl rfl (enters_of Try.func8 (by kernel_rfl) rfl) (P_Addr 2) ?_
                      all_goals refine HL_r rfl rfl rfl rfl (R_strEq (a := []) (b := []) rfl rfl) ?_
                      all_goals (refine HL_r rfl rfl rfl rfl (R_pickT rfl rfl) ?_)
                      all_goals refine HL_r rfl rfl rfl rfl (R_move rfl) ?_
                      all_goals refine HL_r rfl rfl rfl rfl (R_loadArr (xs := x.s.cells) (n := 1) rfl (known_L (k := 5) rfl) rfl rfl rfl) ?_
                      all_goals refine HL_callR rfl rfl rfl (enters_of Try.func14 (by kernel_rfl) rfl) (S_lCheck (R := x.L ++ []) 0 x.ok) (fun q hq => Or.inl (List.mem_cons_of_mem _ (List.mem_cons_of_mem _ (List.mem_cons_of_mem _ (List.mem_cons_of_mem _ (List.mem_cons_of_mem _ (List.mem_cons_of_mem _ (List.mem_cons_of_mem _ (List.mem_append_right _ (List.append_nil x.L ▸ hq)))))))))) ?_; refine HL_as (as_int (hxs ▸ wk13)) ?_
                      all_goals (refine HL_r rfl rfl rfl rfl (R_pure rfl rfl rfl) ?_)
                      all_goals (refine HL_r rfl rfl rfl rfl (R_pickT rfl rfl) ?_)
                      all_goals refine HL_r rfl rfl rfl rfl (R_move rfl) ?_
                      all_goals (refine HL_r rfl rfl rfl rfl (R_fieldAddr rfl rfl (by first | (simp only [Nat.zero_add, Nat.reduceAdd, Nat.reduceMul, Nat.zero_mul, Nat.mul_one, Nat.add_zero]; exact rfl) | exact rfl)) ?_)
                      all_goals (refine HL_r rfl rfl rfl rfl (R_load rfl (known_L (k := 5) rfl) rfl rfl) ?_)
                      all_goals refine HL_r rfl rfl rfl rfl (R_lenPl rfl x.ok.seg rfl) ?_; refine HL_as (as_int (show _ = (1 : Int) by rw [← x.s.er_len, hxs, wk4]; rfl)) ?_
                      all_goals (refine HL_r rfl rfl rfl rfl (R_pure rfl rfl rfl) ?_)
                      all_goals (refine HL_r rfl rfl rfl rfl (R_pickT rfl rfl) ?_)
                      all_goals refine HL_r rfl rfl rfl rfl (R_move rfl) ?_
                      all_goals (refine HL_r rfl rfl rfl rfl (R_fieldAddr rfl rfl (by first | (simp only [Nat.zero_add, Nat.reduceAdd, Nat.reduceMul, Nat.zero_mul, Nat.mul_one, Nat.add_zero]; exact rfl) | exact rfl)) ?_)
                      all_goals (refine HL_r rfl rfl rfl rfl (R_load rfl (known_L (k := 2) rfl) rfl rfl) ?_)
                      all_goals refine HL_r rfl rfl rfl rfl (R_lenPl rfl y.ok.seg rfl) ?_; refine HL_as (as_int (show _ = (2 : Int) by rw [← y.s.er_len, hys, wk5]; rfl)) ?_
                      all_goals (refine HL_r rfl rfl rfl rfl (R_pure rfl rfl rfl) ?_)
                      all_goals (refine HL_r rfl rfl rfl rfl (R_pickT rfl rfl) ?_)
                      all_goals refine HL_r rfl rfl rfl rfl (R_assign rfl) ?_
                      all_goals refine HL_nil ?_
                      all_goals (
                        refine HQ_then ?_
                        refine hK11 _ _ _ _ ?_; clear hK11 K11
                        refine HC_ret ?_
                        refine HQ_post rfl rfl (.cons (res_tmp rfl) .nil) (fun w1 hs1 => ?_)
                        exact ⟨rfl, hs1.keep⟩
                        skip)
                      skip)
                    skip)
                  skip)
                skip)
              skip)
            skip)
          skip)
        skip)
      skip)
    skip)
end Go.Proofs.Ytnkmbkndpoghdaa
