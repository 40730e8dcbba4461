import Derived.Test.YtiamhecfkcgldaaLc
namespace Go.Proofs.Ytiamhecfkcgldaa
set_option linter.all false
open Go.SL Go.RowKit Go.Shelf
def keyA (v : Value) : Int := (numsOf v).headD 0
def keyB (v : Value) : Int := ((numsOf v).drop 1).headD 0
theorem keyA_mk (a b : Int) : keyA (.agg [.int .i64 a, .int .i64 b].toArray) = a := rfl
theorem keyB_mk (a b : Int) : keyB (.agg [.int .i64 a, .int .i64 b].toArray) = b := rfl
def versKV (k : Int) (l : List (Value × Value)) : List Int := (l.filter fun p => keyA p.1 == k).map fun p => keyB p.1
def versOf (k : Int) (l : List MapEntry) : List Int := versKV k (l.map kvOf)
theorem versOf_one {k : Int} {l : List MapEntry} {e : MapEntry} {a b : Int} (h : e.key = .agg [.int .i64 a, .int .i64 b].toArray) : versOf k (l ++ [e]) = versOf k l ++ (if a = k then [b] else []) := by
  simp only [versOf, versKV, List.map_append, List.filter_append, List.map_cons, List.map_nil, kvOf, h, List.filter_cons, keyA_mk, List.filter_nil]
  by_cases hk : a = k <;> simp [hk, keyB_mk]
theorem versKV_len (k : Int) (l : List (Value × Value)) : (versKV k l).length ≤ l.length := by
  unfold versKV; rw [List.length_map]; exact List.length_filter_le _ _
theorem versKV_perm {k : Int} {l l' : List (Value × Value)} (h : l.Perm l') : (versKV k l).Perm (versKV k l') := (h.filter _).map _
/-- The steps of the program's own iterator. -/
def nxV (ys : List Int) (v : List Value) (ys' : List Int) : Prop := ∃ x, v = [.int .i64 x] ∧ ys' = ys ++ [x] ∧ ys.length < 14
def fiV (k : Int) (ys : List Int) : Prop := ys.Perm (versKV k tableKV)
theorem I_versions (k : Int) (p : Nat) : Iter Try.prog 22 [.pointer (some ⟨p, 0, none⟩)] [(p, .cells #[.int .i64 k] 3 (0, 0))] ([] : List Int) nxV (fiV k) := by
  refine iter_of_HC Try.func22 rfl rfl fun q xids w2 XI XF hY => ?_
  refine HC_seq fun K1 hK1 => ?_
  refine HC_region ?_
  all_goals refine HL_callPE rfl rfl rfl (enters_of Try.func17 (by kernel_rfl) rfl) E_legal_table fun x1 => ?_
  all_goals obtain ⟨⟨mr, mes⟩, hmes, hborn⟩ := x1
  all_goals change HL _ _ _ [(mr, .map mes mes.size)] _ _ _ _
  all_goals have hnd : (mes.toList.map (·.born)).Nodup := by rw [show mes.toList.map (·.born) = List.range mes.size from hborn]; exact List.nodup_range
  all_goals have hlt : ∀ e ∈ mes.toList, e.born < mes.size := fun e he => List.mem_range.1 (by rw [← show mes.toList.map (·.born) = List.range mes.size from hborn]; exact List.mem_map_of_mem (f := (·.born)) he)
  all_goals have h14 : mes.toList.length = 14 := by have := List.Perm.length_eq (show (mes.toList.map kvOf).Perm tableKV from hmes); rw [List.length_map] at this; exact this
  all_goals refine HL_rangeMap (c := ⟨Try.prog, none, w2, [], xids, _, _⟩) rfl rfl rfl (known_L (k := 0) rfl) rfl fun qi => ?_
  all_goals refine HL_nil ?_
  all_goals (
    refine HQ_then ?_
    refine hK1 _ _ _ _ ?_; clear hK1 K1
    refine HC_block ?_
    refine HC_loop (σ := List MapEntry × Array Nat) (fun s => (s.1 ++ leftE mes.toList s.2).Perm mes.toList) (fun _ => [(0, .func (.yield q) #[] #[]), (1, .pointer (some ⟨p, 0, none⟩)), (5, .pointer (some ⟨qi, 0, none⟩))]) (fun s => [(qi, .mapIter (some mr) mes.size s.2 mes.size), (mr, .map mes mes.size)]) (fun s => XI (versOf k s.1)) (fun s => (leftE mes.toList s.2).length) ([], #[]) (by rw [leftE_nil]; exact List.Perm.refl _) (.cons rfl (.cons rfl (.cons rfl .nil))) (List.Sublist.refl _) (fun _ _ h => h) ?_
    rintro ⟨done, seen⟩ hI
    simp only at hI
    refine HC_seq fun K2 hK2 => ?_
    refine HC_region ?_
    all_goals refine HL_next (k := 0) rfl rfl rfl rfl (known_L (k := 1) rfl) hlt (fun hleft => ?_) (fun e he L1 hL1 => ?_)
    all_goals try (simp only [List.set_cons_zero] at hL1; subst hL1)
    all_goals refine HL_r rfl rfl rfl rfl (R_extract rfl rfl) ?_
    all_goals refine HL_nil ?_
    all_goals (
      refine HQ_then ?_
      refine hK2 _ _ _ _ ?_; clear hK2 K2
      refine HC_seq fun K3 hK3 => ?_
      refine HC_cond rfl (fun h4 => ?_) (fun h4 => ?_)
      · try exact Bool.noConfusion h4
        all_goals try simp only [decide_eq_true_eq, decide_eq_false_iff_not, beq_iff_eq, beq_eq_false_iff_ne, bne_iff_ne, bne_eq_false_iff_eq, Bool.not_eq_true', Bool.not_eq_false', ne_eq, Int.not_lt, Int.not_le, ge_iff_le, gt_iff_lt] at h4
        all_goals (
          refine HC_skip ?_
          refine HQ_then ?_
          refine hK3 _ _ _ _ ?_; clear hK3 K3
          refine HC_block ?_
          refine HC_seq fun K5 hK5 => ?_
          refine HC_region ?_
          all_goals obtain ⟨ka, kb, hab⟩ : isPair e.key := table_dom hmes e (left_mem he)
          all_goals refine HL_r rfl rfl rfl rfl (R_entry rfl (known_L (k := 0) rfl) (known_L (k := 1) rfl) hnd (left_mem he)) ?_
          all_goals refine HL_as (show _ = Value.tuple #[.agg [.int .i64 ka, .int .i64 kb].toArray, e.val] from by rw [hab]; rfl) ?_
          all_goals refine HL_r rfl rfl rfl rfl (R_extract rfl rfl) ?_
          all_goals refine HL_alloc (cs := #[_, _]) rfl rfl rfl rfl fun r1 => ?_
          all_goals first
            | (refine HL_storeA (k := 0) (n := 2) (cs' := #[_, _]) (vs := #[_, _]) rfl rfl rfl rfl rfl rfl rfl (by exact Nat.le_of_ble_eq_true rfl) rfl (by first | (simp only [List.set_cons_zero, List.set_cons_succ]; exact rfl) | exact rfl) ?_)
            | (refine HL_storeA (k := 1) (n := 2) (cs' := #[_, _]) (vs := #[_, _]) rfl rfl rfl rfl rfl rfl rfl (by exact Nat.le_of_ble_eq_true rfl) rfl (by first | (simp only [List.set_cons_zero, List.set_cons_succ]; exact rfl) | exact rfl) ?_)
            | (refine HL_storeA (k := 2) (n := 2) (cs' := #[_, _]) (vs := #[_, _]) rfl rfl rfl rfl rfl rfl rfl (by exact Nat.le_of_ble_eq_true rfl) rfl (by first | (simp only [List.set_cons_zero, List.set_cons_succ]; exact rfl) | exact rfl) ?_)
            | (refine HL_storeA (k := 3) (n := 2) (cs' := #[_, _]) (vs := #[_, _]) rfl rfl rfl rfl rfl rfl rfl (by exact Nat.le_of_ble_eq_true rfl) rfl (by first | (simp only [List.set_cons_zero, List.set_cons_succ]; exact rfl) | exact rfl) ?_)
            | (refine HL_storeA (k := 4) (n := 2) (cs' := #[_, _]) (vs := #[_, _]) rfl rfl rfl rfl rfl rfl rfl (by exact Nat.le_of_ble_eq_true rfl) rfl (by first | (simp only [List.set_cons_zero, List.set_cons_succ]; exact rfl) | exact rfl) ?_)
            | (refine HL_storeA (k := 5) (n := 2) (cs' := #[_, _]) (vs := #[_, _]) rfl rfl rfl rfl rfl rfl rfl (by exact Nat.le_of_ble_eq_true rfl) rfl (by first | (simp only [List.set_cons_zero, List.set_cons_succ]; exact rfl) | exact rfl) ?_)
            | (refine HL_storeA (k := 0) (n := 2) (vs := #[_, _]) rfl rfl rfl rfl rfl rfl rfl (by exact Nat.le_of_ble_eq_true rfl) (by first | (simp only [List.take_zero, List.nil_append, Array.toList_toArray, List.drop_succ_cons, List.drop_zero, List.take_succ_cons, List.cons_append, Nat.zero_add, Nat.reduceAdd, List.append_nil, List.drop_nil]; exact rfl) | exact rfl) (by first | (simp only [List.set_cons_zero, List.set_cons_succ]; exact rfl) | exact rfl) ?_)
            | (refine HL_storeA (k := 1) (n := 2) (vs := #[_, _]) rfl rfl rfl rfl rfl rfl rfl (by exact Nat.le_of_ble_eq_true rfl) (by first | (simp only [List.take_zero, List.nil_append, Array.toList_toArray, List.drop_succ_cons, List.drop_zero, List.take_succ_cons, List.cons_append, Nat.zero_add, Nat.reduceAdd, List.append_nil, List.drop_nil]; exact rfl) | exact rfl) (by first | (simp only [List.set_cons_zero, List.set_cons_succ]; exact rfl) | exact rfl) ?_)
            | (refine HL_storeA (k := 2) (n := 2) (vs := #[_, _]) rfl rfl rfl rfl rfl rfl rfl (by exact Nat.le_of_ble_eq_true rfl) (by first | (simp only [List.take_zero, List.nil_append, Array.toList_toArray, List.drop_succ_cons, List.drop_zero, List.take_succ_cons, List.cons_append, Nat.zero_add, Nat.reduceAdd, List.append_nil, List.drop_nil]; exact rfl) | exact rfl) (by first | (simp only [List.set_cons_zero, List.set_cons_succ]; exact rfl) | exact rfl) ?_)
            | (refine HL_storeA (k := 3) (n := 2) (vs := #[_, _]) rfl rfl rfl rfl rfl rfl rfl (by exact Nat.le_of_ble_eq_true rfl) (by first | (simp only [List.take_zero, List.nil_append, Array.toList_toArray, List.drop_succ_cons, List.drop_zero, List.take_succ_cons, List.cons_append, Nat.zero_add, Nat.reduceAdd, List.append_nil, List.drop_nil]; exact rfl) | exact rfl) (by first | (simp only [List.set_cons_zero, List.set_cons_succ]; exact rfl) | exact rfl) ?_)
            | (refine HL_storeA (k := 4) (n := 2) (vs := #[_, _]) rfl rfl rfl rfl rfl rfl rfl (by exact Nat.le_of_ble_eq_true rfl) (by first | (simp only [List.take_zero, List.nil_append, Array.toList_toArray, List.drop_succ_cons, List.drop_zero, List.take_succ_cons, List.cons_append, Nat.zero_add, Nat.reduceAdd, List.append_nil, List.drop_nil]; exact rfl) | exact rfl) (by first | (simp only [List.set_cons_zero, List.set_cons_succ]; exact rfl) | exact rfl) ?_)
            | (refine HL_storeA (k := 5) (n := 2) (vs := #[_, _]) rfl rfl rfl rfl rfl rfl rfl (by exact Nat.le_of_ble_eq_true rfl) (by first | (simp only [List.take_zero, List.nil_append, Array.toList_toArray, List.drop_succ_cons, List.drop_zero, List.take_succ_cons, List.cons_append, Nat.zero_add, Nat.reduceAdd, List.append_nil, List.drop_nil]; exact rfl) | exact rfl) (by first | (simp only [List.set_cons_zero, List.set_cons_succ]; exact rfl) | exact rfl) ?_)
          all_goals refine HL_nil ?_
          all_goals (
            refine HQ_then ?_
            refine hK5 _ _ _ _ ?_; clear hK5 K5
            refine HC_seq fun K6 hK6 => ?_
            refine HC_region ?_
            all_goals refine HL_r rfl rfl rfl rfl (R_fieldAddr rfl rfl (by first | (simp only [Nat.zero_add, Nat.reduceAdd, Nat.reduceMul, Nat.zero_mul, Nat.mul_one, Nat.add_zero]; exact rfl) | exact rfl)) ?_
            all_goals first
              | (refine HL_r rfl rfl rfl rfl (R_load rfl (known_L (k := 0) rfl) rfl rfl) ?_)
              | (refine HL_r rfl rfl rfl rfl (R_load rfl (known_L (k := 1) rfl) rfl rfl) ?_)
              | (refine HL_r rfl rfl rfl rfl (R_load rfl (known_L (k := 2) rfl) rfl rfl) ?_)
              | (refine HL_r rfl rfl rfl rfl (R_load rfl (known_L (k := 3) rfl) rfl rfl) ?_)
              | (refine HL_r rfl rfl rfl rfl (R_load rfl (known_L (k := 4) rfl) rfl rfl) ?_)
              | (refine HL_r rfl rfl rfl rfl (R_load rfl (known_L (k := 5) rfl) rfl rfl) ?_)
              | (refine HL_r rfl rfl rfl rfl (R_load rfl (known_R (k := 0) rfl) rfl rfl) ?_)
            all_goals first
              | (refine HL_r rfl rfl rfl rfl (R_load rfl (known_L (k := 0) rfl) rfl rfl) ?_)
              | (refine HL_r rfl rfl rfl rfl (R_load rfl (known_L (k := 1) rfl) rfl rfl) ?_)
              | (refine HL_r rfl rfl rfl rfl (R_load rfl (known_L (k := 2) rfl) rfl rfl) ?_)
              | (refine HL_r rfl rfl rfl rfl (R_load rfl (known_L (k := 3) rfl) rfl rfl) ?_)
              | (refine HL_r rfl rfl rfl rfl (R_load rfl (known_L (k := 4) rfl) rfl rfl) ?_)
              | (refine HL_r rfl rfl rfl rfl (R_load rfl (known_L (k := 5) rfl) rfl rfl) ?_)
              | (refine HL_r rfl rfl rfl rfl (R_load rfl (known_R (k := 0) rfl) rfl rfl) ?_)
            all_goals refine HL_r rfl rfl rfl rfl (R_pure rfl rfl rfl) ?_
            all_goals refine HL_r rfl rfl rfl rfl (R_move rfl) ?_
            all_goals first
              | (refine HL_r rfl rfl rfl rfl (R_move rfl) ?_)
              | (refine HL_skip rfl rfl rfl ?_)
              | (refine HL_case 14 rfl (fun hb7 => ?_) (fun hb7 => ?_) <;> (try simp only [decide_eq_true_eq, decide_eq_false_iff_not, beq_iff_eq, beq_eq_false_iff_ne, bne_iff_ne, bne_eq_false_iff_eq, Bool.not_eq_true', Bool.not_eq_false', ne_eq, Int.not_lt, Int.not_le, ge_iff_le, gt_iff_lt] at hb7) <;> first | (refine HL_r rfl rfl rfl rfl (R_move rfl) ?_) | (refine HL_skip rfl rfl rfl ?_))
            all_goals first
              | (refine HL_r rfl rfl rfl rfl (R_fieldAddr rfl rfl (by first | (simp only [Nat.zero_add, Nat.reduceAdd, Nat.reduceMul, Nat.zero_mul, Nat.mul_one, Nat.add_zero]; exact rfl) | exact rfl)) ?_)
              | (refine HL_skip rfl rfl rfl ?_)
              | (refine HL_case 14 rfl (fun hb8 => ?_) (fun hb8 => ?_) <;> (try simp only [decide_eq_true_eq, decide_eq_false_iff_not, beq_iff_eq, beq_eq_false_iff_ne, bne_iff_ne, bne_eq_false_iff_eq, Bool.not_eq_true', Bool.not_eq_false', ne_eq, Int.not_lt, Int.not_le, ge_iff_le, gt_iff_lt] at hb8) <;> first | (refine HL_r rfl rfl rfl rfl (R_fieldAddr rfl rfl (by first | (simp only [Nat.zero_add, Nat.reduceAdd, Nat.reduceMul, Nat.zero_mul, Nat.mul_one, Nat.add_zero]; exact rfl) | exact rfl)) ?_) | (refine HL_skip rfl rfl rfl ?_))
            all_goals first
              | (refine HL_r rfl rfl rfl rfl (R_load rfl (known_L (k := 0) rfl) rfl rfl) ?_)
              | (refine HL_r rfl rfl rfl rfl (R_load rfl (known_L (k := 1) rfl) rfl rfl) ?_)
              | (refine HL_r rfl rfl rfl rfl (R_load rfl (known_L (k := 2) rfl) rfl rfl) ?_)
              | (refine HL_r rfl rfl rfl rfl (R_load rfl (known_L (k := 3) rfl) rfl rfl) ?_)
              | (refine HL_r rfl rfl rfl rfl (R_load rfl (known_L (k := 4) rfl) rfl rfl) ?_)
              | (refine HL_r rfl rfl rfl rfl (R_load rfl (known_L (k := 5) rfl) rfl rfl) ?_)
              | (refine HL_r rfl rfl rfl rfl (R_load rfl (known_R (k := 0) rfl) rfl rfl) ?_)
              | (refine HL_skip rfl rfl rfl ?_)
              | (refine HL_case 14 rfl (fun hb9 => ?_) (fun hb9 => ?_) <;> (try simp only [decide_eq_true_eq, decide_eq_false_iff_not, beq_iff_eq, beq_eq_false_iff_ne, bne_iff_ne, bne_eq_false_iff_eq, Bool.not_eq_true', Bool.not_eq_false', ne_eq, Int.not_lt, Int.not_le, ge_iff_le, gt_iff_lt] at hb9) <;> first | (refine HL_r rfl rfl rfl rfl (R_load rfl (known_L (k := 0) rfl) rfl rfl) ?_) | (refine HL_r rfl rfl rfl rfl (R_load rfl (known_L (k := 1) rfl) rfl rfl) ?_) | (refine HL_r rfl rfl rfl rfl (R_load rfl (known_L (k := 2) rfl) rfl rfl) ?_) | (refine HL_r rfl rfl rfl rfl (R_load rfl (known_L (k := 3) rfl) rfl rfl) ?_) | (refine HL_r rfl rfl rfl rfl (R_load rfl (known_L (k := 4) rfl) rfl rfl) ?_) | (refine HL_r rfl rfl rfl rfl (R_load rfl (known_L (k := 5) rfl) rfl rfl) ?_) | (refine HL_r rfl rfl rfl rfl (R_load rfl (known_R (k := 0) rfl) rfl rfl) ?_) | (refine HL_skip rfl rfl rfl ?_))
            all_goals first | (refine HL_yield (XT := XI (versOf k done ++ [kb])) (XF := XF) rfl rfl rfl rfl (hY _ _ _ ⟨kb, rfl, rfl, by have h1 := (left_next hnd he hI).2.2; have h2 := versKV_len k (done.map kvOf); rw [List.length_map] at h2; show (versKV k (done.map kvOf)).length < 14; omega⟩) ?_ ?_) | (refine HL_skip rfl rfl rfl ?_)
            all_goals first
              | (refine HL_r rfl rfl rfl rfl (R_pure rfl rfl rfl) ?_)
              | (refine HL_skip rfl rfl rfl ?_)
              | (refine HL_case 14 rfl (fun hb10 => ?_) (fun hb10 => ?_) <;> (try simp only [decide_eq_true_eq, decide_eq_false_iff_not, beq_iff_eq, beq_eq_false_iff_ne, bne_iff_ne, bne_eq_false_iff_eq, Bool.not_eq_true', Bool.not_eq_false', ne_eq, Int.not_lt, Int.not_le, ge_iff_le, gt_iff_lt] at hb10) <;> first | (refine HL_r rfl rfl rfl rfl (R_pure rfl rfl rfl) ?_) | (refine HL_skip rfl rfl rfl ?_))
            all_goals first
              | (refine HL_r rfl rfl rfl rfl (R_pickT rfl rfl) ?_)
              | (refine HL_r rfl rfl rfl rfl (R_pickF rfl rfl) ?_)
            all_goals refine HL_nil ?_
            all_goals (
              refine HQ_then ?_
              refine hK6 _ _ _ _ ?_; clear hK6 K6
              refine HC_cond rfl (fun h11 => ?_) (fun h11 => ?_)
              · try exact Bool.noConfusion h11
                all_goals try simp only [decide_eq_true_eq, decide_eq_false_iff_not, beq_iff_eq, beq_eq_false_iff_ne, bne_iff_ne, bne_eq_false_iff_eq, Bool.not_eq_true', Bool.not_eq_false', ne_eq, Int.not_lt, Int.not_le, ge_iff_le, gt_iff_lt] at h11
                all_goals (
                  refine HC_ret ?_
                  refine HQ_blockR ?_
                  refine HQ_thenR ?_
                  refine HQ_blockR ?_
                  refine HQ_post rfl rfl .nil (fun w1 hs1 => ?_)
                  obtain ⟨xs1, hx1⟩ := hs1.now
                  first
                    | exact ⟨⟨_, rfl⟩, hs1.keep, .inr ⟨_, hx1⟩⟩
                    | exact ⟨⟨_, rfl⟩, hs1.keep, .inl ⟨_, _, by rw [hleft, List.append_nil] at hI; exact (versKV_perm (hI.map kvOf)).trans (versKV_perm hmes), hx1⟩⟩
                  skip)
              · try exact Bool.noConfusion h11
                all_goals try simp only [decide_eq_true_eq, decide_eq_false_iff_not, beq_iff_eq, beq_eq_false_iff_ne, bne_iff_ne, bne_eq_false_iff_eq, Bool.not_eq_true', Bool.not_eq_false', ne_eq, Int.not_lt, Int.not_le, ge_iff_le, gt_iff_lt] at h11
                all_goals (
                  refine HC_skip ?_
                  refine HQ_blockN ?_
                  refine HQ_then ?_
                  exact HQ_again (done ++ [e], seen.push e.born) (left_next hnd he hI).1 (left_next hnd he hI).2.1 (.cons rfl (.cons rfl (.cons rfl .nil))) (.cons _ (List.Sublist.refl _)) (fun _ w h => by simp only [versOf_one hab]; simp_all)
                  skip)
              skip)
            skip)
          skip)
      · try exact Bool.noConfusion h4
        all_goals try simp only [decide_eq_true_eq, decide_eq_false_iff_not, beq_iff_eq, beq_eq_false_iff_ne, bne_iff_ne, bne_eq_false_iff_eq, Bool.not_eq_true', Bool.not_eq_false', ne_eq, Int.not_lt, Int.not_le, ge_iff_le, gt_iff_lt] at h4
        all_goals (
          refine HC_exit ?_
          refine HQ_thenE ?_; clear hK3 K3
          refine HQ_thenE ?_
          refine HQ_blockE ?_
          refine HQ_postN rfl rfl .nil (fun w1 hs1 => ?_)
          obtain ⟨xs1, hx1⟩ := hs1.now
          first
            | exact ⟨⟨_, rfl⟩, hs1.keep, .inr ⟨_, hx1⟩⟩
            | exact ⟨⟨_, rfl⟩, hs1.keep, .inl ⟨_, _, by rw [hleft, List.append_nil] at hI; exact (versKV_perm (hI.map kvOf)).trans (versKV_perm hmes), hx1⟩⟩
          skip)
      skip)
    skip)
end Go.Proofs.Ytiamhecfkcgldaa
