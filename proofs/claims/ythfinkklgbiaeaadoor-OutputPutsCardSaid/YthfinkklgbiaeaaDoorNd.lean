import Derived.Test.YthfinkklgbiaeaaDoorNc
namespace Go.Proofs.YthfinkklgbiaeaaDoor
set_option linter.all false
open Go.SL Go.RowKit Go.Shelf
theorem smallV_ext (l : List Nat) : smallV l = .tuple #[uV (if smallB l then l.getD 0 0 else 0), .bool (smallB l)] := rfl
def unbeR (s : List UInt8) : Nat × Int := if 8 < s.length then (0, 5) else ((if smallB (parseR s).1 then (parseR s).1.getD 0 0 else 0), (parseR s).2)
theorem parseR_len (s : List UInt8) : (parseR s).1.length = 4 := (parseR_ok s).1
set_option maxRecDepth 10000 in
theorem P_num_Unbe (s : List UInt8) : Pure Tryd.prog 28 [.string (bs s)].toArray (resN (unbeR s)) := by
  refine pure_of_HC Tryd.func28 rfl rfl fun w => ?_
  refine HC_seq fun K1 hK1 => ?_
  refine HC_region ?_
  all_goals refine HL_r rfl rfl rfl rfl (R_assign rfl) ?_
  all_goals refine HL_r rfl rfl rfl rfl (R_assign rfl) ?_
  all_goals refine HL_nil ?_
  all_goals (
    refine HQ_then ?_
    refine hK1 _ _ _ _ ?_; clear hK1 K1
    refine HC_seq fun K2 hK2 => ?_
    refine HC_seq fun K3 hK3 => ?_
    refine HC_region ?_
    all_goals refine HL_r rfl rfl rfl rfl (R_move rfl) ?_
    all_goals first
      | (refine HL_r rfl rfl rfl rfl (R_lenBs rfl rfl) ?_)
      | (refine HL_r rfl rfl rfl rfl (R_lenSl rfl rfl) ?_)
      | (refine HL_r rfl rfl rfl rfl (R_lenStr rfl rfl rfl) ?_)
      | (refine HL_r rfl rfl rfl rfl (R_pure rfl rfl rfl) ?_)
    all_goals refine HL_r rfl rfl rfl rfl (R_pure rfl rfl rfl) ?_
    all_goals refine HL_nil ?_
    all_goals (
      refine HQ_then ?_
      refine hK3 _ _ _ _ ?_; clear hK3 K3
      refine HC_cond rfl (fun h4 => ?_) (fun h4 => ?_)
      · try exact Bool.noConfusion h4
        all_goals try simp only [decide_eq_true_eq, decide_eq_false_iff_not, beq_iff_eq, beq_eq_false_iff_ne, bne_iff_ne, bne_eq_false_iff_eq, Bool.not_eq_true', Bool.not_eq_false', ne_eq, Int.not_lt, Int.not_le, ge_iff_le, gt_iff_lt] at h4
        all_goals (
          refine HC_seq fun K5 hK5 => ?_
          refine HC_region ?_
          all_goals refine HL_r rfl rfl rfl rfl (R_assign rfl) ?_
          all_goals refine HL_r rfl rfl rfl rfl (R_assign rfl) ?_
          all_goals refine HL_nil ?_
          all_goals (
            refine HQ_then ?_
            refine hK5 _ _ _ _ ?_; clear hK5 K5
            refine HC_ret ?_
            refine HQ_thenR ?_; clear hK2 K2
            refine HQ_post rfl rfl (.cons (res_tmp rfl) (.cons (res_tmp rfl) .nil)) (fun w1 hs1 => ?_)
            refine ⟨?_, hs1.keep⟩
            first
              | (rw [show unbeR s = (0, 5) from by unfold unbeR; rw [if_pos (by omega)]]; rfl)
              | (rw [show unbeR s = ((if smallB (parseR s).1 then (parseR s).1.getD 0 0 else 0), (parseR s).2) from by unfold unbeR; rw [if_neg (by omega)]]; rfl)
            skip)
          skip)
      · try exact Bool.noConfusion h4
        all_goals try simp only [decide_eq_true_eq, decide_eq_false_iff_not, beq_iff_eq, beq_eq_false_iff_ne, bne_iff_ne, bne_eq_false_iff_eq, Bool.not_eq_true', Bool.not_eq_false', ne_eq, Int.not_lt, Int.not_le, ge_iff_le, gt_iff_lt] at h4
        all_goals (
          refine HC_skip ?_
          refine HQ_then ?_
          refine hK2 _ _ _ _ ?_; clear hK2 K2
          refine HC_seq fun K6 hK6 => ?_
          refine HC_region ?_
          all_goals refine HL_r rfl rfl rfl rfl (R_move rfl) ?_
          all_goals refine HL_callP rfl rfl rfl (enters_of Tryd.func45 (by kernel_rfl) rfl) (P_word_Parse s) ?_
          all_goals refine HL_r rfl rfl rfl rfl (R_move rfl) ?_
          all_goals refine HL_r rfl rfl rfl rfl (R_extract rfl rfl) ?_
          all_goals refine HL_r rfl rfl rfl rfl (R_extract rfl rfl) ?_
          all_goals refine HL_alloc (cs := #[_, _, _, _]) rfl rfl rfl rfl fun r1 => ?_
          all_goals first
            | (refine HL_storeArr (k := 0) (n := 4) rfl rfl rfl rfl rfl (by first | (with_reducible (rw [List.length_map]; first | exact parseR_len _)) | exact rfl) (by first | (with_reducible (rw [List.length_map]; first | exact parseR_len _)) | exact rfl) (by first | exact mapU_one _ | rfl) rfl ?_)
            | (refine HL_storeArr (k := 1) (n := 4) rfl rfl rfl rfl rfl (by first | (with_reducible (rw [List.length_map]; first | exact parseR_len _)) | exact rfl) (by first | (with_reducible (rw [List.length_map]; first | exact parseR_len _)) | exact rfl) (by first | exact mapU_one _ | rfl) rfl ?_)
            | (refine HL_storeArr (k := 2) (n := 4) rfl rfl rfl rfl rfl (by first | (with_reducible (rw [List.length_map]; first | exact parseR_len _)) | exact rfl) (by first | (with_reducible (rw [List.length_map]; first | exact parseR_len _)) | exact rfl) (by first | exact mapU_one _ | rfl) rfl ?_)
            | (refine HL_storeArr (k := 3) (n := 4) rfl rfl rfl rfl rfl (by first | (with_reducible (rw [List.length_map]; first | exact parseR_len _)) | exact rfl) (by first | (with_reducible (rw [List.length_map]; first | exact parseR_len _)) | exact rfl) (by first | exact mapU_one _ | rfl) rfl ?_)
            | (refine HL_storeArr (k := 4) (n := 4) rfl rfl rfl rfl rfl (by first | (with_reducible (rw [List.length_map]; first | exact parseR_len _)) | exact rfl) (by first | (with_reducible (rw [List.length_map]; first | exact parseR_len _)) | exact rfl) (by first | exact mapU_one _ | rfl) rfl ?_)
            | (refine HL_storeArr (k := 5) (n := 4) rfl rfl rfl rfl rfl (by first | (with_reducible (rw [List.length_map]; first | exact parseR_len _)) | exact rfl) (by first | (with_reducible (rw [List.length_map]; first | exact parseR_len _)) | exact rfl) (by first | exact mapU_one _ | rfl) rfl ?_)
            | (refine HL_storeArr (k := 6) (n := 4) rfl rfl rfl rfl rfl (by first | (with_reducible (rw [List.length_map]; first | exact parseR_len _)) | exact rfl) (by first | (with_reducible (rw [List.length_map]; first | exact parseR_len _)) | exact rfl) (by first | exact mapU_one _ | rfl) rfl ?_)
            | (refine HL_storeArr (k := 7) (n := 4) rfl rfl rfl rfl rfl (by first | (with_reducible (rw [List.length_map]; first | exact parseR_len _)) | exact rfl) (by first | (with_reducible (rw [List.length_map]; first | exact parseR_len _)) | exact rfl) (by first | exact mapU_one _ | rfl) rfl ?_)
            | (refine HL_storeArr (k := 8) (n := 4) rfl rfl rfl rfl rfl (by first | (with_reducible (rw [List.length_map]; first | exact parseR_len _)) | exact rfl) (by first | (with_reducible (rw [List.length_map]; first | exact parseR_len _)) | exact rfl) (by first | exact mapU_one _ | rfl) rfl ?_)
          all_goals refine HL_r rfl rfl rfl rfl (R_assign rfl) ?_
          all_goals refine HL_nil ?_
          all_goals (
            refine HQ_then ?_
            refine hK6 _ _ _ _ ?_; clear hK6 K6
            refine HC_seq fun K7 hK7 => ?_
            refine HC_region ?_
            all_goals first
              | (refine HL_r rfl rfl rfl rfl (R_loadArr (n := 4) rfl (known_L (k := 0) rfl) rfl rfl (by first | (with_reducible (rw [List.length_map]; first | exact parseR_len _)) | exact rfl)) ?_)
              | (refine HL_r rfl rfl rfl rfl (R_loadArr (n := 4) rfl (known_L (k := 1) rfl) rfl rfl (by first | (with_reducible (rw [List.length_map]; first | exact parseR_len _)) | exact rfl)) ?_)
              | (refine HL_r rfl rfl rfl rfl (R_loadArr (n := 4) rfl (known_L (k := 2) rfl) rfl rfl (by first | (with_reducible (rw [List.length_map]; first | exact parseR_len _)) | exact rfl)) ?_)
              | (refine HL_r rfl rfl rfl rfl (R_loadArr (n := 4) rfl (known_L (k := 3) rfl) rfl rfl (by first | (with_reducible (rw [List.length_map]; first | exact parseR_len _)) | exact rfl)) ?_)
              | (refine HL_r rfl rfl rfl rfl (R_loadArr (n := 4) rfl (known_L (k := 4) rfl) rfl rfl (by first | (with_reducible (rw [List.length_map]; first | exact parseR_len _)) | exact rfl)) ?_)
              | (refine HL_r rfl rfl rfl rfl (R_loadArr (n := 4) rfl (known_L (k := 5) rfl) rfl rfl (by first | (with_reducible (rw [List.length_map]; first | exact parseR_len _)) | exact rfl)) ?_)
              | (refine HL_r rfl rfl rfl rfl (R_loadArr (n := 4) rfl (known_L (k := 6) rfl) rfl rfl (by first | (with_reducible (rw [List.length_map]; first | exact parseR_len _)) | exact rfl)) ?_)
              | (refine HL_r rfl rfl rfl rfl (R_loadArr (n := 4) rfl (known_L (k := 7) rfl) rfl rfl (by first | (with_reducible (rw [List.length_map]; first | exact parseR_len _)) | exact rfl)) ?_)
              | (refine HL_r rfl rfl rfl rfl (R_loadArr (n := 4) rfl (known_L (k := 8) rfl) rfl rfl (by first | (with_reducible (rw [List.length_map]; first | exact parseR_len _)) | exact rfl)) ?_)
            all_goals refine HL_callP rfl rfl rfl (enters_of Tryd.func36 (by kernel_rfl) rfl) (P_word_Small (parseR_ok s)) ?_
            all_goals refine HL_r rfl rfl rfl rfl (R_move rfl) ?_
            all_goals refine HL_r rfl rfl rfl rfl (R_extract rfl rfl) ?_
            all_goals refine HL_r rfl rfl rfl rfl (R_extract rfl rfl) ?_
            all_goals refine HL_r rfl rfl rfl rfl (R_assign rfl) ?_
            all_goals refine HL_r rfl rfl rfl rfl (R_assign rfl) ?_
            all_goals refine HL_nil ?_
            all_goals (
              refine HQ_then ?_
              refine hK7 _ _ _ _ ?_; clear hK7 K7
              refine HC_seq fun K8 hK8 => ?_
              refine HC_region ?_
              all_goals refine HL_r rfl rfl rfl rfl (R_move rfl) ?_
              all_goals refine HL_r rfl rfl rfl rfl (R_move rfl) ?_
              all_goals refine HL_r rfl rfl rfl rfl (R_assign rfl) ?_
              all_goals refine HL_r rfl rfl rfl rfl (R_assign rfl) ?_
              all_goals refine HL_nil ?_
              all_goals (
                refine HQ_then ?_
                refine hK8 _ _ _ _ ?_; clear hK8 K8
                refine HC_ret ?_
                refine HQ_post rfl rfl (.cons (res_tmp rfl) (.cons (res_tmp rfl) .nil)) (fun w1 hs1 => ?_)
                refine ⟨?_, hs1.keep⟩
                first
                  | (rw [show unbeR s = (0, 5) from by unfold unbeR; rw [if_pos (by omega)]]; rfl)
                  | (rw [show unbeR s = ((if smallB (parseR s).1 then (parseR s).1.getD 0 0 else 0), (parseR s).2) from by unfold unbeR; rw [if_neg (by omega)]]; rfl)
                skip)
              skip)
            skip)
          skip)
      skip)
    skip)
set_option maxRecDepth 10000 in
theorem P_fail (e : Int) : Pure Tryd.prog 46 [.int .i64 e].toArray (.tuple #[uV 0, .int .i64 0, .int .i64 e]) := by
  refine pure_of_HC Tryd.func46 rfl rfl fun w => ?_
  refine HC_seq fun K1 hK1 => ?_
  refine HC_region ?_
  all_goals refine HL_r rfl rfl rfl rfl (R_assign rfl) ?_
  all_goals refine HL_r rfl rfl rfl rfl (R_assign rfl) ?_
  all_goals refine HL_r rfl rfl rfl rfl (R_assign rfl) ?_
  all_goals refine HL_nil ?_
  all_goals (
    refine HQ_then ?_
    refine hK1 _ _ _ _ ?_; clear hK1 K1
    refine HC_seq fun K2 hK2 => ?_
    refine HC_region ?_
    all_goals refine HL_r rfl rfl rfl rfl (R_move rfl) ?_
    all_goals refine HL_r rfl rfl rfl rfl (R_assign rfl) ?_
    all_goals refine HL_r rfl rfl rfl rfl (R_assign rfl) ?_
    all_goals refine HL_r rfl rfl rfl rfl (R_assign rfl) ?_
    all_goals refine HL_nil ?_
    all_goals (
      refine HQ_then ?_
      refine hK2 _ _ _ _ ?_; clear hK2 K2
      refine HC_ret ?_
      refine HQ_post rfl rfl (.cons (res_tmp rfl) (.cons (res_tmp rfl) (.cons (res_tmp rfl) .nil))) (fun w1 hs1 => ?_)
      exact ⟨rfl, hs1.keep⟩
      skip)
    skip)
def fromL (s : List UInt8) (a : Nat) (p : Nat × Nat) : List (Nat × Obj) := [(p.2, .cells #[.int .i64 (a : Int)] 3 (0, 0)), (p.1, .cells #[.string (bs s)] 9 (0, 0))]
set_option maxRecDepth 10000 in
theorem E_from (s : List UInt8) (a : Nat) : PureE (α := Nat × Nat) Tryd.prog 47 [.string (bs s), .int .i64 (a : Int)].toArray (fun p => .func (.func 59) #[] #[.pointer (some ⟨p.1, 0, none⟩), .pointer (some ⟨p.2, 0, none⟩)]) (fromL s a) := by
  refine pureE_of_HC Tryd.func47 rfl rfl fun w => ?_
  refine HC_seq fun K1 hK1 => ?_
  refine HC_region ?_
  all_goals refine HL_box (cs := #[_]) rfl rfl rfl rfl fun r1 => ?_
  all_goals refine HL_box (cs := #[_]) rfl rfl rfl rfl fun r2 => ?_
  all_goals refine HL_r rfl rfl rfl rfl (R_assign rfl) ?_
  all_goals refine HL_nil ?_
  all_goals (
    refine HQ_then ?_
    refine hK1 _ _ _ _ ?_; clear hK1 K1
    refine HC_seq fun K2 hK2 => ?_
    refine HC_region ?_
    all_goals refine HL_r rfl rfl rfl rfl (R_makeFunc rfl rfl) ?_
    all_goals refine HL_r rfl rfl rfl rfl (R_assign rfl) ?_
    all_goals refine HL_nil ?_
    all_goals (
      refine HQ_then ?_
      refine hK2 _ _ _ _ ?_; clear hK2 K2
      refine HC_ret ?_
      refine HQ_post rfl rfl (.cons (res_tmp rfl) .nil) (fun w1 hs1 => ?_)
      exact ⟨(r1, r2), rfl, hs1⟩
      skip)
    skip)
def fromAt (s : List UInt8) (a i : Nat) : List Value := [.int .i64 (i : Int), .int .u8 ((s.getD (a + i) 0).toNat : Nat)]
set_option maxRecDepth 10000 in
theorem I_from {s : List UInt8} {a : Nat} (ha : a ≤ s.length) (hs : s.length ≤ 9223372036854775807) (p1 p2 : Nat) : Iter Tryd.prog 59 [.pointer (some ⟨p1, 0, none⟩), .pointer (some ⟨p2, 0, none⟩)]
    [(p2, .cells #[.int .i64 (a : Int)] 3 (0, 0)), (p1, .cells #[.string (bs s)] 9 (0, 0))] 0 (nxN (fromAt s a) (min 10 (s.length - a))) (finN (min 10 (s.length - a))) := by
  refine iter_of_HC Tryd.func59 rfl rfl fun q xids w2 XI XF hY => ?_
  obtain ⟨N, hN⟩ : ∃ N, N = min 10 (s.length - a) := ⟨_, rfl⟩
  rw [← hN] at hY ⊢
  have hN1 : N ≤ 10 ∧ N ≤ s.length - a := by rw [hN]; exact ⟨Nat.min_le_left _ _, Nat.min_le_right _ _⟩
  refine HC_seq fun K1 hK1 => ?_
  refine HC_region ?_
  all_goals first
    | (refine HL_r rfl rfl rfl rfl (R_load rfl (known_L (k := 0) rfl) rfl rfl) ?_)
    | (refine HL_r rfl rfl rfl rfl (R_load rfl (known_L (k := 1) rfl) rfl rfl) ?_)
    | (refine HL_r rfl rfl rfl rfl (R_load rfl (known_L (k := 2) rfl) rfl rfl) ?_)
    | (refine HL_r rfl rfl rfl rfl (R_load rfl (known_L (k := 3) rfl) rfl rfl) ?_)
    | (refine HL_r rfl rfl rfl rfl (R_load rfl (known_L (k := 4) rfl) rfl rfl) ?_)
    | (refine HL_r rfl rfl rfl rfl (R_load rfl (known_L (k := 5) rfl) rfl rfl) ?_)
    | (refine HL_r rfl rfl rfl rfl (R_load rfl (known_R (k := 0) rfl) rfl rfl) ?_)
    | (refine HL_r rfl rfl rfl rfl (R_load rfl (known_R (k := 1) rfl) rfl rfl) ?_)
  all_goals first
    | (refine HL_r rfl rfl rfl rfl (R_lenBs rfl rfl) ?_)
    | (refine HL_r rfl rfl rfl rfl (R_lenSl rfl rfl) ?_)
    | (refine HL_r rfl rfl rfl rfl (R_lenStr rfl rfl rfl) ?_)
    | (refine HL_r rfl rfl rfl rfl (R_pure rfl rfl rfl) ?_)
  all_goals first
    | (refine HL_r rfl rfl rfl rfl (R_load rfl (known_L (k := 0) rfl) rfl rfl) ?_)
    | (refine HL_r rfl rfl rfl rfl (R_load rfl (known_L (k := 1) rfl) rfl rfl) ?_)
    | (refine HL_r rfl rfl rfl rfl (R_load rfl (known_L (k := 2) rfl) rfl rfl) ?_)
    | (refine HL_r rfl rfl rfl rfl (R_load rfl (known_L (k := 3) rfl) rfl rfl) ?_)
    | (refine HL_r rfl rfl rfl rfl (R_load rfl (known_L (k := 4) rfl) rfl rfl) ?_)
    | (refine HL_r rfl rfl rfl rfl (R_load rfl (known_L (k := 5) rfl) rfl rfl) ?_)
    | (refine HL_r rfl rfl rfl rfl (R_load rfl (known_R (k := 0) rfl) rfl rfl) ?_)
    | (refine HL_r rfl rfl rfl rfl (R_load rfl (known_R (k := 1) rfl) rfl rfl) ?_)
  all_goals refine HL_r rfl rfl rfl rfl (R_pure rfl rfl rfl) ?_; refine HL_as (show _ = Value.int .i64 ((s.length - a : Nat) : Int) from congrArg (Value.int .i64) (by rw [wrap_i64 (by omega) (by omega)]; omega)) ?_
  all_goals refine HL_r rfl rfl rfl rfl (R_min2 (r := (N : Int)) rfl rfl (by rw [hN]; simp only [Nat.min_def]; split <;> split <;> omega)) ?_
  all_goals refine HL_r rfl rfl rfl rfl (R_move rfl) ?_
  all_goals refine HL_nil ?_
  all_goals (
    refine HQ_then ?_
    refine hK1 _ _ _ _ ?_; clear hK1 K1
    refine HC_block ?_
    refine HC_loop (σ := Nat) (fun i => i ≤ N) (fun i => [(0, .func (.yield q) #[] #[]), (1, .pointer (some ⟨p1, 0, none⟩)), (2, .pointer (some ⟨p2, 0, none⟩)), (9, .int .i64 (N : Int)), (10, .int .i64 (i : Int))]) (fun _ => []) (fun i => XI i) (fun i => N - i) 0 (Nat.zero_le _) (.cons rfl (.cons rfl (.cons rfl (.cons rfl (.cons rfl .nil))))) (List.nil_sublist _) (fun _ _ h => h) ?_
    intro i hi
    refine HC_seq fun K2 hK2 => ?_
    refine HC_region ?_
    all_goals refine HL_r rfl rfl rfl rfl (R_pure rfl rfl rfl) ?_
    all_goals refine HL_nil ?_
    all_goals (
      refine HQ_then ?_
      refine hK2 _ _ _ _ ?_; clear hK2 K2
      refine HC_seq fun K3 hK3 => ?_
      refine HC_cond rfl (fun h4 => ?_) (fun h4 => ?_)
      · try exact Bool.noConfusion h4
        all_goals try simp only [decide_eq_true_eq, decide_eq_false_iff_not, beq_iff_eq, beq_eq_false_iff_ne, bne_iff_ne, bne_eq_false_iff_eq, Bool.not_eq_true', Bool.not_eq_false', ne_eq, Int.not_lt, Int.not_le, ge_iff_le, gt_iff_lt] at h4
        all_goals (
          refine HC_skip ?_
          refine HQ_then ?_
          refine hK3 _ _ _ _ ?_; clear hK3 K3
          refine HC_seq fun K5 hK5 => ?_
          refine HC_block ?_
          refine HC_seq fun K6 hK6 => ?_
          refine HC_region ?_
          all_goals refine HL_r rfl rfl rfl rfl (R_move rfl) ?_
          all_goals refine HL_r rfl rfl rfl rfl (R_assign rfl) ?_
          all_goals refine HL_nil ?_
          all_goals (
            refine HQ_then ?_
            refine hK6 _ _ _ _ ?_; clear hK6 K6
            refine HC_seq fun K7 hK7 => ?_
            refine HC_region ?_
            all_goals refine HL_r rfl rfl rfl rfl (R_move rfl) ?_
            all_goals refine HL_r rfl rfl rfl rfl (R_move rfl) ?_
            all_goals first
              | (refine HL_r rfl rfl rfl rfl (R_load rfl (known_L (k := 0) rfl) rfl rfl) ?_)
              | (refine HL_r rfl rfl rfl rfl (R_load rfl (known_L (k := 1) rfl) rfl rfl) ?_)
              | (refine HL_r rfl rfl rfl rfl (R_load rfl (known_L (k := 2) rfl) rfl rfl) ?_)
              | (refine HL_r rfl rfl rfl rfl (R_load rfl (known_L (k := 3) rfl) rfl rfl) ?_)
              | (refine HL_r rfl rfl rfl rfl (R_load rfl (known_L (k := 4) rfl) rfl rfl) ?_)
              | (refine HL_r rfl rfl rfl rfl (R_load rfl (known_L (k := 5) rfl) rfl rfl) ?_)
              | (refine HL_r rfl rfl rfl rfl (R_load rfl (known_R (k := 0) rfl) rfl rfl) ?_)
              | (refine HL_r rfl rfl rfl rfl (R_load rfl (known_R (k := 1) rfl) rfl rfl) ?_)
            all_goals first
              | (refine HL_r rfl rfl rfl rfl (R_load rfl (known_L (k := 0) rfl) rfl rfl) ?_)
              | (refine HL_r rfl rfl rfl rfl (R_load rfl (known_L (k := 1) rfl) rfl rfl) ?_)
              | (refine HL_r rfl rfl rfl rfl (R_load rfl (known_L (k := 2) rfl) rfl rfl) ?_)
              | (refine HL_r rfl rfl rfl rfl (R_load rfl (known_L (k := 3) rfl) rfl rfl) ?_)
              | (refine HL_r rfl rfl rfl rfl (R_load rfl (known_L (k := 4) rfl) rfl rfl) ?_)
              | (refine HL_r rfl rfl rfl rfl (R_load rfl (known_L (k := 5) rfl) rfl rfl) ?_)
              | (refine HL_r rfl rfl rfl rfl (R_load rfl (known_R (k := 0) rfl) rfl rfl) ?_)
              | (refine HL_r rfl rfl rfl rfl (R_load rfl (known_R (k := 1) rfl) rfl rfl) ?_)
            all_goals refine HL_r rfl rfl rfl rfl (R_move rfl) ?_
            all_goals refine HL_r rfl rfl rfl rfl (R_pure rfl rfl rfl) ?_; refine HL_as (show _ = Value.int .i64 ((a + i : Nat) : Int) from congrArg (Value.int .i64) (by rw [wrap_i64 (by omega) (by omega)]; omega)) ?_
            all_goals refine HL_r rfl rfl rfl rfl (R_indexBs (j := a + i) rfl rfl rfl rfl (by omega) rfl) ?_
            all_goals refine HL_yield (XT := XI (i + 1)) (XF := XF) rfl rfl rfl rfl (hY i (fromAt s a i) (i + 1) ⟨by omega, rfl, rfl⟩) ?_ ?_
            all_goals refine HL_r rfl rfl rfl rfl (R_pure rfl rfl rfl) ?_
            all_goals refine HL_nil ?_
            all_goals (
              refine HQ_then ?_
              refine hK7 _ _ _ _ ?_; clear hK7 K7
              refine HC_cond rfl (fun h8 => ?_) (fun h8 => ?_)
              · try exact Bool.noConfusion h8
                all_goals try simp only [decide_eq_true_eq, decide_eq_false_iff_not, beq_iff_eq, beq_eq_false_iff_ne, bne_iff_ne, bne_eq_false_iff_eq, Bool.not_eq_true', Bool.not_eq_false', ne_eq, Int.not_lt, Int.not_le, ge_iff_le, gt_iff_lt] at h8
                all_goals (
                  refine HC_ret ?_
                  refine HQ_blockR ?_
                  refine HQ_thenR ?_; clear hK5 K5
                  refine HQ_thenR ?_
                  refine HQ_blockR ?_
                  refine HQ_post rfl rfl .nil (fun w1 hs1 => ?_)
                  obtain ⟨xs1, hx1⟩ := hs1.now
                  first
                    | exact ⟨⟨_, rfl⟩, hs1.keep, .inr ⟨_, hx1⟩⟩
                    | exact ⟨⟨_, rfl⟩, hs1.keep, .inl ⟨i, _, (by show i = N; omega), hx1⟩⟩
                  skip)
              · try exact Bool.noConfusion h8
                all_goals try simp only [decide_eq_true_eq, decide_eq_false_iff_not, beq_iff_eq, beq_eq_false_iff_ne, bne_iff_ne, bne_eq_false_iff_eq, Bool.not_eq_true', Bool.not_eq_false', ne_eq, Int.not_lt, Int.not_le, ge_iff_le, gt_iff_lt] at h8
                all_goals (
                  refine HC_skip ?_
                  refine HQ_blockN ?_
                  refine HQ_then ?_
                  refine hK5 _ _ _ _ ?_; clear hK5 K5
                  refine HC_region ?_
                  all_goals first
                    | (refine HL_r rfl rfl rfl rfl (R_pure rfl rfl rfl) ?_; refine HL_wrap_i64 (by omega) (by omega) ?_)
                    | (refine HL_r rfl rfl rfl rfl (R_pure rfl rfl rfl) ?_)
                  all_goals refine HL_r rfl rfl rfl rfl (R_move rfl) ?_
                  all_goals refine HL_nil ?_
                  all_goals (
                    refine HQ_then ?_
                    exact HQ_again (i + 1) (by omega) (by omega) (.cons rfl (.cons rfl (.cons rfl (.cons rfl (.cons rfl .nil))))) (List.nil_sublist _) (fun _ _ h => h)
                    skip)
                  skip)
              skip)
            skip)
          skip)
      · try exact Bool.noConfusion h4
        all_goals try simp only [decide_eq_true_eq, decide_eq_false_iff_not, beq_iff_eq, beq_eq_false_iff_ne, bne_iff_ne, bne_eq_false_iff_eq, Bool.not_eq_true', Bool.not_eq_false', ne_eq, Int.not_lt, Int.not_le, ge_iff_le, gt_iff_lt] at h4
        all_goals (
          refine HC_exit ?_
          refine HQ_thenE ?_; clear hK3 K3
          refine HQ_thenE ?_
          refine HQ_blockE ?_
          refine HQ_postN rfl rfl .nil (fun w1 hs1 => ?_)
          obtain ⟨xs1, hx1⟩ := hs1.now
          first
            | exact ⟨⟨_, rfl⟩, hs1.keep, .inr ⟨_, hx1⟩⟩
            | exact ⟨⟨_, rfl⟩, hs1.keep, .inl ⟨i, _, (by show i = N; omega), hx1⟩⟩
          skip)
      skip)
    skip)
end Go.Proofs.YthfinkklgbiaeaaDoor
