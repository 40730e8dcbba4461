import Derived.Test.YtdadaddakcidjaaDoorWa
namespace Go.Proofs.YtdadaddakcidjaaDoor
set_option linter.all false
open Go.SL Go.RowKit Go.Shelf
set_option maxRecDepth 10000 in
theorem P_ref_Fixed {l : List Nat} (hl : WOk l) : Pure Tryd.prog 89 [wV l].toArray (.string (bs (beD l 32))) := by
  refine pure_of_HC Tryd.func89 rfl rfl fun w => ?_
  refine HC_seq fun K1 hK1 => ?_
  refine HC_region ?_
  all_goals refine HL_box (cs := (l.map uV).toArray) rfl rfl rfl rfl fun r1 => ?_
  all_goals refine HL_r rfl rfl rfl rfl (R_assign rfl) ?_
  all_goals refine HL_nil ?_
  all_goals (
    refine HQ_then ?_
    refine hK1 _ _ _ _ ?_; clear hK1 K1
    refine HC_seq fun K2 hK2 => ?_
    refine HC_region ?_
    all_goals refine HL_r rfl rfl rfl rfl (R_assign rfl) ?_
    all_goals refine HL_nil ?_
    all_goals (
      refine HQ_then ?_
      refine hK2 _ _ _ _ ?_; clear hK2 K2
      refine HC_seq fun K3 hK3 => ?_
      refine HC_seq fun K4 hK4 => ?_
      refine HC_region ?_
      all_goals refine HL_r rfl rfl rfl rfl (R_assign rfl) ?_
      all_goals refine HL_nil ?_
      all_goals (
        refine HQ_then ?_
        refine hK4 _ _ _ _ ?_; clear hK4 K4
        refine HC_block ?_
        refine HC_loop (σ := Nat × List Value × Row) (fun s => s.1 ≤ 32 ∧ s.2.1 = ((beD l 32).take s.1).map bV ∧ rowOk 1 s.1 s.2.1 s.2.2) (fun s => [(1, .pointer (some ⟨r1, 0, none⟩)), (3, rowV s.1 s.2.2), (4, .int .i64 (31 - (s.1 : Int)))]) (fun s => (r1, .cells (l.map uV).toArray 27 (0, 0)) :: rowL 5 s.2.1 s.2.2) (fun _ _ _ => True) (fun s => 32 - s.1) (0, [], none) ⟨by decide, rfl, ⟨rfl, rfl⟩⟩ (.cons rfl (.cons rfl (.cons rfl .nil))) (List.Sublist.refl _) (fun _ _ h => h) ?_
        rintro ⟨m, xs, row⟩ ⟨hm, hxs, hrow⟩
        simp only at hm hxs hrow ⊢
        refine HC_seq fun K5 hK5 => ?_
        refine HC_seq fun K6 hK6 => ?_
        refine HC_region ?_
        all_goals refine HL_r rfl rfl rfl rfl (R_move rfl) ?_
        all_goals refine HL_r rfl rfl rfl rfl (R_pure rfl rfl rfl) ?_
        all_goals refine HL_nil ?_
        all_goals (
          refine HQ_then ?_
          refine hK6 _ _ _ _ ?_; clear hK6 K6
          refine HC_cond rfl (fun h7 => ?_) (fun h7 => ?_)
          · try exact Bool.noConfusion h7
            all_goals try simp only [decide_eq_true_eq, decide_eq_false_iff_not, beq_iff_eq, beq_eq_false_iff_ne, bne_iff_ne, bne_eq_false_iff_eq, Bool.not_eq_true', Bool.not_eq_false', ne_eq, Int.not_lt, Int.not_le, ge_iff_le, gt_iff_lt] at h7
            all_goals (
              refine HC_skip ?_
              refine HQ_then ?_
              refine hK5 _ _ _ _ ?_; clear hK5 K5
              refine HC_seq fun K8 hK8 => ?_
              refine HC_block ?_
              refine HC_region ?_
              all_goals refine HL_r rfl rfl rfl rfl (R_move rfl) ?_
              all_goals refine HL_r rfl rfl rfl rfl (R_loadArr (xs := l.map uV) (n := 4) rfl (known_L (k := 0) rfl) rfl rfl (by rw [List.length_map, hl.1])) ?_
              all_goals refine HL_r rfl rfl rfl rfl (R_move rfl) ?_; refine HL_as (show _ = Value.int .i64 ((31 - m : Nat) : Int) from congrArg (Value.int .i64) (by omega)) ?_
              all_goals refine HL_callP rfl rfl rfl (enters_of Tryd.func96 (by kernel_rfl) rfl) (P_digit hl (i := 31 - m) (by omega)) ?_
              all_goals refine HL_r rfl rfl rfl rfl (R_pure rfl rfl rfl) ?_; refine HL_as (byte_of (dg_lt l (31 - m))) ?_
              all_goals refine HL_buildSlice (vs := [_]) (zs := [_]) (r := [_]) rfl rfl rfl rfl rfl rfl rfl rfl rfl (by show (madeCells #[_] _).toList = _; rw [made_one]; exact rfl) rfl fun r1 => ?_
              all_goals refine HL_appendRow (L0 := [_, _]) (xs := xs) (row := row) (n := m) (sz := 1) (b := 1) (news := [_]) (List.perm_append_comm (l₁ := [_, _])) rfl rfl rfl rfl (known_L (k := 0) rfl) rfl rfl rfl rfl rfl (by decide) rfl rfl rfl (by decide) hrow (by omega) (by omega) fun ra cap sp hra => ?_
              all_goals refine HL_r rfl rfl rfl rfl (R_assign rfl) ?_
              all_goals refine HL_nil ?_
              all_goals (
                refine HQ_blockN ?_
                refine HQ_then ?_
                refine hK8 _ _ _ _ ?_; clear hK8 K8
                refine HC_region ?_
                all_goals refine HL_r rfl rfl rfl rfl (R_move rfl) ?_
                all_goals first
                  | (refine HL_r rfl rfl rfl rfl (R_pure rfl rfl rfl) ?_; refine HL_wrap_i64 (by omega) (by omega) ?_)
                  | (refine HL_r rfl rfl rfl rfl (R_pure rfl rfl rfl) ?_)
                all_goals refine HL_r rfl rfl rfl rfl (R_assign rfl) ?_
                all_goals refine HL_nil ?_
                all_goals (
                  refine HQ_then ?_
                  refine HQ_sel [2, 0] (L' := [_, _]) (by decide) rfl ?_
                  exact HQ_again (m + 1, xs ++ [bV (UInt8.ofNat (dg l (31 - m)))], some (ra, cap, sp)) ⟨by simp only; omega, by simp only; rw [beD_take l (by omega), List.map_append, hxs]; rfl, hra⟩ (by simp only; omega) (.cons rfl (.cons rfl (.cons (congrArg (fun z => some (Value.int .i64 z)) (by simp only; omega)) .nil))) (List.Sublist.refl _) (fun _ _ h => h)
                  skip)
                skip)
              skip)
          · try exact Bool.noConfusion h7
            all_goals try simp only [decide_eq_true_eq, decide_eq_false_iff_not, beq_iff_eq, beq_eq_false_iff_ne, bne_iff_ne, bne_eq_false_iff_eq, Bool.not_eq_true', Bool.not_eq_false', ne_eq, Int.not_lt, Int.not_le, ge_iff_le, gt_iff_lt] at h7
            all_goals (
              refine HC_exit ?_
              refine HQ_thenE ?_; clear hK5 K5
              refine HQ_thenE ?_
              refine HQ_blockE ?_
              refine HQ_then ?_
              refine hK3 _ _ _ _ ?_; clear hK3 K3
              have hm32 : m = 32 := by omega
              subst hm32
              rw [List.take_of_length_le (Nat.le_of_eq (beD_len l 32))] at hxs
              subst hxs
              refine HC_seq fun K9 hK9 => ?_
              refine HC_region ?_
              all_goals refine HL_r rfl rfl rfl rfl (R_move rfl) ?_
              all_goals refine HL_r rfl rfl rfl rfl (R_bytesStr (b := beD l 32) (row := row) (e := 5) rfl hrow (fun p hp => .inl (List.mem_cons_of_mem _ hp)) rfl rfl rfl) ?_
              all_goals refine HL_r rfl rfl rfl rfl (R_assign rfl) ?_
              all_goals refine HL_nil ?_
              all_goals (
                refine HQ_then ?_
                refine hK9 _ _ _ _ ?_; clear hK9 K9
                refine HC_ret ?_
                refine HQ_post rfl rfl (.cons (res_tmp rfl) .nil) (fun w1 hs1 => ?_)
                exact ⟨rfl, hs1.keep⟩
                skip)
              skip)
          skip)
        skip)
      skip)
    skip)
theorem fix_step {l : List Nat} {i : Nat} (hi : i < 32) : ((List.replicate (32 - i) (0 : UInt8) ++ beD l i).map bV).set (31 - i) (bV (UInt8.ofNat (dg l i))) = (List.replicate (32 - (i + 1)) 0 ++ beD l (i + 1)).map bV := by
  rw [← List.map_set, show 32 - i = (31 - i) + 1 from by omega, set_rep, show 32 - (i + 1) = 31 - i from by omega]
  rfl
set_option maxRecDepth 10000 in
theorem P_word_Fixed {l : List Nat} (hl : WOk l) : Pure Tryd.prog 84 [wV l].toArray (.string (bs (beD l 32))) := by
  refine pure_of_HC Tryd.func84 rfl rfl fun w => ?_
  refine HC_seq fun K1 hK1 => ?_
  refine HC_region ?_
  all_goals refine HL_box (cs := (l.map uV).toArray) rfl rfl rfl rfl fun r1 => ?_
  all_goals refine HL_r rfl rfl rfl rfl (R_assign rfl) ?_
  all_goals refine HL_nil ?_
  all_goals (
    refine HQ_then ?_
    refine hK1 _ _ _ _ ?_; clear hK1 K1
    refine HC_seq fun K2 hK2 => ?_
    refine HC_region ?_
    all_goals refine HL_make (n := 32) (b := 1) rfl rfl rfl rfl rfl rfl rfl rfl rfl (by decide) (by decide) fun r2 => ?_
    all_goals refine HL_r rfl rfl rfl rfl (R_assign rfl) ?_
    all_goals refine HL_nil ?_
    all_goals (
      refine HQ_then ?_
      refine hK2 _ _ _ _ ?_; clear hK2 K2
      refine HC_seq fun K3 hK3 => ?_
      refine HC_seq fun K4 hK4 => ?_
      refine HC_region ?_
      all_goals refine HL_r rfl rfl rfl rfl (R_move rfl) ?_
      all_goals refine HL_nil ?_
      all_goals (
        refine HQ_then ?_
        refine hK4 _ _ _ _ ?_; clear hK4 K4
        refine HC_block ?_
        refine HC_loop (σ := Nat) (fun i => i ≤ 32) (fun i => [(1, .pointer (some ⟨r1, 0, none⟩)), (3, .slice (some ⟨r2, 0, none⟩) 32 32), (6, .int .i64 (i : Int))]) (fun i => [(r2, .cells ((List.replicate (32 - i) (0 : UInt8) ++ beD l i).map bV).toArray 5 (0, 0)), (r1, .cells (l.map uV).toArray 27 (0, 0))]) (fun _ _ _ => True) (fun i => 32 - i) 0 (Nat.zero_le _) (.cons rfl (.cons rfl (.cons rfl .nil))) (List.Sublist.refl _) (fun _ _ h => h) ?_
        intro i hi
        refine HC_seq fun K5 hK5 => ?_
        refine HC_region ?_
        all_goals refine HL_r rfl rfl rfl rfl (R_pure rfl rfl rfl) ?_
        all_goals refine HL_nil ?_
        all_goals (
          refine HQ_then ?_
          refine hK5 _ _ _ _ ?_; clear hK5 K5
          refine HC_seq fun K6 hK6 => ?_
          refine HC_cond rfl (fun h7 => ?_) (fun h7 => ?_)
          · try exact Bool.noConfusion h7
            all_goals try simp only [decide_eq_true_eq, decide_eq_false_iff_not, beq_iff_eq, beq_eq_false_iff_ne, bne_iff_ne, bne_eq_false_iff_eq, Bool.not_eq_true', Bool.not_eq_false', ne_eq, Int.not_lt, Int.not_le, ge_iff_le, gt_iff_lt] at h7
            all_goals (
              refine HC_skip ?_
              refine HQ_then ?_
              refine hK6 _ _ _ _ ?_; clear hK6 K6
              refine HC_seq fun K8 hK8 => ?_
              refine HC_block ?_
              refine HC_seq fun K9 hK9 => ?_
              refine HC_region ?_
              all_goals refine HL_r rfl rfl rfl rfl (R_move rfl) ?_
              all_goals refine HL_r rfl rfl rfl rfl (R_assign rfl) ?_
              all_goals refine HL_nil ?_
              all_goals (
                refine HQ_then ?_
                refine hK9 _ _ _ _ ?_; clear hK9 K9
                refine HC_region ?_
                all_goals refine HL_r rfl rfl rfl rfl (R_move rfl) ?_
                all_goals refine HL_r rfl rfl rfl rfl (R_move rfl) ?_
                all_goals first
                  | (refine HL_r rfl rfl rfl rfl (R_pure rfl rfl rfl) ?_; refine HL_wrap_i64 (by omega) (by omega) ?_)
                  | (refine HL_r rfl rfl rfl rfl (R_pure rfl rfl rfl) ?_)
                all_goals refine HL_r rfl rfl rfl rfl (R_move rfl) ?_
                all_goals first
                  | (refine HL_r rfl rfl rfl rfl (R_pure rfl rfl rfl) ?_; refine HL_quo (by omega) (by omega) (by omega) ?_)
                  | (refine HL_r rfl rfl rfl rfl (R_pure rfl rfl rfl) ?_)
                all_goals refine HL_r rfl rfl rfl rfl (R_indexA (j := i / 8) (m := 1) (off' := i / 8) rfl rfl rfl rfl (by omega) (by omega) (by omega)) ?_
                all_goals refine HL_r rfl rfl rfl rfl (R_loadAt rfl (known_L (k := 1) rfl) rfl (mapU_get (by rw [hl.1]; omega))) ?_
                all_goals refine HL_r rfl rfl rfl rfl (R_move rfl) ?_
                all_goals first
                  | (refine HL_r rfl rfl rfl rfl (R_pure rfl rfl rfl) ?_; refine HL_rem (by omega) ?_)
                  | (refine HL_r rfl rfl rfl rfl (R_pure rfl rfl rfl) ?_)
                all_goals first
                  | (refine HL_r rfl rfl rfl rfl (R_pure rfl rfl rfl) ?_; refine HL_wrap_i64 (by omega) (by omega) ?_)
                  | (refine HL_r rfl rfl rfl rfl (R_pure rfl rfl rfl) ?_)
                all_goals refine HL_r rfl rfl rfl rfl (R_shr (n := i % 8 * 8) rfl rfl (by omega) (show _ ≤ 64 from by omega) (by omega) (shr_nat _ _)) ?_
                all_goals refine HL_r rfl rfl rfl rfl (R_pure rfl rfl rfl) ?_; refine HL_as (show _ = bV (UInt8.ofNat (dg l i)) from byte_mod _) ?_
                all_goals refine HL_r rfl rfl rfl rfl (R_indexS (j := 31 - i) (m := 1) (off' := 31 - i) rfl rfl rfl rfl (by omega) (by omega) (by omega)) ?_
                all_goals refine HL_storeAt (k := 0) (off := 31 - i) (xs := (List.replicate (32 - i) (0 : UInt8) ++ beD l i).map bV) (ys := (List.replicate (32 - (i + 1)) 0 ++ beD l (i + 1)).map bV) rfl rfl rfl rfl rfl rfl (by simp [beD_len]; omega) (fix_step (by omega)) rfl ?_
                all_goals refine HL_nil ?_
                all_goals (
                  refine HQ_blockN ?_
                  refine HQ_then ?_
                  refine hK8 _ _ _ _ ?_; clear hK8 K8
                  refine HC_region ?_
                  all_goals first
                    | (refine HL_r rfl rfl rfl rfl (R_pure rfl rfl rfl) ?_; refine HL_wrap_i64 (by omega) (by omega) ?_)
                    | (refine HL_r rfl rfl rfl rfl (R_pure rfl rfl rfl) ?_)
                  all_goals refine HL_r rfl rfl rfl rfl (R_move rfl) ?_
                  all_goals refine HL_nil ?_
                  all_goals (
                    refine HQ_then ?_
                    exact HQ_again (i + 1) (by omega) (by omega) (.cons rfl (.cons rfl (.cons rfl .nil))) (List.Sublist.refl _) (fun _ _ h => h)
                    skip)
                  skip)
                skip)
              skip)
          · try exact Bool.noConfusion h7
            all_goals try simp only [decide_eq_true_eq, decide_eq_false_iff_not, beq_iff_eq, beq_eq_false_iff_ne, bne_iff_ne, bne_eq_false_iff_eq, Bool.not_eq_true', Bool.not_eq_false', ne_eq, Int.not_lt, Int.not_le, ge_iff_le, gt_iff_lt] at h7
            all_goals (
              refine HC_exit ?_
              refine HQ_thenE ?_; clear hK6 K6
              refine HQ_thenE ?_
              refine HQ_blockE ?_
              refine HQ_then ?_
              refine hK3 _ _ _ _ ?_; clear hK3 K3
              have hi32 : i = 32 := by omega
              subst hi32
              refine HC_seq fun K10 hK10 => ?_
              refine HC_region ?_
              all_goals refine HL_r rfl rfl rfl rfl (R_move rfl) ?_
              all_goals refine HL_r rfl rfl rfl rfl (R_bytesStr (b := beD l 32) (row := some (r2, 32, [])) (e := 5) rfl ⟨rfl, rfl⟩ (fun p hp => .inl (by rw [List.mem_singleton.1 hp]; exact List.mem_cons_self)) rfl rfl rfl) ?_
              all_goals refine HL_r rfl rfl rfl rfl (R_assign rfl) ?_
              all_goals refine HL_nil ?_
              all_goals (
                refine HQ_then ?_
                refine hK10 _ _ _ _ ?_; clear hK10 K10
                refine HC_ret ?_
                refine HQ_post rfl rfl (.cons (res_tmp rfl) .nil) (fun w1 hs1 => ?_)
                exact ⟨rfl, hs1.keep⟩
                skip)
              skip)
          skip)
        skip)
      skip)
    skip)
end Go.Proofs.YtdadaddakcidjaaDoor
