import Derived.Test.YthfinkklgbiaeaaDoorNb
namespace Go.Proofs.YthfinkklgbiaeaaDoor
set_option linter.all false
open Go.SL Go.RowKit Go.Shelf
theorem varN_lo {e v : Nat} (h : v < 128) : varN e v = [UInt8.ofNat v] := by cases e <;> simp [varN, h]
theorem varN_hi {e v : Nat} (h : ¬ v < 128) : varN (e + 1) v = UInt8.ofNat (v % 128 + 128) :: varN e (v / 128) := by simp [varN, h]
theorem var_lt {e v : Nat} (he : e ≤ 9) (hv : v < 2 * 128 ^ e) : v < 18446744073709551616 := by
  have h1 : 128 ^ e ≤ 128 ^ 9 := Nat.pow_le_pow_right (by decide) he
  have h2 : (128 : Nat) ^ 9 = 9223372036854775808 := by decide
  omega
theorem var_step {e v : Nat} (hv : v < 2 * 128 ^ (e + 1)) : v / 128 < 2 * 128 ^ e := by rw [Nat.pow_succ] at hv; omega
theorem var_pos {e v : Nat} (hv : v < 2 * 128 ^ e) (h : ¬ v < 128) : ∃ k, e = k + 1 := by
  cases e with
  | zero => simp at hv; omega
  | succ e => exact ⟨e, rfl⟩
theorem var_0 {n : Nat} (hn : n < 18446744073709551616) : n < 2 * 128 ^ 9 := by
  have h2 : (128 : Nat) ^ 9 = 9223372036854775808 := by decide
  omega
set_option maxRecDepth 10000 in
theorem P_num_Var {n : Nat} (hn : n < 18446744073709551616) : Pure Tryd.prog 27 [uV n].toArray (.string (bs (varL n))) := by
  refine pure_of_HC Tryd.func27 rfl rfl fun w => ?_
  refine HC_seq fun K1 hK1 => ?_
  refine HC_region ?_
  all_goals refine HL_r rfl rfl rfl rfl (R_assign rfl) ?_
  all_goals refine HL_nil ?_
  all_goals (
    refine HQ_then ?_
    refine hK1 _ _ _ _ ?_; clear hK1 K1
    refine HC_seq fun K2 hK2 => ?_
    refine HC_region ?_
    all_goals refine HL_r rfl rfl rfl rfl (R_assign rfl) ?_
    all_goals refine HL_nil ?_
    all_goals (
      refine HQ_then ?_
      refine hK2 _ _ _ _ ?_; clear hK2 K2
      refine HC_seq fun K3 hK3 => ?_
      refine HC_block ?_
      refine HC_loop (σ := Nat × Nat × List UInt8 × Row) (fun q => q.1 + q.2.2.1.length = 9 ∧ q.2.1 < 2 * 128 ^ q.1 ∧ q.2.2.1 ++ varN q.1 q.2.1 = varL n ∧ rowOk 1 q.2.2.1.length (q.2.2.1.map bV) q.2.2.2) (fun q => [(0, uV q.2.1), (3, rowV q.2.2.1.length q.2.2.2)]) (fun q => rowL 5 (q.2.2.1.map bV) q.2.2.2) (fun _ _ _ => True) (fun q => q.1) (9, n, [], none) ⟨rfl, var_0 hn, rfl, ⟨rfl, rfl⟩⟩ (.cons rfl (.cons rfl .nil)) (List.nil_sublist _) (fun _ _ h => h) ?_
      rintro ⟨e, v, l, row⟩ ⟨hel, hv, hvar, hrow⟩
      simp only at hel hv hvar hrow ⊢
      have hv64 : v < 18446744073709551616 := var_lt (by omega) hv
      refine HC_seq fun K4 hK4 => ?_
      refine HC_seq fun K5 hK5 => ?_
      refine HC_region ?_
      all_goals refine HL_r rfl rfl rfl rfl (R_move rfl) ?_
      all_goals refine HL_r rfl rfl rfl rfl (R_pure rfl rfl rfl) ?_
      all_goals refine HL_nil ?_
      all_goals (
        refine HQ_then ?_
        refine hK5 _ _ _ _ ?_; clear hK5 K5
        refine HC_cond rfl (fun h6 => ?_) (fun h6 => ?_)
        · try exact Bool.noConfusion h6
          all_goals try simp only [decide_eq_true_eq, decide_eq_false_iff_not, beq_iff_eq, beq_eq_false_iff_ne, bne_iff_ne, bne_eq_false_iff_eq, Bool.not_eq_true', Bool.not_eq_false', ne_eq, Int.not_lt, Int.not_le, ge_iff_le, gt_iff_lt] at h6
          all_goals (
            refine HC_skip ?_
            refine HQ_then ?_
            refine hK4 _ _ _ _ ?_; clear hK4 K4
            refine HC_block ?_
            refine HC_seq fun K7 hK7 => ?_
            refine HC_region ?_
            all_goals refine HL_r rfl rfl rfl rfl (R_move rfl) ?_
            all_goals refine HL_r rfl rfl rfl rfl (R_move rfl) ?_
            all_goals refine HL_r rfl rfl rfl rfl (R_pure rfl rfl rfl) ?_; refine HL_as (show _ = Value.int .u8 ((v % 256 : Nat) : Int) from by rw [show Value.int .u8 ((v % 256 : Nat) : Int) = bV (UInt8.ofNat (v % 256)) from bV_of (Nat.mod_lt _ (by decide))]; exact byte_mod v) ?_
            all_goals refine HL_r rfl rfl rfl rfl (R_bits8 (op := .or) (b := ((v % 128 + 128 : Nat) : Int)) rfl rfl rfl (Nat.mod_lt _ (by decide)) (by decide) (congrArg (fun z : Nat => (z : Int)) or128)) ?_; refine HL_as (show _ = bV (UInt8.ofNat (v % 128 + 128)) from bV_of (by omega)) ?_
            all_goals refine HL_buildSlice (vs := [_]) (zs := [_]) (r := [_]) rfl rfl rfl rfl rfl rfl rfl rfl rfl (by show (madeCells #[_] _).toList = _; rw [made_one]; exact rfl) rfl fun r1 => ?_
            all_goals refine HL_appendRow (L0 := [_]) (xs := l.map bV) (row := row) (n := l.length) (sz := 1) (b := 1) (news := [_]) (List.perm_append_comm (l₁ := [_])) rfl rfl rfl rfl (known_L (k := 0) rfl) rfl rfl rfl rfl rfl (by decide) rfl rfl rfl (by decide) hrow (by omega) (by omega) fun ra cap sp hra => ?_
            all_goals refine HL_r rfl rfl rfl rfl (R_assign rfl) ?_
            all_goals refine HL_nil ?_
            all_goals (
              refine HQ_then ?_
              refine hK7 _ _ _ _ ?_; clear hK7 K7
              refine HC_region ?_
              all_goals refine HL_r rfl rfl rfl rfl (R_move rfl) ?_
              all_goals refine HL_r rfl rfl rfl rfl (R_shr (n := 7) rfl rfl rfl (by decide) (by omega) (shr_nat _ _)) ?_
              all_goals refine HL_r rfl rfl rfl rfl (R_assign rfl) ?_
              all_goals refine HL_nil ?_
              all_goals (
                refine HQ_blockN ?_
                refine HQ_then ?_
                obtain ⟨e, rfl⟩ := var_pos hv (by omega)
                refine HQ_sel [0] (L' := [_]) (by decide) rfl ?_
                rw [varN_hi (by omega)] at hvar
                exact HQ_again (e, v / 128, l ++ [UInt8.ofNat (v % 128 + 128)], some (ra, cap, sp)) ⟨by simp only [List.length_append, List.length_singleton]; omega, var_step hv, by simp only; rw [List.append_assoc]; exact hvar, by simp only [List.length_append, List.length_singleton, List.map_append, List.map_cons, List.map_nil]; exact hra⟩ (by simp only; omega) (.cons rfl (.cons (by simp only [List.length_append, List.length_singleton]; rfl) .nil)) (by simp only [List.map_append, List.map_cons, List.map_nil]; exact List.Sublist.refl _) (fun _ _ h => h)
                skip)
              skip)
            skip)
        · try exact Bool.noConfusion h6
          all_goals try simp only [decide_eq_true_eq, decide_eq_false_iff_not, beq_iff_eq, beq_eq_false_iff_ne, bne_iff_ne, bne_eq_false_iff_eq, Bool.not_eq_true', Bool.not_eq_false', ne_eq, Int.not_lt, Int.not_le, ge_iff_le, gt_iff_lt] at h6
          all_goals (
            refine HC_exit ?_
            refine HQ_thenE ?_; clear hK4 K4
            refine HQ_thenE ?_
            refine HQ_blockE ?_
            refine HQ_then ?_
            refine hK3 _ _ _ _ ?_; clear hK3 K3
            refine HC_seq fun K8 hK8 => ?_
            refine HC_region ?_
            all_goals refine HL_r rfl rfl rfl rfl (R_move rfl) ?_
            all_goals refine HL_r rfl rfl rfl rfl (R_move rfl) ?_
            all_goals refine HL_r rfl rfl rfl rfl (R_pure rfl rfl rfl) ?_; refine HL_as (show _ = bV (UInt8.ofNat v) from by rw [byte_mod, Nat.mod_eq_of_lt (by omega)]) ?_
            all_goals refine HL_buildSlice (vs := [_]) (zs := [_]) (r := [_]) rfl rfl rfl rfl rfl rfl rfl rfl rfl (by show (madeCells #[_] _).toList = _; rw [made_one]; exact rfl) rfl fun r2 => ?_
            all_goals refine HL_appendRow (L0 := [_]) (xs := l.map bV) (row := row) (n := l.length) (sz := 1) (b := 1) (news := [_]) (List.perm_append_comm (l₁ := [_])) rfl rfl rfl rfl (known_L (k := 0) rfl) rfl rfl rfl rfl rfl (by decide) rfl rfl rfl (by decide) hrow (by omega) (by omega) fun ra cap sp hra => ?_
            all_goals refine HL_r rfl rfl rfl rfl (R_bytesStr (b := l ++ [UInt8.ofNat v]) (row := some (ra, cap, sp)) (e := 5) (by simp only [List.length_append, List.length_singleton]; rfl) (by simp only [List.length_append, List.length_singleton, List.map_append, List.map_cons, List.map_nil]; exact hra) (fun p hp => .inl (by simp only [List.map_append, List.map_cons, List.map_nil] at hp; rw [List.mem_singleton.1 hp]; exact List.mem_cons_self)) rfl rfl rfl) ?_
            all_goals refine HL_r rfl rfl rfl rfl (R_assign rfl) ?_
            all_goals refine HL_nil ?_
            all_goals (
              refine HQ_then ?_
              refine hK8 _ _ _ _ ?_; clear hK8 K8
              refine HC_ret ?_
              refine HQ_post rfl rfl (.cons (res_tmp rfl) .nil) (fun w1 hs1 => ?_)
              refine ⟨?_, hs1.keep⟩
              rw [← hvar, varN_lo (by omega)]; rfl
              skip)
            skip)
        skip)
      skip)
    skip)
set_option maxRecDepth 10000 in
theorem P_ref_Var {n : Nat} (hn : n < 18446744073709551616) : Pure Tryd.prog 25 [uV n].toArray (.string (bs (varL n))) := by
  refine pure_of_HC Tryd.func25 rfl rfl fun w => ?_
  refine HC_seq fun K1 hK1 => ?_
  refine HC_region ?_
  all_goals refine HL_r rfl rfl rfl rfl (R_assign rfl) ?_
  all_goals refine HL_nil ?_
  all_goals (
    refine HQ_then ?_
    refine hK1 _ _ _ _ ?_; clear hK1 K1
    refine HC_seq fun K2 hK2 => ?_
    refine HC_region ?_
    all_goals refine HL_r rfl rfl rfl rfl (R_assign rfl) ?_
    all_goals refine HL_nil ?_
    all_goals (
      refine HQ_then ?_
      refine hK2 _ _ _ _ ?_; clear hK2 K2
      refine HC_seq fun K3 hK3 => ?_
      refine HC_block ?_
      refine HC_loop (σ := Nat × Nat × List UInt8 × Row) (fun q => q.1 + q.2.2.1.length = 9 ∧ q.2.1 < 2 * 128 ^ q.1 ∧ q.2.2.1 ++ varN q.1 q.2.1 = varL n ∧ rowOk 1 q.2.2.1.length (q.2.2.1.map bV) q.2.2.2) (fun q => [(0, uV q.2.1), (3, rowV q.2.2.1.length q.2.2.2)]) (fun q => rowL 5 (q.2.2.1.map bV) q.2.2.2) (fun _ _ _ => True) (fun q => q.1) (9, n, [], none) ⟨rfl, var_0 hn, rfl, ⟨rfl, rfl⟩⟩ (.cons rfl (.cons rfl .nil)) (List.nil_sublist _) (fun _ _ h => h) ?_
      rintro ⟨e, v, l, row⟩ ⟨hel, hv, hvar, hrow⟩
      simp only at hel hv hvar hrow ⊢
      have hv64 : v < 18446744073709551616 := var_lt (by omega) hv
      refine HC_seq fun K4 hK4 => ?_
      refine HC_seq fun K5 hK5 => ?_
      refine HC_region ?_
      all_goals refine HL_r rfl rfl rfl rfl (R_move rfl) ?_
      all_goals refine HL_r rfl rfl rfl rfl (R_pure rfl rfl rfl) ?_
      all_goals refine HL_nil ?_
      all_goals (
        refine HQ_then ?_
        refine hK5 _ _ _ _ ?_; clear hK5 K5
        refine HC_cond rfl (fun h6 => ?_) (fun h6 => ?_)
        · try exact Bool.noConfusion h6
          all_goals try simp only [decide_eq_true_eq, decide_eq_false_iff_not, beq_iff_eq, beq_eq_false_iff_ne, bne_iff_ne, bne_eq_false_iff_eq, Bool.not_eq_true', Bool.not_eq_false', ne_eq, Int.not_lt, Int.not_le, ge_iff_le, gt_iff_lt] at h6
          all_goals (
            refine HC_skip ?_
            refine HQ_then ?_
            refine hK4 _ _ _ _ ?_; clear hK4 K4
            refine HC_block ?_
            refine HC_seq fun K7 hK7 => ?_
            refine HC_region ?_
            all_goals refine HL_r rfl rfl rfl rfl (R_move rfl) ?_
            all_goals refine HL_r rfl rfl rfl rfl (R_move rfl) ?_
            all_goals refine HL_r rfl rfl rfl rfl (R_pure rfl rfl rfl) ?_; refine HL_as (show _ = uV (v % 128) from congrArg (Value.int .u64) (rem_nat _ 128)) ?_
            all_goals refine HL_r rfl rfl rfl rfl (R_pure rfl rfl rfl) ?_; refine HL_as (show _ = uV (v % 128 + 128) from congrArg (Value.int .u64) (wrap_u64 (by omega) (by omega))) ?_
            all_goals refine HL_r rfl rfl rfl rfl (R_pure rfl rfl rfl) ?_; refine HL_as (show _ = bV (UInt8.ofNat (v % 128 + 128)) from byte_of (by omega)) ?_
            all_goals refine HL_buildSlice (vs := [_]) (zs := [_]) (r := [_]) rfl rfl rfl rfl rfl rfl rfl rfl rfl (by show (madeCells #[_] _).toList = _; rw [made_one]; exact rfl) rfl fun r1 => ?_
            all_goals refine HL_appendRow (L0 := [_]) (xs := l.map bV) (row := row) (n := l.length) (sz := 1) (b := 1) (news := [_]) (List.perm_append_comm (l₁ := [_])) rfl rfl rfl rfl (known_L (k := 0) rfl) rfl rfl rfl rfl rfl (by decide) rfl rfl rfl (by decide) hrow (by omega) (by omega) fun ra cap sp hra => ?_
            all_goals refine HL_r rfl rfl rfl rfl (R_assign rfl) ?_
            all_goals refine HL_nil ?_
            all_goals (
              refine HQ_then ?_
              refine hK7 _ _ _ _ ?_; clear hK7 K7
              refine HC_region ?_
              all_goals refine HL_r rfl rfl rfl rfl (R_move rfl) ?_
              all_goals refine HL_r rfl rfl rfl rfl (R_pure rfl rfl rfl) ?_; refine HL_as (show _ = uV (v / 128) from congrArg (Value.int .u64) (quoU hv64)) ?_
              all_goals refine HL_r rfl rfl rfl rfl (R_assign rfl) ?_
              all_goals refine HL_nil ?_
              all_goals (
                refine HQ_blockN ?_
                refine HQ_then ?_
                obtain ⟨e, rfl⟩ := var_pos hv (by omega)
                refine HQ_sel [0] (L' := [_]) (by decide) rfl ?_
                rw [varN_hi (by omega)] at hvar
                exact HQ_again (e, v / 128, l ++ [UInt8.ofNat (v % 128 + 128)], some (ra, cap, sp)) ⟨by simp only [List.length_append, List.length_singleton]; omega, var_step hv, by simp only; rw [List.append_assoc]; exact hvar, by simp only [List.length_append, List.length_singleton, List.map_append, List.map_cons, List.map_nil]; exact hra⟩ (by simp only; omega) (.cons rfl (.cons (by simp only [List.length_append, List.length_singleton]; rfl) .nil)) (by simp only [List.map_append, List.map_cons, List.map_nil]; exact List.Sublist.refl _) (fun _ _ h => h)
                skip)
              skip)
            skip)
        · try exact Bool.noConfusion h6
          all_goals try simp only [decide_eq_true_eq, decide_eq_false_iff_not, beq_iff_eq, beq_eq_false_iff_ne, bne_iff_ne, bne_eq_false_iff_eq, Bool.not_eq_true', Bool.not_eq_false', ne_eq, Int.not_lt, Int.not_le, ge_iff_le, gt_iff_lt] at h6
          all_goals (
            refine HC_exit ?_
            refine HQ_thenE ?_; clear hK4 K4
            refine HQ_thenE ?_
            refine HQ_blockE ?_
            refine HQ_then ?_
            refine hK3 _ _ _ _ ?_; clear hK3 K3
            refine HC_seq fun K8 hK8 => ?_
            refine HC_region ?_
            all_goals refine HL_r rfl rfl rfl rfl (R_move rfl) ?_
            all_goals refine HL_r rfl rfl rfl rfl (R_move rfl) ?_
            all_goals refine HL_r rfl rfl rfl rfl (R_pure rfl rfl rfl) ?_; refine HL_as (show _ = bV (UInt8.ofNat v) from by rw [byte_mod, Nat.mod_eq_of_lt (by omega)]) ?_
            all_goals refine HL_buildSlice (vs := [_]) (zs := [_]) (r := [_]) rfl rfl rfl rfl rfl rfl rfl rfl rfl (by show (madeCells #[_] _).toList = _; rw [made_one]; exact rfl) rfl fun r2 => ?_
            all_goals refine HL_appendRow (L0 := [_]) (xs := l.map bV) (row := row) (n := l.length) (sz := 1) (b := 1) (news := [_]) (List.perm_append_comm (l₁ := [_])) rfl rfl rfl rfl (known_L (k := 0) rfl) rfl rfl rfl rfl rfl (by decide) rfl rfl rfl (by decide) hrow (by omega) (by omega) fun ra cap sp hra => ?_
            all_goals refine HL_r rfl rfl rfl rfl (R_bytesStr (b := l ++ [UInt8.ofNat v]) (row := some (ra, cap, sp)) (e := 5) (by simp only [List.length_append, List.length_singleton]; rfl) (by simp only [List.length_append, List.length_singleton, List.map_append, List.map_cons, List.map_nil]; exact hra) (fun p hp => .inl (by simp only [List.map_append, List.map_cons, List.map_nil] at hp; rw [List.mem_singleton.1 hp]; exact List.mem_cons_self)) rfl rfl rfl) ?_
            all_goals refine HL_r rfl rfl rfl rfl (R_assign rfl) ?_
            all_goals refine HL_nil ?_
            all_goals (
              refine HQ_then ?_
              refine hK8 _ _ _ _ ?_; clear hK8 K8
              refine HC_ret ?_
              refine HQ_post rfl rfl (.cons (res_tmp rfl) .nil) (fun w1 hs1 => ?_)
              refine ⟨?_, hs1.keep⟩
              rw [← hvar, varN_lo (by omega)]; rfl
              skip)
            skip)
        skip)
      skip)
    skip)
end Go.Proofs.YthfinkklgbiaeaaDoor
