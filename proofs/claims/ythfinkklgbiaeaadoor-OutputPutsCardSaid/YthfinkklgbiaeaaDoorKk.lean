import Derived.Test.YthfinkklgbiaeaaDoorKj
namespace Go.Proofs.YthfinkklgbiaeaaDoor
set_option linter.all false
open Go.SL Go.RowKit Go.Shelf
theorem outL_snoc (a : List Nat) (i : Nat) : (outL a (i + 1)).map bV = (outL a i).map bV ++ [bV (UInt8.ofNat (a.getD (i / 8) 0 / 2 ^ (i % 8 * 8) % 256))] := by rw [outL]; simp
theorem drop_get {t : List UInt8} {j i : Nat} : (((t.getD (136 * j + i) 0).toNat : Nat) : Int) = (((t.drop (136 * j)).getD i 0).toNat : Nat) := by simp [List.getD_eq_getElem?_getD]
set_option maxRecDepth 10000 in
theorem P_ref3_kec {s : List UInt8} (hs : s.length ≤ 1099511627776) : Pure Tryd.prog 34 [.string (bs s)].toArray (.string (bs (kec s))) := by
  refine pure_of_HC Tryd.func34 rfl rfl fun w => ?_
  have hpl := padL_len s.length
  obtain ⟨t, ht⟩ : ∃ t, t = s ++ padL s.length := ⟨_, rfl⟩
  obtain ⟨N, hN⟩ : ∃ N, N = t.length / 136 := ⟨_, rfl⟩
  have htl : t.length = 136 * N := by have := kec_blocks s; rw [← ht] at this; omega
  have hlim : t.length ≤ 2199023255552 := by rw [ht, List.length_append]; omega
  have hkec : kec s = outL (sumS t N) 32 := by unfold kec; rw [← ht, ← hN]
  refine HC_seq fun K1 hK1 => ?_
  refine HC_region ?_
  all_goals refine HL_r rfl rfl rfl rfl (R_assign rfl) ?_
  all_goals refine HL_nil ?_
  all_goals (
    refine HQ_then ?_
    refine hK1 _ _ _ _ ?_; clear hK1 K1
    refine HC_seq fun K2 hK2 => ?_
    refine HC_region ?_
    all_goals refine HL_r rfl rfl rfl rfl (R_move rfl) ?_
    all_goals first
      | (refine HL_r rfl rfl rfl rfl (R_lenBs rfl rfl) ?_)
      | (refine HL_r rfl rfl rfl rfl (R_lenSl rfl rfl) ?_)
      | (refine HL_r rfl rfl rfl rfl (R_lenStr rfl rfl rfl) ?_)
      | (refine HL_r rfl rfl rfl rfl (R_pure rfl rfl rfl) ?_)
    all_goals refine HL_callP rfl rfl rfl (enters_of Tryd.func49 (by kernel_rfl) rfl) (P_ref3_Pad hs) ?_
    all_goals refine HL_r rfl rfl rfl rfl (R_move rfl) ?_
    all_goals refine HL_r rfl rfl rfl rfl (R_extract rfl rfl) ?_
    all_goals refine HL_r rfl rfl rfl rfl (R_extract rfl rfl) ?_
    all_goals refine HL_r rfl rfl rfl rfl (R_assign rfl) ?_
    all_goals refine HL_r rfl rfl rfl rfl (R_assign rfl) ?_
    all_goals refine HL_nil ?_
    all_goals (
      refine HQ_then ?_
      refine hK2 _ _ _ _ ?_; clear hK2 K2
      refine HC_seq fun K3 hK3 => ?_
      refine HC_region ?_
      all_goals refine HL_r rfl rfl rfl rfl (R_move rfl) ?_
      all_goals refine HL_r rfl rfl rfl rfl (R_move rfl) ?_
      all_goals refine HL_r rfl rfl rfl rfl (R_concat rfl rfl (by omega)) ?_; rw [← ht]
      all_goals refine HL_r rfl rfl rfl rfl (R_assign rfl) ?_
      all_goals refine HL_nil ?_
      all_goals (
        refine HQ_then ?_
        refine hK3 _ _ _ _ ?_; clear hK3 K3
        refine HC_seq fun K4 hK4 => ?_
        refine HC_region ?_
        all_goals refine HL_alloc (cs := (z25.map uV).toArray) rfl rfl rfl rfl fun r1 => ?_
        all_goals refine HL_nil ?_
        all_goals (
          refine HQ_then ?_
          refine hK4 _ _ _ _ ?_; clear hK4 K4
          refine HC_seq fun K5 hK5 => ?_
          refine HC_seq fun K6 hK6 => ?_
          refine HC_region ?_
          all_goals refine HL_r rfl rfl rfl rfl (R_assign rfl) ?_
          all_goals refine HL_nil ?_
          all_goals (
            refine HQ_then ?_
            refine hK6 _ _ _ _ ?_; clear hK6 K6
            refine HC_block ?_
            refine HC_loop (σ := Nat) (fun j => j ≤ N) (fun j => [(5, .string (bs t)), (6, .pointer (some ⟨r1, 0, none⟩)), (7, .int .i64 ((136 * j : Nat) : Int))]) (fun j => [(r1, lO (sumS t j))]) (fun _ _ _ => True) (fun j => N - j) 0 (Nat.zero_le _) (.cons rfl (.cons rfl (.cons rfl .nil))) (List.Sublist.refl _) (fun _ _ h => h) ?_
            intro jj hjj
            refine HC_seq fun K7 hK7 => ?_
            refine HC_seq fun K8 hK8 => ?_
            refine HC_region ?_
            all_goals refine HL_r rfl rfl rfl rfl (R_move rfl) ?_
            all_goals refine HL_r rfl rfl rfl rfl (R_move rfl) ?_
            all_goals first
              | (refine HL_r rfl rfl rfl rfl (R_lenBs rfl rfl) ?_)
              | (refine HL_r rfl rfl rfl rfl (R_lenSl rfl rfl) ?_)
              | (refine HL_r rfl rfl rfl rfl (R_lenStr rfl rfl rfl) ?_)
              | (refine HL_r rfl rfl rfl rfl (R_pure rfl rfl rfl) ?_)
            all_goals refine HL_r rfl rfl rfl rfl (R_pure rfl rfl rfl) ?_
            all_goals refine HL_nil ?_
            all_goals (
              refine HQ_then ?_
              refine hK8 _ _ _ _ ?_; clear hK8 K8
              refine HC_cond rfl (fun h9 => ?_) (fun h9 => ?_)
              · try exact Bool.noConfusion h9
                all_goals try simp only [decide_eq_true_eq, decide_eq_false_iff_not, beq_iff_eq, beq_eq_false_iff_ne, bne_iff_ne, bne_eq_false_iff_eq, Bool.not_eq_true', Bool.not_eq_false', ne_eq, Int.not_lt, Int.not_le, ge_iff_le, gt_iff_lt] at h9
                all_goals (
                  refine HC_skip ?_
                  refine HQ_then ?_
                  refine hK7 _ _ _ _ ?_; clear hK7 K7
                  refine HC_seq fun K10 hK10 => ?_
                  refine HC_block ?_
                  refine HC_seq fun K11 hK11 => ?_
                  refine HC_seq fun K12 hK12 => ?_
                  obtain ⟨a, ha⟩ : ∃ a, a = sumS t jj := ⟨_, rfl⟩
                  have hak : SOk 25 a := by rw [ha]; exact sumS_ok t jj
                  obtain ⟨u, hu⟩ : ∃ u, u = t.drop (136 * jj) := ⟨_, rfl⟩
                  have habk := abS_ok u hak
                  refine HC_region ?_
                  all_goals refine HL_r rfl rfl rfl rfl (R_assign rfl) ?_
                  all_goals refine HL_nil ?_
                  all_goals (
                    refine HQ_then ?_
                    refine hK12 _ _ _ _ ?_; clear hK12 K12
                    refine HC_block ?_
                    refine HC_loop (σ := Nat) (fun i => i ≤ 136) (fun i => [(5, .string (bs t)), (6, .pointer (some ⟨r1, 0, none⟩)), (7, .int .i64 ((136 * jj : Nat) : Int)), (8, .int .i64 (i : Int))]) (fun i => [(r1, lO (abS a u i))]) (fun _ _ _ => True) (fun i => 136 - i) 0 (Nat.zero_le _) (.cons rfl (.cons rfl (.cons rfl (.cons rfl .nil)))) (by rw [show abS a u 0 = sumS t jj from ha]; exact List.Sublist.refl _) (fun _ _ h => h) ?_
                    intro i hi
                    refine HC_seq fun K13 hK13 => ?_
                    refine HC_seq fun K14 hK14 => ?_
                    refine HC_region ?_
                    all_goals refine HL_r rfl rfl rfl rfl (R_move rfl) ?_
                    all_goals refine HL_r rfl rfl rfl rfl (R_pure rfl rfl rfl) ?_
                    all_goals refine HL_nil ?_
                    all_goals (
                      refine HQ_then ?_
                      refine hK14 _ _ _ _ ?_; clear hK14 K14
                      refine HC_cond rfl (fun h15 => ?_) (fun h15 => ?_)
                      · try exact Bool.noConfusion h15
                        all_goals try simp only [decide_eq_true_eq, decide_eq_false_iff_not, beq_iff_eq, beq_eq_false_iff_ne, bne_iff_ne, bne_eq_false_iff_eq, Bool.not_eq_true', Bool.not_eq_false', ne_eq, Int.not_lt, Int.not_le, ge_iff_le, gt_iff_lt] at h15
                        all_goals (
                          refine HC_skip ?_
                          refine HQ_then ?_
                          refine hK13 _ _ _ _ ?_; clear hK13 K13
                          refine HC_seq fun K16 hK16 => ?_
                          refine HC_block ?_
                          refine HC_draw 19 (by kernel_rfl) (by kernel_rfl) ?_
                          all_goals refine HD_r rfl rfl rfl (R_move rfl) ?_
                          all_goals refine HD_r rfl rfl rfl (R_pure rfl rfl rfl) ?_; refine HD_as (show _ = Value.int .i64 ((i / 8 : Nat) : Int) from congrArg (Value.int .i64) (by rw [quo_i64 (by omega) (by omega) (by omega)]; omega)) ?_
                          all_goals refine HD_r rfl rfl rfl (R_move rfl) ?_
                          all_goals refine HD_r rfl rfl rfl (R_pure rfl rfl rfl) ?_; refine HD_as (show _ = Value.int .i64 ((i / 8 : Nat) : Int) from congrArg (Value.int .i64) (by rw [quo_i64 (by omega) (by omega) (by omega)]; omega)) ?_
                          all_goals refine HD_r rfl rfl rfl (R_indexA (j := (i / 8)) (m := 1) (off' := (i / 8)) rfl rfl rfl rfl (by omega) (by omega) (by omega)) ?_
                          all_goals refine HD_r rfl rfl rfl (R_loadAt rfl (known_L (k := 0) rfl) rfl (mapU_get (by rw [(habk i).1]; omega))) ?_
                          all_goals refine HD_r rfl rfl rfl (R_move rfl) ?_
                          all_goals refine HD_r rfl rfl rfl (R_move rfl) ?_
                          all_goals refine HD_r rfl rfl rfl (R_move rfl) ?_
                          all_goals refine HD_r rfl rfl rfl (R_pure rfl rfl rfl) ?_; refine HD_as (show _ = Value.int .i64 ((136 * jj + i : Nat) : Int) from congrArg (Value.int .i64) (by rw [wrap_i64 (by omega) (by omega)]; omega)) ?_
                          all_goals refine HD_r rfl rfl rfl (R_indexBs (j := 136 * jj + i) rfl rfl rfl rfl (by omega) drop_get) ?_; rw [← hu]
                          all_goals refine HD_r rfl rfl rfl (R_pure rfl rfl rfl) ?_; refine HD_as (show _ = uV (u.getD i 0).toNat from congrArg (Value.int .u64) (wrap_u64 (z := ((u.getD i 0).toNat : Int)) (by omega) (by have := u8_lt (u.getD i 0); omega))) ?_
                          all_goals refine HD_r rfl rfl rfl (R_move rfl) ?_
                          all_goals refine HD_r rfl rfl rfl (R_pure rfl rfl rfl) ?_; refine HD_as (show _ = Value.int .i64 ((i % 8 : Nat) : Int) from congrArg (Value.int .i64) (by rw [Int.tmod_eq_emod_of_nonneg (by omega)]; omega)) ?_
                          all_goals refine HD_r rfl rfl rfl (R_pure rfl rfl rfl) ?_; refine HD_as (show _ = Value.int .i64 ((i % 8 * 8 : Nat) : Int) from congrArg (Value.int .i64) (by rw [wrap_i64 (by omega) (by omega)]; omega)) ?_
                          all_goals refine HD_r rfl rfl rfl (R_pure rfl rfl rfl) ?_; refine HD_as (show _ = uV (i % 8 * 8) from congrArg (Value.int .u64) (wrap_u64 (z := ((i % 8 * 8 : Nat) : Int)) (by omega) (by omega))) ?_
                          all_goals refine HD_r rfl rfl rfl (R_shl (n := i % 8 * 8) rfl rfl rfl (show _ ≤ 64 from by omega) (shl_u64 (sh_lt (u8_lt _) (by omega)))) ?_
                          all_goals refine HD_r rfl rfl rfl (R_bits64 (op := .xor) (b := (((abS a u i).getD (i / 8) 0 ^^^ (u.getD i 0).toNat * 2 ^ (i % 8 * 8) : Nat) : Int)) rfl rfl rfl ((habk i).get _) (sh_lt (u8_lt _) (by omega)) rfl) ?_
                          all_goals refine HD_r rfl rfl rfl (R_indexA (j := (i / 8)) (m := 1) (off' := (i / 8)) rfl rfl rfl rfl (by omega) (by omega) (by omega)) ?_
                          all_goals refine HD_end ?_
                          all_goals refine HL_storeAt (k := 0) (off := i / 8) (xs := (abS a u i).map uV) (ys := (abS a u (i + 1)).map uV) rfl rfl rfl rfl rfl rfl (by rw [List.length_map, (habk i).1]; omega) (set_mapU rfl) rfl ?_
                          all_goals refine HL_nil ?_
                          all_goals (
                            refine HQ_blockN ?_
                            refine HQ_then ?_
                            refine hK16 _ _ _ _ ?_; clear hK16 K16
                            refine HC_region ?_
                            all_goals refine HL_r rfl rfl rfl rfl (R_move rfl) ?_
                            all_goals first
                              | (refine HL_r rfl rfl rfl rfl (R_pure rfl rfl rfl) ?_; refine HL_wrap_i64 (by omega) (by omega) ?_)
                              | (refine HL_r rfl rfl rfl rfl (R_pure rfl rfl rfl) ?_)
                            all_goals refine HL_r rfl rfl rfl rfl (R_assign rfl) ?_
                            all_goals refine HL_nil ?_
                            all_goals (
                              refine HQ_then ?_
                              exact HQ_again (i + 1) (by omega) (by omega) (.cons rfl (.cons rfl (.cons rfl (.cons rfl .nil)))) (List.Sublist.refl _) (fun _ _ h => h)
                              skip)
                            skip)
                          skip)
                      · try exact Bool.noConfusion h15
                        all_goals try simp only [decide_eq_true_eq, decide_eq_false_iff_not, beq_iff_eq, beq_eq_false_iff_ne, bne_iff_ne, bne_eq_false_iff_eq, Bool.not_eq_true', Bool.not_eq_false', ne_eq, Int.not_lt, Int.not_le, ge_iff_le, gt_iff_lt] at h15
                        all_goals (
                          refine HC_exit ?_
                          refine HQ_thenE ?_; clear hK13 K13
                          refine HQ_thenE ?_
                          refine HQ_blockE ?_
                          refine HQ_then ?_
                          refine hK11 _ _ _ _ ?_; clear hK11 K11
                          have hi136 : 136 = i := by omega
                          subst hi136
                          refine HC_region ?_
                          all_goals refine HL_r rfl rfl rfl rfl (R_loadArr (xs := (abS a u 136).map uV) (n := 25) rfl (known_L (k := 0) rfl) rfl rfl (by rw [List.length_map, (habk 136).1])) ?_
                          all_goals refine HL_callP rfl rfl rfl (enters_of Tryd.func50 (by kernel_rfl) rfl) (P_ref3_Permute (habk 136)) ?_
                          all_goals refine HL_storeArr (k := 0) (n := 25) (ys := (permA (abS a u 136)).map uV) rfl rfl rfl rfl rfl (by rw [List.length_map, (permA_ok (habk 136)).1]) (by rw [List.size_toArray, List.length_map, (habk 136).1]) (mapU_one _) rfl ?_
                          all_goals refine HL_nil ?_
                          all_goals (
                            refine HQ_blockN ?_
                            refine HQ_then ?_
                            refine hK10 _ _ _ _ ?_; clear hK10 K10
                            refine HC_region ?_
                            all_goals refine HL_r rfl rfl rfl rfl (R_move rfl) ?_
                            all_goals refine HL_r rfl rfl rfl rfl (R_pure rfl rfl rfl) ?_; refine HL_as (show _ = Value.int .i64 ((136 * (jj + 1) : Nat) : Int) from congrArg (Value.int .i64) (by rw [wrap_i64 (by omega) (by omega)]; omega)) ?_
                            all_goals refine HL_r rfl rfl rfl rfl (R_assign rfl) ?_
                            all_goals refine HL_nil ?_
                            all_goals (
                              refine HQ_then ?_
                              exact HQ_again (jj + 1) (by omega) (by omega) (.cons rfl (.cons rfl (.cons rfl .nil))) (by rw [show sumS t (jj + 1) = permA (abS a u 136) from by rw [hu, ha]; rfl]; exact List.Sublist.refl _) (fun _ _ h => h)
                              skip)
                            skip)
                          skip)
                      skip)
                    skip)
                  skip)
              · try exact Bool.noConfusion h9
                all_goals try simp only [decide_eq_true_eq, decide_eq_false_iff_not, beq_iff_eq, beq_eq_false_iff_ne, bne_iff_ne, bne_eq_false_iff_eq, Bool.not_eq_true', Bool.not_eq_false', ne_eq, Int.not_lt, Int.not_le, ge_iff_le, gt_iff_lt] at h9
                all_goals (
                  refine HC_exit ?_
                  refine HQ_thenE ?_; clear hK7 K7
                  refine HQ_thenE ?_
                  refine HQ_blockE ?_
                  refine HQ_then ?_
                  refine hK5 _ _ _ _ ?_; clear hK5 K5
                  refine HC_seq fun K17 hK17 => ?_
                  have hjN : N = jj := by omega
                  subst hjN
                  obtain ⟨a, ha⟩ : ∃ a, a = sumS t N := ⟨_, rfl⟩
                  have hak : SOk 25 a := by rw [ha]; exact sumS_ok t N
                  have hkec2 : kec s = outL a 32 := by rw [hkec, ha]
                  refine HC_region ?_
                  all_goals refine HL_r rfl rfl rfl rfl (R_assign rfl) ?_
                  all_goals refine HL_nil ?_
                  all_goals (
                    refine HQ_then ?_
                    refine hK17 _ _ _ _ ?_; clear hK17 K17
                    refine HC_seq fun K18 hK18 => ?_
                    refine HC_seq fun K19 hK19 => ?_
                    refine HC_region ?_
                    all_goals refine HL_r rfl rfl rfl rfl (R_assign rfl) ?_
                    all_goals refine HL_nil ?_
                    all_goals (
                      refine HQ_then ?_
                      refine hK19 _ _ _ _ ?_; clear hK19 K19
                      refine HC_block ?_
                      refine HC_loop (σ := Nat × List Value × Row) (fun q => q.1 ≤ 32 ∧ q.2.1 = (outL a q.1).map bV ∧ rowOk 1 q.1 q.2.1 q.2.2) (fun q => [(6, .pointer (some ⟨r1, 0, none⟩)), (9, rowV q.1 q.2.2), (10, .int .i64 (q.1 : Int))]) (fun q => (r1, lO a) :: rowL 5 q.2.1 q.2.2) (fun _ _ _ => True) (fun q => 32 - q.1) (0, [], none) ⟨by simp, rfl, ⟨rfl, rfl⟩⟩ (.cons rfl (.cons rfl (.cons rfl .nil))) (by rw [ha]; exact List.Sublist.refl _) (fun _ _ h => h) ?_
                      rintro ⟨i, xs, row⟩ ⟨hi, hxs, hrow⟩
                      simp only at hi hxs hrow ⊢
                      refine HC_seq fun K20 hK20 => ?_
                      refine HC_seq fun K21 hK21 => ?_
                      refine HC_region ?_
                      all_goals refine HL_r rfl rfl rfl rfl (R_move rfl) ?_
                      all_goals refine HL_r rfl rfl rfl rfl (R_pure rfl rfl rfl) ?_
                      all_goals refine HL_nil ?_
                      all_goals (
                        refine HQ_then ?_
                        refine hK21 _ _ _ _ ?_; clear hK21 K21
                        refine HC_cond rfl (fun h22 => ?_) (fun h22 => ?_)
                        · try exact Bool.noConfusion h22
                          all_goals try simp only [decide_eq_true_eq, decide_eq_false_iff_not, beq_iff_eq, beq_eq_false_iff_ne, bne_iff_ne, bne_eq_false_iff_eq, Bool.not_eq_true', Bool.not_eq_false', ne_eq, Int.not_lt, Int.not_le, ge_iff_le, gt_iff_lt] at h22
                          all_goals (
                            refine HC_skip ?_
                            refine HQ_then ?_
                            refine hK20 _ _ _ _ ?_; clear hK20 K20
                            refine HC_seq fun K23 hK23 => ?_
                            refine HC_block ?_
                            refine HC_region ?_
                            all_goals refine HL_r rfl rfl rfl rfl (R_move rfl) ?_
                            all_goals refine HL_r rfl rfl rfl rfl (R_move rfl) ?_
                            all_goals refine HL_r rfl rfl rfl rfl (R_pure rfl rfl rfl) ?_; refine HL_as (show _ = Value.int .i64 ((i / 8 : Nat) : Int) from congrArg (Value.int .i64) (by rw [quo_i64 (by omega) (by omega) (by omega)]; omega)) ?_
                            all_goals refine HL_r rfl rfl rfl rfl (R_indexA (j := (i / 8)) (m := 1) (off' := (i / 8)) rfl rfl rfl rfl (by omega) (by omega) (by omega)) ?_
                            all_goals refine HL_r rfl rfl rfl rfl (R_loadAt rfl (known_L (k := 0) rfl) rfl (mapU_get (by rw [hak.1]; omega))) ?_
                            all_goals refine HL_r rfl rfl rfl rfl (R_move rfl) ?_
                            all_goals refine HL_r rfl rfl rfl rfl (R_pure rfl rfl rfl) ?_; refine HL_as (show _ = Value.int .i64 ((i % 8 : Nat) : Int) from congrArg (Value.int .i64) (by rw [Int.tmod_eq_emod_of_nonneg (by omega)]; omega)) ?_
                            all_goals refine HL_r rfl rfl rfl rfl (R_pure rfl rfl rfl) ?_; refine HL_as (show _ = Value.int .i64 ((i % 8 * 8 : Nat) : Int) from congrArg (Value.int .i64) (by rw [wrap_i64 (by omega) (by omega)]; omega)) ?_
                            all_goals refine HL_r rfl rfl rfl rfl (R_pure rfl rfl rfl) ?_; refine HL_as (show _ = uV (i % 8 * 8) from congrArg (Value.int .u64) (wrap_u64 (z := ((i % 8 * 8 : Nat) : Int)) (by omega) (by omega))) ?_
                            all_goals refine HL_r rfl rfl rfl rfl (R_shr (n := i % 8 * 8) rfl rfl rfl (show _ ≤ 64 from by omega) (by omega) (shr_nat _ _)) ?_
                            all_goals refine HL_r rfl rfl rfl rfl (R_pure rfl rfl rfl) ?_; refine HL_as (show _ = uV (a.getD (i / 8) 0 / 2 ^ (i % 8 * 8) % 256) from congrArg (Value.int .u64) (rem_nat _ 256)) ?_
                            all_goals refine HL_r rfl rfl rfl rfl (R_pure rfl rfl rfl) ?_; refine HL_as (show _ = bV (UInt8.ofNat (a.getD (i / 8) 0 / 2 ^ (i % 8 * 8) % 256)) from byte_of (Nat.mod_lt _ (by decide))) ?_
                            all_goals refine HL_buildSlice (vs := [_]) (zs := [_]) (r := [_]) rfl rfl rfl rfl rfl rfl rfl rfl rfl (by show (madeCells #[_] _).toList = _; rw [made_one]; exact rfl) rfl fun r1 => ?_
                            all_goals refine HL_appendRow (L0 := [_, _]) (xs := xs) (row := row) (n := i) (sz := 1) (b := 1) (news := [_]) (List.perm_append_comm (l₁ := [_, _])) rfl rfl rfl rfl (known_L (k := 0) rfl) rfl rfl rfl rfl rfl (by decide) rfl rfl rfl (by decide) hrow (by omega) (by omega) fun ra cap sp hra => ?_
                            all_goals refine HL_r rfl rfl rfl rfl (R_assign rfl) ?_
                            all_goals refine HL_nil ?_
                            all_goals (
                              refine HQ_blockN ?_
                              refine HQ_then ?_
                              refine hK23 _ _ _ _ ?_; clear hK23 K23
                              refine HC_region ?_
                              all_goals refine HL_r rfl rfl rfl rfl (R_move rfl) ?_
                              all_goals first
                                | (refine HL_r rfl rfl rfl rfl (R_pure rfl rfl rfl) ?_; refine HL_wrap_i64 (by omega) (by omega) ?_)
                                | (refine HL_r rfl rfl rfl rfl (R_pure rfl rfl rfl) ?_)
                              all_goals refine HL_r rfl rfl rfl rfl (R_assign rfl) ?_
                              all_goals refine HL_nil ?_
                              all_goals (
                                refine HQ_then ?_
                                refine HQ_sel [2, 0] (L' := [_, _]) (by decide) rfl ?_
                                exact HQ_again (i + 1, xs ++ [bV (UInt8.ofNat (a.getD (i / 8) 0 / 2 ^ (i % 8 * 8) % 256))], some (ra, cap, sp)) ⟨by simp only; omega, by simp only; rw [outL_snoc, hxs], hra⟩ (by simp only; omega) (.cons rfl (.cons rfl (.cons rfl .nil))) (List.Sublist.refl _) (fun _ _ h => h)
                                skip)
                              skip)
                            skip)
                        · try exact Bool.noConfusion h22
                          all_goals try simp only [decide_eq_true_eq, decide_eq_false_iff_not, beq_iff_eq, beq_eq_false_iff_ne, bne_iff_ne, bne_eq_false_iff_eq, Bool.not_eq_true', Bool.not_eq_false', ne_eq, Int.not_lt, Int.not_le, ge_iff_le, gt_iff_lt] at h22
                          all_goals (
                            refine HC_exit ?_
                            refine HQ_thenE ?_; clear hK20 K20
                            refine HQ_thenE ?_
                            refine HQ_blockE ?_
                            refine HQ_then ?_
                            refine hK18 _ _ _ _ ?_; clear hK18 K18
                            refine HC_seq fun K24 hK24 => ?_
                            have hi32 : 32 = i := by omega
                            subst hi32
                            refine HC_region ?_
                            all_goals refine HL_r rfl rfl rfl rfl (R_move rfl) ?_
                            all_goals refine HL_r rfl rfl rfl rfl (R_bytesStr (b := outL a 32) (row := row) (e := 5) (show _ = some (rowV (outL a 32).length row) from by rw [outL_len]; rfl) (by rw [outL_len, ← hxs]; exact hrow) (fun p hp => .inl (by rw [hxs]; exact List.mem_cons_of_mem _ hp)) rfl rfl rfl) ?_
                            all_goals refine HL_r rfl rfl rfl rfl (R_assign rfl) ?_
                            all_goals refine HL_nil ?_
                            all_goals (
                              refine HQ_then ?_
                              refine hK24 _ _ _ _ ?_; clear hK24 K24
                              refine HC_ret ?_
                              refine HQ_post rfl rfl (.cons (res_tmp rfl) .nil) (fun w1 hs1 => ?_)
                              exact ⟨by rw [hkec2]; rfl, hs1.keep⟩
                              skip)
                            skip)
                        skip)
                      skip)
                    skip)
                  skip)
              skip)
            skip)
          skip)
        skip)
      skip)
    skip)
end Go.Proofs.YthfinkklgbiaeaaDoor
