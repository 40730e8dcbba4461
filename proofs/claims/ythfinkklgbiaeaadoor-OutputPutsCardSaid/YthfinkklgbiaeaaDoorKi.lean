import Derived.Test.YthfinkklgbiaeaaDoorKh
namespace Go.Proofs.YthfinkklgbiaeaaDoor
set_option linter.all false
open Go.SL Go.RowKit Go.Shelf
set_option maxRecDepth 10000 in
theorem P_ref3_turn {a : List Nat} (ha : SOk 25 a) : Pure Tryd.prog 61 [.agg (a.map uV).toArray].toArray (.agg ((tS a 24).map uV).toArray) := by
  refine pure_of_HC Tryd.func61 rfl rfl fun w => ?_
  have hal := ha.1
  have htk := fun i => tS_ok ha i
  refine HC_seq fun K1 hK1 => ?_
  refine HC_region ?_
  all_goals refine HL_box (cs := (a.map uV).toArray) rfl rfl rfl rfl fun r1 => ?_
  all_goals refine HL_alloc (cs := (z25.map uV).toArray) rfl rfl rfl rfl fun r2 => ?_
  all_goals refine HL_nil ?_
  all_goals (
    refine HQ_then ?_
    refine hK1 _ _ _ _ ?_; clear hK1 K1
    refine HC_seq fun K2 hK2 => ?_
    refine HC_region ?_
    all_goals refine HL_r rfl rfl rfl rfl (R_assign rfl) ?_
    all_goals refine HL_nil ?_
    all_goals (
      refine HQ_then ?_
      refine hK2 _ _ _ _ ?_; clear hK2 K2
      refine HC_seq fun K3 hK3 => ?_
      refine HC_region ?_
      all_goals refine HL_r rfl rfl rfl rfl (R_assign rfl) ?_
      all_goals refine HL_nil ?_
      all_goals (
        refine HQ_then ?_
        refine hK3 _ _ _ _ ?_; clear hK3 K3
        refine HC_seq fun K4 hK4 => ?_
        refine HC_seq fun K5 hK5 => ?_
        refine HC_region ?_
        all_goals refine HL_r rfl rfl rfl rfl (R_assign rfl) ?_
        all_goals refine HL_nil ?_
        all_goals (
          refine HQ_then ?_
          refine hK5 _ _ _ _ ?_; clear hK5 K5
          refine HC_block ?_
          refine HC_loop (σ := Nat) (fun i => i ≤ 24) (fun i => [(1, .pointer (some ⟨r1, 0, none⟩)), (2, .pointer (some ⟨r2, 0, none⟩)), (3, .int .i64 (tX i : Int)), (4, .int .i64 (tY i : Int)), (5, .int .i64 (i : Int))]) (fun i => [(r2, lO z25), (r1, lO (tS a i))]) (fun _ _ _ => True) (fun i => 24 - i) 0 (Nat.zero_le _) (.cons rfl (.cons rfl (.cons rfl (.cons rfl (.cons rfl .nil))))) (List.Sublist.refl _) (fun _ _ h => h) ?_
          intro i hi
          refine HC_seq fun K6 hK6 => ?_
          refine HC_seq fun K7 hK7 => ?_
          refine HC_region ?_
          all_goals refine HL_r rfl rfl rfl rfl (R_move rfl) ?_
          all_goals refine HL_r rfl rfl rfl rfl (R_pure rfl rfl rfl) ?_
          all_goals refine HL_nil ?_
          all_goals (
            refine HQ_then ?_
            refine hK7 _ _ _ _ ?_; clear hK7 K7
            refine HC_cond rfl (fun h8 => ?_) (fun h8 => ?_)
            · try exact Bool.noConfusion h8
              all_goals try simp only [decide_eq_true_eq, decide_eq_false_iff_not, beq_iff_eq, beq_eq_false_iff_ne, bne_iff_ne, bne_eq_false_iff_eq, Bool.not_eq_true', Bool.not_eq_false', ne_eq, Int.not_lt, Int.not_le, ge_iff_le, gt_iff_lt] at h8
              all_goals (
                refine HC_skip ?_
                refine HQ_then ?_
                refine hK6 _ _ _ _ ?_; clear hK6 K6
                refine HC_seq fun K9 hK9 => ?_
                refine HC_block ?_
                refine HC_seq fun K10 hK10 => ?_
                have hxy := tXY_lt i
                obtain ⟨m, hm⟩ : ∃ m, m = (i + 1) * (i + 2) := ⟨_, rfl⟩
                have hmi : ((i + 1 : Nat) : Int) * ((i + 2 : Nat) : Int) = (m : Int) := by rw [hm, Int.natCast_mul]
                have hmb : m ≤ 25 * 26 := by rw [hm]; exact Nat.mul_le_mul (by omega) (by omega)
                refine HC_region ?_
                all_goals refine HL_r rfl rfl rfl rfl (R_move rfl) ?_
                all_goals refine HL_r rfl rfl rfl rfl (R_move rfl) ?_
                all_goals refine HL_r rfl rfl rfl rfl (R_pure rfl rfl rfl) ?_; refine HL_as (show _ = Value.int .i64 ((5 * tY i : Nat) : Int) from congrArg (Value.int .i64) (by rw [wrap_i64 (by omega) (by omega)]; omega)) ?_
                all_goals refine HL_r rfl rfl rfl rfl (R_pure rfl rfl rfl) ?_; refine HL_as (show _ = Value.int .i64 ((tX i + 5 * tY i : Nat) : Int) from congrArg (Value.int .i64) (by rw [wrap_i64 (by omega) (by omega)]; omega)) ?_
                all_goals refine HL_r rfl rfl rfl rfl (R_move rfl) ?_
                all_goals refine HL_r rfl rfl rfl rfl (R_move rfl) ?_
                all_goals refine HL_r rfl rfl rfl rfl (R_pure rfl rfl rfl) ?_; refine HL_as (show _ = Value.int .i64 ((5 * tY i : Nat) : Int) from congrArg (Value.int .i64) (by rw [wrap_i64 (by omega) (by omega)]; omega)) ?_
                all_goals refine HL_r rfl rfl rfl rfl (R_pure rfl rfl rfl) ?_; refine HL_as (show _ = Value.int .i64 ((tX i + 5 * tY i : Nat) : Int) from congrArg (Value.int .i64) (by rw [wrap_i64 (by omega) (by omega)]; omega)) ?_
                all_goals refine HL_r rfl rfl rfl rfl (R_indexA (j := (tX i + 5 * tY i)) (m := 1) (off' := (tX i + 5 * tY i)) rfl rfl rfl rfl (by omega) (by omega) (by omega)) ?_
                all_goals refine HL_r rfl rfl rfl rfl (R_loadAt rfl (known_L (k := 1) rfl) rfl (mapU_get (by rw [(htk i).1]; omega))) ?_
                all_goals refine HL_r rfl rfl rfl rfl (R_move rfl) ?_
                all_goals refine HL_r rfl rfl rfl rfl (R_pure rfl rfl rfl) ?_; refine HL_as (show _ = Value.int .i64 ((i + 1 : Nat) : Int) from congrArg (Value.int .i64) (by rw [wrap_i64 (by omega) (by omega)]; omega)) ?_
                all_goals refine HL_r rfl rfl rfl rfl (R_move rfl) ?_
                all_goals refine HL_r rfl rfl rfl rfl (R_pure rfl rfl rfl) ?_; refine HL_as (show _ = Value.int .i64 ((i + 2 : Nat) : Int) from congrArg (Value.int .i64) (by rw [wrap_i64 (by omega) (by omega)]; omega)) ?_
                all_goals refine HL_r rfl rfl rfl rfl (R_pure rfl rfl rfl) ?_; refine HL_as (show _ = Value.int .i64 ((m : Nat) : Int) from congrArg (Value.int .i64) (by rw [hmi, wrap_i64 (by omega) (by omega)])) ?_
                all_goals refine HL_r rfl rfl rfl rfl (R_pure rfl rfl rfl) ?_; refine HL_as (show _ = Value.int .i64 ((m / 2 : Nat) : Int) from congrArg (Value.int .i64) (by rw [quo_i64 (by omega) (by omega) (by omega)]; omega)) ?_
                all_goals refine HL_callP rfl rfl rfl (enters_of Tryd.func77 (by kernel_rfl) rfl) (P_ref3_rot (k := m / 2) ((htk i).get _) (by omega)) ?_
                all_goals refine HL_r rfl rfl rfl rfl (R_indexA (j := (tX i + 5 * tY i)) (m := 1) (off' := (tX i + 5 * tY i)) rfl rfl rfl rfl (by omega) (by omega) (by omega)) ?_
                all_goals refine HL_storeAt (k := 1) (off := tX i + 5 * tY i) (xs := (tS a i).map uV) (ys := (tS a (i + 1)).map uV) rfl rfl rfl rfl rfl rfl (by rw [List.length_map, (htk i).1]; omega) (set_mapU (by rw [hm]; rfl)) rfl ?_
                all_goals refine HL_nil ?_
                all_goals (
                  refine HQ_then ?_
                  refine hK10 _ _ _ _ ?_; clear hK10 K10
                  refine HC_seq fun K11 hK11 => ?_
                  refine HC_region ?_
                  all_goals refine HL_r rfl rfl rfl rfl (R_move rfl) ?_
                  all_goals refine HL_r rfl rfl rfl rfl (R_pure rfl rfl rfl) ?_; refine HL_as (show _ = Value.int .i64 ((2 * tX i : Nat) : Int) from congrArg (Value.int .i64) (by rw [wrap_i64 (by omega) (by omega)]; omega)) ?_
                  all_goals refine HL_r rfl rfl rfl rfl (R_move rfl) ?_
                  all_goals refine HL_r rfl rfl rfl rfl (R_pure rfl rfl rfl) ?_; refine HL_as (show _ = Value.int .i64 ((3 * tY i : Nat) : Int) from congrArg (Value.int .i64) (by rw [wrap_i64 (by omega) (by omega)]; omega)) ?_
                  all_goals refine HL_r rfl rfl rfl rfl (R_pure rfl rfl rfl) ?_; refine HL_as (show _ = Value.int .i64 ((2 * tX i + 3 * tY i : Nat) : Int) from congrArg (Value.int .i64) (by rw [wrap_i64 (by omega) (by omega)]; omega)) ?_
                  all_goals refine HL_r rfl rfl rfl rfl (R_pure rfl rfl rfl) ?_; refine HL_as (show _ = Value.int .i64 (((2 * tX i + 3 * tY i) % 5 : Nat) : Int) from congrArg (Value.int .i64) (by rw [Int.tmod_eq_emod_of_nonneg (by omega)]; omega)) ?_
                  all_goals refine HL_r rfl rfl rfl rfl (R_assign rfl) ?_
                  all_goals refine HL_nil ?_
                  all_goals (
                    refine HQ_then ?_
                    refine hK11 _ _ _ _ ?_; clear hK11 K11
                    refine HC_seq fun K12 hK12 => ?_
                    refine HC_region ?_
                    all_goals refine HL_r rfl rfl rfl rfl (R_move rfl) ?_
                    all_goals refine HL_r rfl rfl rfl rfl (R_assign rfl) ?_
                    all_goals refine HL_nil ?_
                    all_goals (
                      refine HQ_then ?_
                      refine hK12 _ _ _ _ ?_; clear hK12 K12
                      refine HC_region ?_
                      all_goals refine HL_r rfl rfl rfl rfl (R_move rfl) ?_
                      all_goals refine HL_r rfl rfl rfl rfl (R_assign rfl) ?_
                      all_goals refine HL_nil ?_
                      all_goals (
                        refine HQ_blockN ?_
                        refine HQ_then ?_
                        refine hK9 _ _ _ _ ?_; clear hK9 K9
                        refine HC_region ?_
                        all_goals refine HL_r rfl rfl rfl rfl (R_move rfl) ?_
                        all_goals first
                          | (refine HL_r rfl rfl rfl rfl (R_pure rfl rfl rfl) ?_; refine HL_wrap_i64 (by omega) (by omega) ?_)
                          | (refine HL_r rfl rfl rfl rfl (R_pure rfl rfl rfl) ?_)
                        all_goals refine HL_r rfl rfl rfl rfl (R_assign rfl) ?_
                        all_goals refine HL_nil ?_
                        all_goals (
                          refine HQ_then ?_
                          exact HQ_again (i + 1) (by omega) (by omega) (.cons rfl (.cons rfl (.cons rfl (.cons rfl (.cons rfl .nil))))) (List.Sublist.refl _) (fun _ _ h => h)
                          skip)
                        skip)
                      skip)
                    skip)
                  skip)
                skip)
            · try exact Bool.noConfusion h8
              all_goals try simp only [decide_eq_true_eq, decide_eq_false_iff_not, beq_iff_eq, beq_eq_false_iff_ne, bne_iff_ne, bne_eq_false_iff_eq, Bool.not_eq_true', Bool.not_eq_false', ne_eq, Int.not_lt, Int.not_le, ge_iff_le, gt_iff_lt] at h8
              all_goals (
                refine HC_exit ?_
                refine HQ_thenE ?_; clear hK6 K6
                refine HQ_thenE ?_
                refine HQ_blockE ?_
                refine HQ_then ?_
                refine hK4 _ _ _ _ ?_; clear hK4 K4
                refine HC_seq fun K13 hK13 => ?_
                have hi24 : 24 = i := by omega
                subst hi24
                refine HC_region ?_
                all_goals refine HL_r rfl rfl rfl rfl (R_loadArr (xs := (tS a 24).map uV) (n := 25) rfl (known_L (k := 1) rfl) rfl rfl (by rw [List.length_map, (htk 24).1])) ?_
                all_goals refine HL_storeArr (k := 0) (n := 25) (ys := (tS a 24).map uV) rfl rfl rfl rfl rfl (by rw [List.length_map, (htk 24).1]) rfl (mapU_one _) rfl ?_
                all_goals refine HL_nil ?_
                all_goals (
                  refine HQ_then ?_
                  refine hK13 _ _ _ _ ?_; clear hK13 K13
                  refine HC_ret ?_
                  refine HQ_post rfl rfl (.cons (res_cellA (vs := (tS a 24).map uV) rfl (known_L (k := 0) rfl) rfl (by rw [List.length_map, (htk 24).1]; rfl)) .nil) (fun w1 hs1 => ?_)
                  exact ⟨rfl, hs1.keep⟩
                  skip)
                skip)
            skip)
          skip)
        skip)
      skip)
    skip)
set_option maxRecDepth 10000 in
theorem P_ref3_move {a : List Nat} (ha : SOk 25 a) : Pure Tryd.prog 60 [.agg (a.map uV).toArray].toArray (.agg ((bS a 25).map uV).toArray) := by
  refine pure_of_HC Tryd.func60 rfl rfl fun w => ?_
  have hal := ha.1
  have hbk := fun i => bS_ok ha i
  refine HC_seq fun K1 hK1 => ?_
  refine HC_region ?_
  all_goals refine HL_box (cs := (a.map uV).toArray) rfl rfl rfl rfl fun r1 => ?_
  all_goals refine HL_alloc (cs := (z25.map uV).toArray) rfl rfl rfl rfl fun r2 => ?_
  all_goals refine HL_nil ?_
  all_goals (
    refine HQ_then ?_
    refine hK1 _ _ _ _ ?_; clear hK1 K1
    refine HC_seq fun K2 hK2 => ?_
    refine HC_region ?_
    all_goals refine HL_alloc (cs := (z25.map uV).toArray) rfl rfl rfl rfl fun r3 => ?_
    all_goals refine HL_nil ?_
    all_goals (
      refine HQ_then ?_
      refine hK2 _ _ _ _ ?_; clear hK2 K2
      refine HC_seq fun K3 hK3 => ?_
      refine HC_seq fun K4 hK4 => ?_
      refine HC_region ?_
      all_goals refine HL_r rfl rfl rfl rfl (R_assign rfl) ?_
      all_goals refine HL_nil ?_
      all_goals (
        refine HQ_then ?_
        refine hK4 _ _ _ _ ?_; clear hK4 K4
        refine HC_block ?_
        refine HC_loop (σ := Nat) (fun i => i ≤ 25) (fun i => [(1, .pointer (some ⟨r1, 0, none⟩)), (2, .pointer (some ⟨r2, 0, none⟩)), (3, .pointer (some ⟨r3, 0, none⟩)), (4, .int .i64 (i : Int))]) (fun i => [(r3, lO (bS a i)), (r2, lO z25), (r1, lO a)]) (fun _ _ _ => True) (fun i => 25 - i) 0 (Nat.zero_le _) (.cons rfl (.cons rfl (.cons rfl (.cons rfl .nil)))) (List.Sublist.refl _) (fun _ _ h => h) ?_
        intro i hi
        refine HC_seq fun K5 hK5 => ?_
        refine HC_seq fun K6 hK6 => ?_
        refine HC_region ?_
        all_goals refine HL_r rfl rfl rfl rfl (R_move rfl) ?_
        all_goals refine HL_r rfl rfl rfl rfl (R_pure rfl rfl rfl) ?_
        all_goals refine HL_nil ?_
        all_goals (
          refine HQ_then ?_
          refine hK6 _ _ _ _ ?_; clear hK6 K6
          refine HC_cond rfl (fun h7 => ?_) (fun h7 => ?_)
          · try exact Bool.noConfusion h7
            all_goals try simp only [decide_eq_true_eq, decide_eq_false_iff_not, beq_iff_eq, beq_eq_false_iff_ne, bne_iff_ne, bne_eq_false_iff_eq, Bool.not_eq_true', Bool.not_eq_false', ne_eq, Int.not_lt, Int.not_le, ge_iff_le, gt_iff_lt] at h7
            all_goals (
              refine HC_skip ?_
              refine HQ_then ?_
              refine hK5 _ _ _ _ ?_; clear hK5 K5
              refine HC_seq fun K8 hK8 => ?_
              refine HC_block ?_
              refine HC_seq fun K9 hK9 => ?_
              refine HC_region ?_
              all_goals refine HL_r rfl rfl rfl rfl (R_move rfl) ?_
              all_goals refine HL_r rfl rfl rfl rfl (R_pure rfl rfl rfl) ?_; refine HL_as (show _ = Value.int .i64 ((i % 5 : Nat) : Int) from congrArg (Value.int .i64) (by rw [Int.tmod_eq_emod_of_nonneg (by omega)]; omega)) ?_
              all_goals refine HL_r rfl rfl rfl rfl (R_assign rfl) ?_
              all_goals refine HL_nil ?_
              all_goals (
                refine HQ_then ?_
                refine hK9 _ _ _ _ ?_; clear hK9 K9
                refine HC_seq fun K10 hK10 => ?_
                refine HC_region ?_
                all_goals refine HL_r rfl rfl rfl rfl (R_move rfl) ?_
                all_goals refine HL_r rfl rfl rfl rfl (R_pure rfl rfl rfl) ?_; refine HL_as (show _ = Value.int .i64 ((i / 5 : Nat) : Int) from congrArg (Value.int .i64) (by rw [quo_i64 (by omega) (by omega) (by omega)]; omega)) ?_
                all_goals refine HL_r rfl rfl rfl rfl (R_assign rfl) ?_
                all_goals refine HL_nil ?_
                all_goals (
                  refine HQ_then ?_
                  refine hK10 _ _ _ _ ?_; clear hK10 K10
                  refine HC_region ?_
                  all_goals refine HL_r rfl rfl rfl rfl (R_move rfl) ?_
                  all_goals refine HL_r rfl rfl rfl rfl (R_move rfl) ?_
                  all_goals refine HL_r rfl rfl rfl rfl (R_pure rfl rfl rfl) ?_; refine HL_as (show _ = Value.int .i64 ((2 * (i % 5) : Nat) : Int) from congrArg (Value.int .i64) (by rw [wrap_i64 (by omega) (by omega)]; omega)) ?_
                  all_goals refine HL_r rfl rfl rfl rfl (R_move rfl) ?_
                  all_goals refine HL_r rfl rfl rfl rfl (R_pure rfl rfl rfl) ?_; refine HL_as (show _ = Value.int .i64 ((3 * (i / 5) : Nat) : Int) from congrArg (Value.int .i64) (by rw [wrap_i64 (by omega) (by omega)]; omega)) ?_
                  all_goals refine HL_r rfl rfl rfl rfl (R_pure rfl rfl rfl) ?_; refine HL_as (show _ = Value.int .i64 ((2 * (i % 5) + 3 * (i / 5) : Nat) : Int) from congrArg (Value.int .i64) (by rw [wrap_i64 (by omega) (by omega)]; omega)) ?_
                  all_goals refine HL_r rfl rfl rfl rfl (R_pure rfl rfl rfl) ?_; refine HL_as (show _ = Value.int .i64 (((2 * (i % 5) + 3 * (i / 5)) % 5 : Nat) : Int) from congrArg (Value.int .i64) (by rw [Int.tmod_eq_emod_of_nonneg (by omega)]; omega)) ?_
                  all_goals refine HL_r rfl rfl rfl rfl (R_pure rfl rfl rfl) ?_; refine HL_as (show _ = Value.int .i64 ((5 * ((2 * (i % 5) + 3 * (i / 5)) % 5) : Nat) : Int) from congrArg (Value.int .i64) (by rw [wrap_i64 (by omega) (by omega)]; omega)) ?_
                  all_goals refine HL_r rfl rfl rfl rfl (R_pure rfl rfl rfl) ?_; refine HL_as (show _ = Value.int .i64 ((i / 5 + 5 * ((2 * (i % 5) + 3 * (i / 5)) % 5) : Nat) : Int) from congrArg (Value.int .i64) (by rw [wrap_i64 (by omega) (by omega)]; omega)) ?_
                  all_goals refine HL_r rfl rfl rfl rfl (R_move rfl) ?_
                  all_goals refine HL_r rfl rfl rfl rfl (R_indexA (j := i) (m := 1) (off' := i) rfl rfl rfl rfl (by omega) (by omega) (by omega)) ?_
                  all_goals refine HL_r rfl rfl rfl rfl (R_loadAt rfl (known_L (k := 2) rfl) rfl (mapU_get (by rw [hal]; omega))) ?_
                  all_goals refine HL_r rfl rfl rfl rfl (R_indexA (j := (i / 5 + 5 * ((2 * (i % 5) + 3 * (i / 5)) % 5))) (m := 1) (off' := (i / 5 + 5 * ((2 * (i % 5) + 3 * (i / 5)) % 5))) rfl rfl rfl rfl (by omega) (by omega) (by omega)) ?_
                  all_goals refine HL_storeAt (k := 0) (off := i / 5 + 5 * ((2 * (i % 5) + 3 * (i / 5)) % 5)) (xs := (bS a i).map uV) (ys := (bS a (i + 1)).map uV) rfl rfl rfl rfl rfl rfl (by rw [List.length_map, (hbk i).1]; omega) (set_mapU rfl) rfl ?_
                  all_goals refine HL_nil ?_
                  all_goals (
                    refine HQ_blockN ?_
                    refine HQ_then ?_
                    refine hK8 _ _ _ _ ?_; clear hK8 K8
                    refine HC_region ?_
                    all_goals refine HL_r rfl rfl rfl rfl (R_move rfl) ?_
                    all_goals first
                      | (refine HL_r rfl rfl rfl rfl (R_pure rfl rfl rfl) ?_; refine HL_wrap_i64 (by omega) (by omega) ?_)
                      | (refine HL_r rfl rfl rfl rfl (R_pure rfl rfl rfl) ?_)
                    all_goals refine HL_r rfl rfl rfl rfl (R_assign rfl) ?_
                    all_goals refine HL_nil ?_
                    all_goals (
                      refine HQ_then ?_
                      exact HQ_again (i + 1) (by omega) (by omega) (.cons rfl (.cons rfl (.cons rfl (.cons rfl .nil)))) (List.Sublist.refl _) (fun _ _ h => h)
                      skip)
                    skip)
                  skip)
                skip)
              skip)
          · try exact Bool.noConfusion h7
            all_goals try simp only [decide_eq_true_eq, decide_eq_false_iff_not, beq_iff_eq, beq_eq_false_iff_ne, bne_iff_ne, bne_eq_false_iff_eq, Bool.not_eq_true', Bool.not_eq_false', ne_eq, Int.not_lt, Int.not_le, ge_iff_le, gt_iff_lt] at h7
            all_goals (
              refine HC_exit ?_
              refine HQ_thenE ?_; clear hK5 K5
              refine HQ_thenE ?_
              refine HQ_blockE ?_
              refine HQ_then ?_
              refine hK3 _ _ _ _ ?_; clear hK3 K3
              refine HC_seq fun K11 hK11 => ?_
              have hi25 : 25 = i := by omega
              subst hi25
              refine HC_region ?_
              all_goals refine HL_r rfl rfl rfl rfl (R_loadArr (xs := (bS a 25).map uV) (n := 25) rfl (known_L (k := 0) rfl) rfl rfl (by rw [List.length_map, (hbk 25).1])) ?_
              all_goals refine HL_storeArr (k := 1) (n := 25) (ys := (bS a 25).map uV) rfl rfl rfl rfl rfl (by rw [List.length_map, (hbk 25).1]) rfl (mapU_one _) rfl ?_
              all_goals refine HL_nil ?_
              all_goals (
                refine HQ_then ?_
                refine hK11 _ _ _ _ ?_; clear hK11 K11
                refine HC_ret ?_
                refine HQ_post rfl rfl (.cons (res_cellA (vs := (bS a 25).map uV) rfl (known_L (k := 1) rfl) rfl (by rw [List.length_map, (hbk 25).1]; rfl)) .nil) (fun w1 hs1 => ?_)
                exact ⟨rfl, hs1.keep⟩
                skip)
              skip)
          skip)
        skip)
      skip)
    skip)
theorem P_ref3_move' {m : List Nat} (hm : SOk 25 m) : Pure Tryd.prog 60 [.agg ((tS m 24).map uV).toArray].toArray (.agg ((rS m turnsL 25).map uV).toArray) := by
  rw [← turn_move hm]; exact P_ref3_move (tS_ok hm 24)
set_option maxRecDepth 10000 in
theorem P_ref3_Permute {a : List Nat} (ha : SOk 25 a) : Pure Tryd.prog 50 [.agg (a.map uV).toArray].toArray (.agg ((permA a).map uV).toArray) := by
  refine pure_of_HC Tryd.func50 rfl rfl fun w => ?_
  have hal := ha.1
  have hpk := fun i => permS_ok ha i
  refine HC_seq fun K1 hK1 => ?_
  refine HC_region ?_
  all_goals refine HL_box (cs := (a.map uV).toArray) rfl rfl rfl rfl fun r1 => ?_
  all_goals refine HL_alloc (cs := (z25.map uV).toArray) rfl rfl rfl rfl fun r2 => ?_
  all_goals refine HL_nil ?_
  all_goals (
    refine HQ_then ?_
    refine hK1 _ _ _ _ ?_; clear hK1 K1
    refine HC_seq fun K2 hK2 => ?_
    refine HC_seq fun K3 hK3 => ?_
    refine HC_region ?_
    all_goals refine HL_r rfl rfl rfl rfl (R_assign rfl) ?_
    all_goals refine HL_nil ?_
    all_goals (
      refine HQ_then ?_
      refine hK3 _ _ _ _ ?_; clear hK3 K3
      refine HC_block ?_
      refine HC_loop (σ := Nat) (fun i => i ≤ 24) (fun i => [(1, .pointer (some ⟨r1, 0, none⟩)), (2, .pointer (some ⟨r2, 0, none⟩)), (3, .int .i64 (i : Int))]) (fun i => [(r2, lO z25), (r1, lO (permS a i))]) (fun _ _ _ => True) (fun i => 24 - i) 0 (Nat.zero_le _) (.cons rfl (.cons rfl (.cons rfl .nil))) (List.Sublist.refl _) (fun _ _ h => h) ?_
      intro i hi
      refine HC_seq fun K4 hK4 => ?_
      refine HC_seq fun K5 hK5 => ?_
      refine HC_region ?_
      all_goals refine HL_r rfl rfl rfl rfl (R_move rfl) ?_
      all_goals refine HL_r rfl rfl rfl rfl (R_pure rfl rfl rfl) ?_
      all_goals refine HL_nil ?_
      all_goals (
        refine HQ_then ?_
        refine hK5 _ _ _ _ ?_; clear hK5 K5
        refine HC_cond rfl (fun h6 => ?_) (fun h6 => ?_)
        · try exact Bool.noConfusion h6
          all_goals try simp only [decide_eq_true_eq, decide_eq_false_iff_not, beq_iff_eq, beq_eq_false_iff_ne, bne_iff_ne, bne_eq_false_iff_eq, Bool.not_eq_true', Bool.not_eq_false', ne_eq, Int.not_lt, Int.not_le, ge_iff_le, gt_iff_lt] at h6
          all_goals (
            refine HC_skip ?_
            refine HQ_then ?_
            refine hK4 _ _ _ _ ?_; clear hK4 K4
            refine HC_seq fun K7 hK7 => ?_
            refine HC_block ?_
            refine HC_seq fun K8 hK8 => ?_
            obtain ⟨A, hA⟩ : ∃ A, A = permS a i := ⟨_, rfl⟩
            have hAk : SOk 25 A := by rw [hA]; exact hpk i
            obtain ⟨B, hB⟩ : ∃ B, B = rS (mixA A) turnsL 25 := ⟨_, rfl⟩
            have hBk : SOk 25 B := by rw [hB]; exact rS_ok _ (mixA_ok hAk) 25
            have hxk := xS_ok hBk hAk 25
            have hstep : (xS B A 25).set 0 ((xS B A 25).getD 0 0 ^^^ numsL.getD i 0) = permS a (i + 1) := by rw [xS_base B hAk.1 (mixA_ok hAk).1, hB, hA]; rfl
            refine HC_region ?_
            all_goals refine HL_r rfl rfl rfl rfl (R_loadArr (xs := (permS a i).map uV) (n := 25) rfl (known_L (k := 1) rfl) rfl rfl (by rw [List.length_map, (hpk i).1])) ?_; rw [← hA]
            all_goals refine HL_callP rfl rfl rfl (enters_of Tryd.func62 (by kernel_rfl) rfl) (P_ref3_mix hAk) ?_
            all_goals refine HL_callP rfl rfl rfl (enters_of Tryd.func61 (by kernel_rfl) rfl) (P_ref3_turn (mixA_ok hAk)) ?_
            all_goals refine HL_callP rfl rfl rfl (enters_of Tryd.func60 (by kernel_rfl) rfl) (P_ref3_move' (mixA_ok hAk)) ?_; rw [← hB]
            all_goals refine HL_alloc (cs := (z25.map uV).toArray) rfl rfl rfl rfl fun r3 => ?_
            all_goals refine HL_storeArr (k := 0) (n := 25) (ys := (B).map uV) rfl rfl rfl rfl rfl (by rw [List.length_map, hBk.1]) rfl (mapU_one _) rfl ?_
            all_goals refine HL_nil ?_
            all_goals (
              refine HQ_then ?_
              refine hK8 _ _ _ _ ?_; clear hK8 K8
              refine HC_seq fun K9 hK9 => ?_
              refine HC_seq fun K10 hK10 => ?_
              refine HC_region ?_
              all_goals refine HL_r rfl rfl rfl rfl (R_assign rfl) ?_
              all_goals refine HL_nil ?_
              all_goals (
                refine HQ_then ?_
                refine hK10 _ _ _ _ ?_; clear hK10 K10
                refine HC_block ?_
                refine HC_loop (σ := Nat) (fun j => j ≤ 25) (fun j => [(1, .pointer (some ⟨r1, 0, none⟩)), (2, .pointer (some ⟨r2, 0, none⟩)), (3, .int .i64 (i : Int)), (4, .pointer (some ⟨r3, 0, none⟩)), (5, .int .i64 (j : Int))]) (fun j => [(r3, lO B), (r2, lO z25), (r1, lO (xS B A j))]) (fun _ _ _ => True) (fun j => 25 - j) 0 (Nat.zero_le _) (.cons rfl (.cons rfl (.cons rfl (.cons rfl (.cons rfl .nil))))) (by rw [hA]; exact List.Sublist.refl _) (fun _ _ h => h) ?_
                intro j hj
                refine HC_seq fun K11 hK11 => ?_
                refine HC_seq fun K12 hK12 => ?_
                refine HC_region ?_
                all_goals refine HL_r rfl rfl rfl rfl (R_move rfl) ?_
                all_goals refine HL_r rfl rfl rfl rfl (R_pure rfl rfl rfl) ?_
                all_goals refine HL_nil ?_
                all_goals (
                  refine HQ_then ?_
                  refine hK12 _ _ _ _ ?_; clear hK12 K12
                  refine HC_cond rfl (fun h13 => ?_) (fun h13 => ?_)
                  · try exact Bool.noConfusion h13
                    all_goals try simp only [decide_eq_true_eq, decide_eq_false_iff_not, beq_iff_eq, beq_eq_false_iff_ne, bne_iff_ne, bne_eq_false_iff_eq, Bool.not_eq_true', Bool.not_eq_false', ne_eq, Int.not_lt, Int.not_le, ge_iff_le, gt_iff_lt] at h13
                    all_goals (
                      refine HC_skip ?_
                      refine HQ_then ?_
                      refine hK11 _ _ _ _ ?_; clear hK11 K11
                      refine HC_seq fun K14 hK14 => ?_
                      refine HC_block ?_
                      refine HC_seq fun K15 hK15 => ?_
                      refine HC_region ?_
                      all_goals refine HL_r rfl rfl rfl rfl (R_move rfl) ?_
                      all_goals refine HL_r rfl rfl rfl rfl (R_pure rfl rfl rfl) ?_; refine HL_as (show _ = Value.int .i64 ((j % 5 : Nat) : Int) from congrArg (Value.int .i64) (by rw [Int.tmod_eq_emod_of_nonneg (by omega)]; omega)) ?_
                      all_goals refine HL_r rfl rfl rfl rfl (R_assign rfl) ?_
                      all_goals refine HL_nil ?_
                      all_goals (
                        refine HQ_then ?_
                        refine hK15 _ _ _ _ ?_; clear hK15 K15
                        refine HC_seq fun K16 hK16 => ?_
                        refine HC_region ?_
                        all_goals refine HL_r rfl rfl rfl rfl (R_move rfl) ?_
                        all_goals refine HL_r rfl rfl rfl rfl (R_move rfl) ?_
                        all_goals refine HL_r rfl rfl rfl rfl (R_pure rfl rfl rfl) ?_; refine HL_as (show _ = Value.int .i64 ((j - j % 5 : Nat) : Int) from congrArg (Value.int .i64) (by rw [wrap_i64 (by omega) (by omega)]; omega)) ?_
                        all_goals refine HL_r rfl rfl rfl rfl (R_assign rfl) ?_
                        all_goals refine HL_nil ?_
                        all_goals (
                          refine HQ_then ?_
                          refine hK16 _ _ _ _ ?_; clear hK16 K16
                          refine HC_draw 22 (by kernel_rfl) (by kernel_rfl) ?_
                          all_goals refine HD_r rfl rfl rfl (R_move rfl) ?_
                          all_goals refine HD_r rfl rfl rfl (R_move rfl) ?_
                          all_goals refine HD_r rfl rfl rfl (R_indexA (j := j) (m := 1) (off' := j) rfl rfl rfl rfl (by omega) (by omega) (by omega)) ?_
                          all_goals refine HD_r rfl rfl rfl (R_loadAt rfl (known_L (k := 0) rfl) rfl (mapU_get (by rw [hBk.1]; omega))) ?_
                          all_goals refine HD_r rfl rfl rfl (R_move rfl) ?_
                          all_goals refine HD_r rfl rfl rfl (R_move rfl) ?_
                          all_goals refine HD_r rfl rfl rfl (R_pure rfl rfl rfl) ?_; refine HD_as (show _ = Value.int .i64 ((j % 5 + 1 : Nat) : Int) from congrArg (Value.int .i64) (by rw [wrap_i64 (by omega) (by omega)]; omega)) ?_
                          all_goals refine HD_r rfl rfl rfl (R_pure rfl rfl rfl) ?_; refine HD_as (show _ = Value.int .i64 (((j % 5 + 1) % 5 : Nat) : Int) from congrArg (Value.int .i64) (by rw [Int.tmod_eq_emod_of_nonneg (by omega)]; omega)) ?_
                          all_goals refine HD_r rfl rfl rfl (R_pure rfl rfl rfl) ?_; refine HD_as (show _ = Value.int .i64 ((j - j % 5 + (j % 5 + 1) % 5 : Nat) : Int) from congrArg (Value.int .i64) (by rw [wrap_i64 (by omega) (by omega)]; omega)) ?_
                          all_goals refine HD_r rfl rfl rfl (R_indexA (j := (j - j % 5 + (j % 5 + 1) % 5)) (m := 1) (off' := (j - j % 5 + (j % 5 + 1) % 5)) rfl rfl rfl rfl (by omega) (by omega) (by omega)) ?_
                          all_goals refine HD_r rfl rfl rfl (R_loadAt rfl (known_L (k := 0) rfl) rfl (mapU_get (by rw [hBk.1]; omega))) ?_
                          all_goals refine HD_r rfl rfl rfl (R_bits64 (op := .xor) (n := 18446744073709551615) (b := ((18446744073709551615 ^^^ B.getD (j - j % 5 + (j % 5 + 1) % 5) 0 : Nat) : Int)) rfl rfl rfl (hBk.get _) (by decide) (congrArg (fun z : Nat => (z : Int)) (Nat.xor_comm _ _))) ?_
                          all_goals refine HD_r rfl rfl rfl (R_move rfl) ?_
                          all_goals refine HD_r rfl rfl rfl (R_move rfl) ?_
                          all_goals refine HD_r rfl rfl rfl (R_pure rfl rfl rfl) ?_; refine HD_as (show _ = Value.int .i64 ((j % 5 + 2 : Nat) : Int) from congrArg (Value.int .i64) (by rw [wrap_i64 (by omega) (by omega)]; omega)) ?_
                          all_goals refine HD_r rfl rfl rfl (R_pure rfl rfl rfl) ?_; refine HD_as (show _ = Value.int .i64 (((j % 5 + 2) % 5 : Nat) : Int) from congrArg (Value.int .i64) (by rw [Int.tmod_eq_emod_of_nonneg (by omega)]; omega)) ?_
                          all_goals refine HD_r rfl rfl rfl (R_pure rfl rfl rfl) ?_; refine HD_as (show _ = Value.int .i64 ((j - j % 5 + (j % 5 + 2) % 5 : Nat) : Int) from congrArg (Value.int .i64) (by rw [wrap_i64 (by omega) (by omega)]; omega)) ?_
                          all_goals refine HD_r rfl rfl rfl (R_indexA (j := (j - j % 5 + (j % 5 + 2) % 5)) (m := 1) (off' := (j - j % 5 + (j % 5 + 2) % 5)) rfl rfl rfl rfl (by omega) (by omega) (by omega)) ?_
                          all_goals refine HD_r rfl rfl rfl (R_loadAt rfl (known_L (k := 0) rfl) rfl (mapU_get (by rw [hBk.1]; omega))) ?_
                          all_goals refine HD_r rfl rfl rfl (R_bits64 (op := .and) (b := (((18446744073709551615 ^^^ B.getD (j - j % 5 + (j % 5 + 1) % 5) 0) &&& B.getD (j - j % 5 + (j % 5 + 2) % 5) 0 : Nat) : Int)) rfl rfl rfl (xor_lt64 (by decide) (hBk.get _)) (hBk.get _) rfl) ?_
                          all_goals refine HD_r rfl rfl rfl (R_bits64 (op := .xor) (b := ((chiN B j : Nat) : Int)) rfl rfl rfl (hBk.get _) (and_lt64 (hBk.get _)) rfl) ?_
                          all_goals refine HD_r rfl rfl rfl (R_indexA (j := j) (m := 1) (off' := j) rfl rfl rfl rfl (by omega) (by omega) (by omega)) ?_
                          all_goals refine HD_end ?_
                          all_goals refine HL_storeAt (k := 2) (off := j) (xs := (xS B A j).map uV) (ys := (xS B A (j + 1)).map uV) rfl rfl rfl rfl rfl rfl (by rw [List.length_map, (xS_ok hBk hAk j).1]; omega) (set_mapU rfl) rfl ?_
                          all_goals refine HL_nil ?_
                          all_goals (
                            refine HQ_blockN ?_
                            refine HQ_then ?_
                            refine hK14 _ _ _ _ ?_; clear hK14 K14
                            refine HC_region ?_
                            all_goals refine HL_r rfl rfl rfl rfl (R_move rfl) ?_
                            all_goals first
                              | (refine HL_r rfl rfl rfl rfl (R_pure rfl rfl rfl) ?_; refine HL_wrap_i64 (by omega) (by omega) ?_)
                              | (refine HL_r rfl rfl rfl rfl (R_pure rfl rfl rfl) ?_)
                            all_goals refine HL_r rfl rfl rfl rfl (R_assign rfl) ?_
                            all_goals refine HL_nil ?_
                            all_goals (
                              refine HQ_then ?_
                              exact HQ_again (j + 1) (by omega) (by omega) (.cons rfl (.cons rfl (.cons rfl (.cons rfl (.cons rfl .nil))))) (List.Sublist.refl _) (fun _ _ h => h)
                              skip)
                            skip)
                          skip)
                        skip)
                      skip)
                  · try exact Bool.noConfusion h13
                    all_goals try simp only [decide_eq_true_eq, decide_eq_false_iff_not, beq_iff_eq, beq_eq_false_iff_ne, bne_iff_ne, bne_eq_false_iff_eq, Bool.not_eq_true', Bool.not_eq_false', ne_eq, Int.not_lt, Int.not_le, ge_iff_le, gt_iff_lt] at h13
                    all_goals (
                      refine HC_exit ?_
                      refine HQ_thenE ?_; clear hK11 K11
                      refine HQ_thenE ?_
                      refine HQ_blockE ?_
                      refine HQ_then ?_
                      refine hK9 _ _ _ _ ?_; clear hK9 K9
                      have hj25 : 25 = j := by omega
                      subst hj25
                      refine HC_draw 6 (by kernel_rfl) (by kernel_rfl) ?_
                      all_goals refine HD_r rfl rfl rfl (R_indexA (j := 0) rfl rfl rfl rfl rfl (by first | decide | omega) (by first | (simp only [Nat.zero_add, Nat.reduceAdd, Nat.reduceMul, Nat.zero_mul, Nat.mul_one, Nat.add_zero]; exact rfl) | exact rfl)) ?_
                      all_goals refine HD_r rfl rfl rfl (R_loadAt rfl (known_L (k := 2) rfl) rfl (mapU_get (by rw [hxk.1]; omega))) ?_
                      all_goals refine HD_r rfl rfl rfl (R_move rfl) ?_
                      all_goals refine HD_callP rfl rfl rfl (enters_of Tryd.func63 (by kernel_rfl) rfl) (P_ref3_number (n := i) (by omega)) ?_
                      all_goals refine HD_r rfl rfl rfl (R_bits64 (op := .xor) (b := (((xS B A 25).getD 0 0 ^^^ numsL.getD i 0 : Nat) : Int)) rfl rfl rfl (hxk.get _) (numsL_ok.get _) rfl) ?_
                      all_goals refine HD_r rfl rfl rfl (R_indexA (j := 0) rfl rfl rfl rfl rfl (by first | decide | omega) (by first | (simp only [Nat.zero_add, Nat.reduceAdd, Nat.reduceMul, Nat.zero_mul, Nat.mul_one, Nat.add_zero]; exact rfl) | exact rfl)) ?_
                      all_goals refine HD_end ?_
                      all_goals refine HL_storeAt (k := 2) (off := 0) (xs := (xS B A 25).map uV) (ys := (permS a (i + 1)).map uV) rfl rfl rfl rfl rfl rfl (by rw [List.length_map, hxk.1]; omega) (set_mapU hstep) rfl ?_
                      all_goals refine HL_nil ?_
                      all_goals (
                        refine HQ_blockN ?_
                        refine HQ_then ?_
                        refine hK7 _ _ _ _ ?_; clear hK7 K7
                        refine HC_region ?_
                        all_goals refine HL_r rfl rfl rfl rfl (R_move rfl) ?_
                        all_goals first
                          | (refine HL_r rfl rfl rfl rfl (R_pure rfl rfl rfl) ?_; refine HL_wrap_i64 (by omega) (by omega) ?_)
                          | (refine HL_r rfl rfl rfl rfl (R_pure rfl rfl rfl) ?_)
                        all_goals refine HL_r rfl rfl rfl rfl (R_assign rfl) ?_
                        all_goals refine HL_nil ?_
                        all_goals (
                          refine HQ_then ?_
                          refine HQ_sel [1, 2] (L' := [_, _]) (by decide) rfl ?_
                          exact HQ_again (i + 1) (by omega) (by omega) (.cons rfl (.cons rfl (.cons rfl .nil))) (List.Sublist.refl _) (fun _ _ h => h)
                          skip)
                        skip)
                      skip)
                  skip)
                skip)
              skip)
            skip)
        · try exact Bool.noConfusion h6
          all_goals try simp only [decide_eq_true_eq, decide_eq_false_iff_not, beq_iff_eq, beq_eq_false_iff_ne, bne_iff_ne, bne_eq_false_iff_eq, Bool.not_eq_true', Bool.not_eq_false', ne_eq, Int.not_lt, Int.not_le, ge_iff_le, gt_iff_lt] at h6
          all_goals (
            refine HC_exit ?_
            refine HQ_thenE ?_; clear hK4 K4
            refine HQ_thenE ?_
            refine HQ_blockE ?_
            refine HQ_then ?_
            refine hK2 _ _ _ _ ?_; clear hK2 K2
            refine HC_seq fun K17 hK17 => ?_
            have hi24 : 24 = i := by omega
            subst hi24
            refine HC_region ?_
            all_goals refine HL_r rfl rfl rfl rfl (R_loadArr (xs := (permS a 24).map uV) (n := 25) rfl (known_L (k := 1) rfl) rfl rfl (by rw [List.length_map, (hpk 24).1])) ?_
            all_goals refine HL_storeArr (k := 0) (n := 25) (ys := (permS a 24).map uV) rfl rfl rfl rfl rfl (by rw [List.length_map, (hpk 24).1]) rfl (mapU_one _) rfl ?_
            all_goals refine HL_nil ?_
            all_goals (
              refine HQ_then ?_
              refine hK17 _ _ _ _ ?_; clear hK17 K17
              refine HC_ret ?_
              refine HQ_post rfl rfl (.cons (res_cellA (vs := (permS a 24).map uV) rfl (known_L (k := 0) rfl) rfl (by rw [List.length_map, (hpk 24).1]; rfl)) .nil) (fun w1 hs1 => ?_)
              exact ⟨rfl, hs1.keep⟩
              skip)
            skip)
        skip)
      skip)
    skip)
end Go.Proofs.YthfinkklgbiaeaaDoor
