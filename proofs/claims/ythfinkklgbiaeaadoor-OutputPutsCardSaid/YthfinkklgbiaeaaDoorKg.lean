import Derived.Test.YthfinkklgbiaeaaDoorKf
namespace Go.Proofs.YthfinkklgbiaeaaDoor
set_option linter.all false
open Go.SL Go.RowKit Go.Shelf
def lO (a : List Nat) : Obj := .cells (a.map uV).toArray 59 (0, 0)
set_option maxRecDepth 10000 in
theorem P_ref3_mix {a : List Nat} (ha : SOk 25 a) : Pure Tryd.prog 62 [.agg (a.map uV).toArray].toArray (.agg ((mixA a).map uV).toArray) := by
  refine pure_of_HC Tryd.func62 rfl rfl fun w => ?_
  have hal := ha.1
  obtain ⟨cc, hcc⟩ : ∃ c, c = cS a 25 := ⟨_, rfl⟩
  have hc : SOk 5 cc := by rw [hcc]; exact cS_ok ha 25
  have hmx : mixA a = mS cc a 25 := by rw [hcc]; rfl
  have hck := fun i => cS_ok ha i
  have hmk := fun i => mS_ok hc ha i
  rw [hmx]
  refine HC_seq fun K1 hK1 => ?_
  refine HC_region ?_
  all_goals refine HL_box (cs := (a.map uV).toArray) rfl rfl rfl rfl fun r1 => ?_
  all_goals refine HL_alloc (cs := (z25.map uV).toArray) rfl rfl rfl rfl fun r2 => ?_
  all_goals refine HL_nil ?_
  all_goals (
    refine HQ_then ?_
    refine hK1 _ _ _ _ ?_; clear hK1 K1
    refine HC_seq fun K2 hK2 => ?_
    refine HC_region ?_
    all_goals refine HL_alloc (cs := ((cS a 0).map uV).toArray) rfl rfl rfl rfl fun r3 => ?_
    all_goals refine HL_nil ?_
    all_goals (
      refine HQ_then ?_
      refine hK2 _ _ _ _ ?_; clear hK2 K2
      refine HC_seq fun K3 hK3 => ?_
      refine HC_seq fun K4 hK4 => ?_
      refine HC_region ?_
      all_goals refine HL_r rfl rfl rfl rfl (R_assign rfl) ?_
      all_goals refine HL_nil ?_
      all_goals (
        refine HQ_then ?_
        refine hK4 _ _ _ _ ?_; clear hK4 K4
        refine HC_block ?_
        refine HC_loop (σ := Nat) (fun i => i ≤ 25) (fun i => [(1, .pointer (some ⟨r1, 0, none⟩)), (2, .pointer (some ⟨r2, 0, none⟩)), (3, .pointer (some ⟨r3, 0, none⟩)), (4, .int .i64 (i : Int))]) (fun i => [(r3, cO (cS a i)), (r2, lO z25), (r1, lO a)]) (fun _ _ _ => True) (fun i => 25 - i) 0 (Nat.zero_le _) (.cons rfl (.cons rfl (.cons rfl (.cons rfl .nil)))) (List.Sublist.refl _) (fun _ _ h => h) ?_
        intro i hi
        refine HC_seq fun K5 hK5 => ?_
        refine HC_seq fun K6 hK6 => ?_
        refine HC_region ?_
        all_goals refine HL_r rfl rfl rfl rfl (R_move rfl) ?_
        all_goals refine HL_r rfl rfl rfl rfl (R_pure rfl rfl rfl) ?_
        all_goals refine HL_nil ?_
        all_goals (
          refine HQ_then ?_
          refine hK6 _ _ _ _ ?_; clear hK6 K6
          refine HC_cond rfl (fun h7 => ?_) (fun h7 => ?_)
          · try exact Bool.noConfusion h7
            all_goals try simp only [decide_eq_true_eq, decide_eq_false_iff_not, beq_iff_eq, beq_eq_false_iff_ne, bne_iff_ne, bne_eq_false_iff_eq, Bool.not_eq_true', Bool.not_eq_false', ne_eq, Int.not_lt, Int.not_le, ge_iff_le, gt_iff_lt] at h7
            all_goals (
              refine HC_skip ?_
              refine HQ_then ?_
              refine hK5 _ _ _ _ ?_; clear hK5 K5
              refine HC_seq fun K8 hK8 => ?_
              refine HC_block ?_
              refine HC_draw 11 (by kernel_rfl) (by kernel_rfl) ?_
              all_goals refine HD_r rfl rfl rfl (R_move rfl) ?_
              all_goals refine HD_r rfl rfl rfl (R_pure rfl rfl rfl) ?_; refine HD_as (show _ = Value.int .i64 ((i % 5 : Nat) : Int) from congrArg (Value.int .i64) (by rw [Int.tmod_eq_emod_of_nonneg (by omega)]; omega)) ?_
              all_goals refine HD_r rfl rfl rfl (R_move rfl) ?_
              all_goals refine HD_r rfl rfl rfl (R_pure rfl rfl rfl) ?_; refine HD_as (show _ = Value.int .i64 ((i % 5 : Nat) : Int) from congrArg (Value.int .i64) (by rw [Int.tmod_eq_emod_of_nonneg (by omega)]; omega)) ?_
              all_goals refine HD_r rfl rfl rfl (R_indexA (j := i % 5) (m := 1) (off' := i % 5) rfl rfl rfl rfl (by omega) (by omega) (by omega)) ?_
              all_goals refine HD_r rfl rfl rfl (R_loadAt rfl (known_L (k := 0) rfl) rfl (mapU_get (by rw [(hck i).1]; omega))) ?_
              all_goals refine HD_r rfl rfl rfl (R_move rfl) ?_
              all_goals refine HD_r rfl rfl rfl (R_indexA (j := i) (m := 1) (off' := i) rfl rfl rfl rfl (by omega) (by omega) (by omega)) ?_
              all_goals refine HD_r rfl rfl rfl (R_loadAt rfl (known_L (k := 2) rfl) rfl (mapU_get (by rw [hal]; omega))) ?_
              all_goals refine HD_r rfl rfl rfl (R_bits64 (op := .xor) (b := (((cS a i).getD (i % 5) 0 ^^^ a.getD i 0 : Nat) : Int)) rfl rfl rfl ((hck i).get _) (ha.get _) rfl) ?_
              all_goals refine HD_r rfl rfl rfl (R_indexA (j := i % 5) (m := 1) (off' := i % 5) rfl rfl rfl rfl (by omega) (by omega) (by omega)) ?_
              all_goals refine HD_end ?_
              all_goals refine HL_storeAt (k := 0) (off := i % 5) (xs := (cS a i).map uV) (ys := (cS a (i + 1)).map uV) rfl rfl rfl rfl rfl rfl (by rw [List.length_map, (hck i).1]; omega) (set_mapU rfl) rfl ?_
              all_goals refine HL_nil ?_
              all_goals (
                refine HQ_blockN ?_
                refine HQ_then ?_
                refine hK8 _ _ _ _ ?_; clear hK8 K8
                refine HC_region ?_
                all_goals refine HL_r rfl rfl rfl rfl (R_move rfl) ?_
                all_goals first
                  | (refine HL_r rfl rfl rfl rfl (R_pure rfl rfl rfl) ?_; refine HL_wrap_i64 (by omega) (by omega) ?_)
                  | (refine HL_r rfl rfl rfl rfl (R_pure rfl rfl rfl) ?_)
                all_goals refine HL_r rfl rfl rfl rfl (R_assign rfl) ?_
                all_goals refine HL_nil ?_
                all_goals (
                  refine HQ_then ?_
                  exact HQ_again (i + 1) (by omega) (by omega) (.cons rfl (.cons rfl (.cons rfl (.cons rfl .nil)))) (List.Sublist.refl _) (fun _ _ h => h)
                  skip)
                skip)
              skip)
          · try exact Bool.noConfusion h7
            all_goals try simp only [decide_eq_true_eq, decide_eq_false_iff_not, beq_iff_eq, beq_eq_false_iff_ne, bne_iff_ne, bne_eq_false_iff_eq, Bool.not_eq_true', Bool.not_eq_false', ne_eq, Int.not_lt, Int.not_le, ge_iff_le, gt_iff_lt] at h7
            all_goals (
              refine HC_exit ?_
              refine HQ_thenE ?_; clear hK5 K5
              refine HQ_thenE ?_
              refine HQ_blockE ?_
              refine HQ_then ?_
              refine hK3 _ _ _ _ ?_; clear hK3 K3
              refine HC_seq fun K9 hK9 => ?_
              refine HC_seq fun K10 hK10 => ?_
              have hi25 : 25 = i := by omega
              subst hi25
              rw [← hcc]
              refine HC_region ?_
              all_goals refine HL_r rfl rfl rfl rfl (R_assign rfl) ?_
              all_goals refine HL_nil ?_
              all_goals (
                refine HQ_then ?_
                refine hK10 _ _ _ _ ?_; clear hK10 K10
                refine HC_block ?_
                refine HC_loop (σ := Nat) (fun i => i ≤ 25) (fun i => [(1, .pointer (some ⟨r1, 0, none⟩)), (2, .pointer (some ⟨r2, 0, none⟩)), (3, .pointer (some ⟨r3, 0, none⟩)), (5, .int .i64 (i : Int))]) (fun i => [(r3, cO cc), (r2, lO z25), (r1, lO (mS cc a i))]) (fun _ _ _ => True) (fun i => 25 - i) 0 (Nat.zero_le _) (.cons rfl (.cons rfl (.cons rfl (.cons rfl .nil)))) (List.Sublist.refl _) (fun _ _ h => h) ?_
                intro i hi
                refine HC_seq fun K11 hK11 => ?_
                refine HC_seq fun K12 hK12 => ?_
                refine HC_region ?_
                all_goals refine HL_r rfl rfl rfl rfl (R_move rfl) ?_
                all_goals refine HL_r rfl rfl rfl rfl (R_pure rfl rfl rfl) ?_
                all_goals refine HL_nil ?_
                all_goals (
                  refine HQ_then ?_
                  refine hK12 _ _ _ _ ?_; clear hK12 K12
                  refine HC_cond rfl (fun h13 => ?_) (fun h13 => ?_)
                  · try exact Bool.noConfusion h13
                    all_goals try simp only [decide_eq_true_eq, decide_eq_false_iff_not, beq_iff_eq, beq_eq_false_iff_ne, bne_iff_ne, bne_eq_false_iff_eq, Bool.not_eq_true', Bool.not_eq_false', ne_eq, Int.not_lt, Int.not_le, ge_iff_le, gt_iff_lt] at h13
                    all_goals (
                      refine HC_skip ?_
                      refine HQ_then ?_
                      refine hK11 _ _ _ _ ?_; clear hK11 K11
                      refine HC_seq fun K14 hK14 => ?_
                      refine HC_block ?_
                      refine HC_seq fun K15 hK15 => ?_
                      refine HC_region ?_
                      all_goals refine HL_r rfl rfl rfl rfl (R_move rfl) ?_
                      all_goals refine HL_r rfl rfl rfl rfl (R_pure rfl rfl rfl) ?_; refine HL_as (show _ = Value.int .i64 ((i % 5 : Nat) : Int) from congrArg (Value.int .i64) (by rw [Int.tmod_eq_emod_of_nonneg (by omega)]; omega)) ?_
                      all_goals refine HL_r rfl rfl rfl rfl (R_assign rfl) ?_
                      all_goals refine HL_nil ?_
                      all_goals (
                        refine HQ_then ?_
                        refine hK15 _ _ _ _ ?_; clear hK15 K15
                        refine HC_draw 18 (by kernel_rfl) (by kernel_rfl) ?_
                        all_goals refine HD_r rfl rfl rfl (R_move rfl) ?_
                        all_goals refine HD_r rfl rfl rfl (R_move rfl) ?_
                        all_goals refine HD_r rfl rfl rfl (R_indexA (j := i) (m := 1) (off' := i) rfl rfl rfl rfl (by omega) (by omega) (by omega)) ?_
                        all_goals refine HD_r rfl rfl rfl (R_loadAt rfl (known_L (k := 2) rfl) rfl (mapU_get (by rw [(hmk i).1]; omega))) ?_
                        all_goals refine HD_r rfl rfl rfl (R_move rfl) ?_
                        all_goals refine HD_r rfl rfl rfl (R_pure rfl rfl rfl) ?_; refine HD_as (show _ = Value.int .i64 ((i % 5 + 5 - 1 : Nat) : Int) from congrArg (Value.int .i64) (by rw [wrap_i64 (by omega) (by omega)]; omega)) ?_
                        all_goals refine HD_r rfl rfl rfl (R_pure rfl rfl rfl) ?_; refine HD_as (show _ = Value.int .i64 (((i % 5 + 5 - 1) % 5 : Nat) : Int) from congrArg (Value.int .i64) (by rw [Int.tmod_eq_emod_of_nonneg (by omega)]; omega)) ?_
                        all_goals refine HD_r rfl rfl rfl (R_indexA (j := (i % 5 + 5 - 1) % 5) (m := 1) (off' := (i % 5 + 5 - 1) % 5) rfl rfl rfl rfl (by omega) (by omega) (by omega)) ?_
                        all_goals refine HD_r rfl rfl rfl (R_loadAt rfl (known_L (k := 0) rfl) rfl (mapU_get (by rw [hc.1]; omega))) ?_
                        all_goals refine HD_r rfl rfl rfl (R_bits64 (op := .xor) (b := (((mS cc a i).getD i 0 ^^^ cc.getD ((i % 5 + 5 - 1) % 5) 0 : Nat) : Int)) rfl rfl rfl ((hmk i).get _) (hc.get _) rfl) ?_
                        all_goals refine HD_r rfl rfl rfl (R_move rfl) ?_
                        all_goals refine HD_r rfl rfl rfl (R_pure rfl rfl rfl) ?_; refine HD_as (show _ = Value.int .i64 ((i % 5 + 1 : Nat) : Int) from congrArg (Value.int .i64) (by rw [wrap_i64 (by omega) (by omega)]; omega)) ?_
                        all_goals refine HD_r rfl rfl rfl (R_pure rfl rfl rfl) ?_; refine HD_as (show _ = Value.int .i64 (((i % 5 + 1) % 5 : Nat) : Int) from congrArg (Value.int .i64) (by rw [Int.tmod_eq_emod_of_nonneg (by omega)]; omega)) ?_
                        all_goals refine HD_r rfl rfl rfl (R_indexA (j := (i % 5 + 1) % 5) (m := 1) (off' := (i % 5 + 1) % 5) rfl rfl rfl rfl (by omega) (by omega) (by omega)) ?_
                        all_goals refine HD_r rfl rfl rfl (R_loadAt rfl (known_L (k := 0) rfl) rfl (mapU_get (by rw [hc.1]; omega))) ?_
                        all_goals refine HD_callP rfl rfl rfl (enters_of Tryd.func77 (by kernel_rfl) rfl) (P_ref3_rot (k := 1) (hc.get _) (by decide)) ?_
                        all_goals refine HD_r rfl rfl rfl (R_bits64 (op := .xor) (b := (((mS cc a i).getD i 0 ^^^ (cc.getD ((i % 5 + 5 - 1) % 5) 0 ^^^ rotN (cc.getD ((i % 5 + 1) % 5) 0) 1) : Nat) : Int)) rfl rfl rfl (xor_lt64 ((hmk i).get _) (hc.get _)) (rotN_lt (hc.get _) 1) (congrArg (fun z : Nat => (z : Int)) (Nat.xor_assoc _ _ _))) ?_
                        all_goals refine HD_r rfl rfl rfl (R_indexA (j := i) (m := 1) (off' := i) rfl rfl rfl rfl (by omega) (by omega) (by omega)) ?_
                        all_goals refine HD_end ?_
                        all_goals refine HL_storeAt (k := 2) (off := i) (xs := (mS cc a i).map uV) (ys := (mS cc a (i + 1)).map uV) rfl rfl rfl rfl rfl rfl (by rw [List.length_map, (hmk i).1]; omega) (set_mapU rfl) rfl ?_
                        all_goals refine HL_nil ?_
                        all_goals (
                          refine HQ_blockN ?_
                          refine HQ_then ?_
                          refine hK14 _ _ _ _ ?_; clear hK14 K14
                          refine HC_region ?_
                          all_goals refine HL_r rfl rfl rfl rfl (R_move rfl) ?_
                          all_goals first
                            | (refine HL_r rfl rfl rfl rfl (R_pure rfl rfl rfl) ?_; refine HL_wrap_i64 (by omega) (by omega) ?_)
                            | (refine HL_r rfl rfl rfl rfl (R_pure rfl rfl rfl) ?_)
                          all_goals refine HL_r rfl rfl rfl rfl (R_assign rfl) ?_
                          all_goals refine HL_nil ?_
                          all_goals (
                            refine HQ_then ?_
                            exact HQ_again (i + 1) (by omega) (by omega) (.cons rfl (.cons rfl (.cons rfl (.cons rfl .nil)))) (List.Sublist.refl _) (fun _ _ h => h)
                            skip)
                          skip)
                        skip)
                      skip)
                  · try exact Bool.noConfusion h13
                    all_goals try simp only [decide_eq_true_eq, decide_eq_false_iff_not, beq_iff_eq, beq_eq_false_iff_ne, bne_iff_ne, bne_eq_false_iff_eq, Bool.not_eq_true', Bool.not_eq_false', ne_eq, Int.not_lt, Int.not_le, ge_iff_le, gt_iff_lt] at h13
                    all_goals (
                      refine HC_exit ?_
                      refine HQ_thenE ?_; clear hK11 K11
                      refine HQ_thenE ?_
                      refine HQ_blockE ?_
                      refine HQ_then ?_
                      refine hK9 _ _ _ _ ?_; clear hK9 K9
                      refine HC_seq fun K16 hK16 => ?_
                      have hi25 : 25 = i := by omega
                      subst hi25
                      refine HC_region ?_
                      all_goals refine HL_r rfl rfl rfl rfl (R_loadArr (xs := (mS cc a 25).map uV) (n := 25) rfl (known_L (k := 2) rfl) rfl rfl (by rw [List.length_map, (hmk 25).1])) ?_
                      all_goals refine HL_storeArr (k := 1) (n := 25) (ys := (mS cc a 25).map uV) rfl rfl rfl rfl rfl (by rw [List.length_map, (hmk 25).1]) rfl (mapU_one _) rfl ?_
                      all_goals refine HL_nil ?_
                      all_goals (
                        refine HQ_then ?_
                        refine hK16 _ _ _ _ ?_; clear hK16 K16
                        refine HC_ret ?_
                        refine HQ_post rfl rfl (.cons (res_cellA (vs := (mS cc a 25).map uV) rfl (known_L (k := 1) rfl) rfl (by rw [List.length_map, (hmk 25).1]; rfl)) .nil) (fun w1 hs1 => ?_)
                        exact ⟨rfl, hs1.keep⟩
                        skip)
                      skip)
                  skip)
                skip)
              skip)
          skip)
        skip)
      skip)
    skip)
end Go.Proofs.YthfinkklgbiaeaaDoor
