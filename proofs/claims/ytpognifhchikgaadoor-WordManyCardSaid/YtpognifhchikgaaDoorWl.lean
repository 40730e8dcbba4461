import Derived.Test.YtpognifhchikgaaDoorWk
namespace Go.Proofs.YtpognifhchikgaaDoor
set_option linter.all false
open Go.SL Go.RowKit Go.Shelf
theorem k_a : addR [258, 0, 0, 0] [18446744073709551615, 0, 0, 0] = ([257, 1, 0, 0], 0) := by decide +kernel
theorem k_b : subR [257, 1, 0, 0] [258, 0, 0, 0] = ([18446744073709551615, 0, 0, 0], 0) := by decide +kernel
theorem k_c : parseR [1, 2] = ([258, 0, 0, 0], 0) := by decide +kernel
theorem k_d : parseR [0, 2] = (zW, 8) := by decide +kernel
theorem k_e : subR [1, 0, 0, 0] [258, 0, 0, 0] = (zW, 6) := by decide +kernel
theorem k_f : smallV [18446744073709551615, 0, 0, 0] = .tuple #[.int .u64 18446744073709551615, .bool true] := rfl
theorem k_g : smallV [257, 1, 0, 0] = .tuple #[.int .u64 0, .bool false] := rfl
theorem k_h : bytesW [258, 0, 0, 0] = [1, 2] := by decide +kernel
theorem k_i : bytesW [0, 0, 0, 0] = [] := by decide +kernel
theorem k_j : lessB [1, 0, 0, 0] [258, 0, 0, 0] = true := by decide +kernel
theorem k_k : lessB [258, 0, 0, 0] [258, 0, 0, 0] = false := by decide +kernel
theorem wok4 {a b c d : Nat} (h : a < 18446744073709551616 ∧ b < 18446744073709551616 ∧ c < 18446744073709551616 ∧ d < 18446744073709551616) : WOk [a, b, c, d] :=
  ⟨rfl, fun x hx => by simp at hx; rcases hx with rfl | rfl | rfl | rfl <;> simp_all⟩
theorem bool_eq' {a b : Bool} (h : a = b) : Value.bool a = Value.bool b := by rw [h]
set_option maxRecDepth 10000 in
theorem P_works : Pure Tryd.prog 10 [].toArray (.bool true) := by
  refine pure_of_HC Tryd.func10 rfl rfl fun w => ?_
  have hw : WOk [258, 0, 0, 0] := wok4 (by decide)
  have ha : WOk [257, 1, 0, 0] := wok4 (by decide)
  have hb : WOk [18446744073709551615, 0, 0, 0] := wok4 (by decide)
  have h1 : WOk [1, 0, 0, 0] := wok4 (by decide)
  have h0 : WOk [0, 0, 0, 0] := wok4 (by decide)
  refine HC_seq fun K1 hK1 => ?_
  refine HC_region ?_
  all_goals refine HL_r rfl rfl rfl rfl (R_assign rfl) ?_
  all_goals refine HL_nil ?_
  all_goals (
    refine HQ_then ?_
    refine hK1 _ _ _ _ ?_; clear hK1 K1
    refine HC_seq fun K2 hK2 => ?_
    refine HC_region ?_
    all_goals refine HL_callP rfl rfl rfl (enters_of Tryd.func19 (by kernel_rfl) rfl) (P_word_Of 258) ?_
    all_goals refine HL_alloc (cs := #[_, _, _, _]) rfl rfl rfl rfl fun r1 => ?_
    all_goals refine HL_storeArr (k := 0) (n := 4) (ys := ([258, 0, 0, 0] : List Nat).map uV) rfl rfl rfl rfl rfl rfl rfl rfl rfl ?_
    all_goals refine HL_nil ?_
    all_goals (
      refine HQ_then ?_
      refine hK2 _ _ _ _ ?_; clear hK2 K2
      refine HC_seq fun K3 hK3 => ?_
      refine HC_drawA [(1, .pure), (2, .pure), (3, .pure), (4, .pure), (5, .pure), (6, .act (aeNew ptrV (.cells #[.int .u64 0, .int .u64 0, .int .u64 0, .int .u64 0] 24 (0, 0)))), (7, .act (aePut 0 (.cells (([257, 1, 0, 0] : List Nat).map uV).toArray 24 (0, 0)))), (8, .pure)] 9 (by kernel_rfl) (by kernel_rfl) ?_
      all_goals refine HA_r rfl rfl rfl rfl (R_loadArr (xs := ([258, 0, 0, 0] : List Nat).map uV) (n := 4) rfl (known_L (k := 0) rfl) rfl rfl rfl) ?_
      all_goals refine HA_callP rfl rfl rfl rfl (enters_of Tryd.func19 (by kernel_rfl) rfl) (P_word_Of 18446744073709551615) ?_
      all_goals refine HA_callP rfl rfl rfl rfl (enters_of Tryd.func11 (by kernel_rfl) rfl) (P_word_Add hw hb) ?_; refine HA_as (congrArg resW k_a) ?_
      all_goals refine HA_p rfl rfl rfl rfl (fun _ => (R_move rfl)) ?_
      all_goals refine HA_p rfl rfl rfl rfl (fun _ => (R_extract rfl rfl)) ?_
      all_goals refine HA_p rfl rfl rfl rfl (fun _ => (R_extract rfl rfl)) ?_
      all_goals refine HA_alloc (cs := #[_, _, _, _]) rfl rfl rfl rfl rfl fun r2 => ?_
      all_goals refine HA_storeArr (q := 0) (n := 4) (ys := ([257, 1, 0, 0] : List Nat).map uV) rfl rfl rfl rfl rfl rfl rfl rfl rfl rfl rfl ?_
      all_goals refine HA_p rfl rfl rfl rfl (fun _ => (R_assign rfl)) ?_
      all_goals refine HA_end ?_
      all_goals refine HL_nil ?_
      all_goals (
        refine HQ_then ?_
        refine hK3 _ _ _ _ ?_; clear hK3 K3
        refine HC_seq fun K4 hK4 => ?_
        refine HC_region ?_
        all_goals refine HL_r rfl rfl rfl rfl (R_loadArr (xs := ([257, 1, 0, 0] : List Nat).map uV) (n := 4) rfl (known_L (k := 0) rfl) rfl rfl rfl) ?_
        all_goals refine HL_r rfl rfl rfl rfl (R_loadArr (xs := ([258, 0, 0, 0] : List Nat).map uV) (n := 4) rfl (known_L (k := 1) rfl) rfl rfl rfl) ?_
        all_goals refine HL_callP rfl rfl rfl (enters_of Tryd.func13 (by kernel_rfl) rfl) (P_word_Sub ha hw) ?_; refine HL_as (congrArg resW k_b) ?_
        all_goals refine HL_r rfl rfl rfl rfl (R_move rfl) ?_
        all_goals refine HL_r rfl rfl rfl rfl (R_extract rfl rfl) ?_
        all_goals refine HL_r rfl rfl rfl rfl (R_extract rfl rfl) ?_
        all_goals refine HL_alloc (cs := #[_, _, _, _]) rfl rfl rfl rfl fun r3 => ?_
        all_goals refine HL_storeArr (k := 0) (n := 4) (ys := ([18446744073709551615, 0, 0, 0] : List Nat).map uV) rfl rfl rfl rfl rfl rfl rfl rfl rfl ?_
        all_goals refine HL_r rfl rfl rfl rfl (R_assign rfl) ?_
        all_goals refine HL_nil ?_
        all_goals (
          refine HQ_then ?_
          refine hK4 _ _ _ _ ?_; clear hK4 K4
          refine HC_seq fun K5 hK5 => ?_
          refine HC_region ?_
          all_goals refine HL_buildSlice (vs := [_, _]) (zs := [_, _]) (r := [_, _]) rfl rfl rfl rfl rfl rfl rfl rfl rfl (by show (madeCells #[_] _).toList = _; rw [made_one]; exact rfl) rfl fun r4 => ?_
          all_goals refine HL_r rfl rfl rfl rfl (R_bytesStr (b := [1, 2]) (row := some (r4, 2, [])) (e := 5) rfl ⟨by simp, by simp⟩ (fun p hp => .inl (by rw [List.mem_singleton.1 hp]; simp [bV])) rfl rfl rfl) ?_
          all_goals refine HL_callP rfl rfl rfl (enters_of Tryd.func22 (by kernel_rfl) rfl) (P_word_Parse [1, 2]) ?_; refine HL_as (congrArg resW k_c) ?_
          all_goals refine HL_r rfl rfl rfl rfl (R_move rfl) ?_
          all_goals refine HL_r rfl rfl rfl rfl (R_extract rfl rfl) ?_
          all_goals refine HL_r rfl rfl rfl rfl (R_extract rfl rfl) ?_
          all_goals refine HL_alloc (cs := #[_, _, _, _]) rfl rfl rfl rfl fun r5 => ?_
          all_goals refine HL_storeArr (k := 0) (n := 4) (ys := ([258, 0, 0, 0] : List Nat).map uV) rfl rfl rfl rfl rfl rfl rfl rfl rfl ?_
          all_goals refine HL_r rfl rfl rfl rfl (R_assign rfl) ?_
          all_goals refine HL_nil ?_
          all_goals (
            refine HQ_then ?_
            refine hK5 _ _ _ _ ?_; clear hK5 K5
            refine HC_seq fun K6 hK6 => ?_
            refine HC_region ?_
            all_goals refine HL_buildSlice (vs := [_, _]) (zs := [_, _]) (r := [_, _]) rfl rfl rfl rfl rfl rfl rfl rfl rfl (by show (madeCells #[_] _).toList = _; rw [made_one]; exact rfl) rfl fun r6 => ?_
            all_goals refine HL_r rfl rfl rfl rfl (R_bytesStr (b := [0, 2]) (row := some (r6, 2, [])) (e := 5) rfl ⟨by simp, by simp⟩ (fun p hp => .inl (by rw [List.mem_singleton.1 hp]; simp [bV])) rfl rfl rfl) ?_
            all_goals refine HL_callP rfl rfl rfl (enters_of Tryd.func22 (by kernel_rfl) rfl) (P_word_Parse [0, 2]) ?_; refine HL_as (congrArg resW k_d) ?_
            all_goals refine HL_r rfl rfl rfl rfl (R_move rfl) ?_
            all_goals refine HL_r rfl rfl rfl rfl (R_extract rfl rfl) ?_
            all_goals refine HL_r rfl rfl rfl rfl (R_extract rfl rfl) ?_
            all_goals refine HL_alloc (cs := #[_, _, _, _]) rfl rfl rfl rfl fun r7 => ?_
            all_goals refine HL_storeArr (k := 0) (n := 4) (ys := (zW : List Nat).map uV) rfl rfl rfl rfl rfl rfl rfl rfl rfl ?_
            all_goals refine HL_r rfl rfl rfl rfl (R_assign rfl) ?_
            all_goals refine HL_nil ?_
            all_goals (
              refine HQ_then ?_
              refine hK6 _ _ _ _ ?_; clear hK6 K6
              refine HC_seq fun K7 hK7 => ?_
              refine HC_drawA [(0, .pure), (2, .pure), (3, .pure), (4, .pure), (5, .pure), (6, .act (aeNew ptrV (.cells #[.int .u64 0, .int .u64 0, .int .u64 0, .int .u64 0] 24 (0, 0)))), (7, .act (aePut 0 (.cells ((zW : List Nat).map uV).toArray 24 (0, 0)))), (8, .pure)] 9 (by kernel_rfl) (by kernel_rfl) ?_
              all_goals refine HA_callP rfl rfl rfl rfl (enters_of Tryd.func19 (by kernel_rfl) rfl) (P_word_Of 1) ?_
              all_goals refine HA_r rfl rfl rfl rfl (R_loadArr (xs := ([258, 0, 0, 0] : List Nat).map uV) (n := 4) rfl (known_L (k := 6) rfl) rfl rfl rfl) ?_
              all_goals refine HA_callP rfl rfl rfl rfl (enters_of Tryd.func13 (by kernel_rfl) rfl) (P_word_Sub h1 hw) ?_; refine HA_as (congrArg resW k_e) ?_
              all_goals refine HA_p rfl rfl rfl rfl (fun _ => (R_move rfl)) ?_
              all_goals refine HA_p rfl rfl rfl rfl (fun _ => (R_extract rfl rfl)) ?_
              all_goals refine HA_p rfl rfl rfl rfl (fun _ => (R_extract rfl rfl)) ?_
              all_goals refine HA_alloc (cs := #[_, _, _, _]) rfl rfl rfl rfl rfl fun r8 => ?_
              all_goals refine HA_storeArr (q := 0) (n := 4) (ys := (zW : List Nat).map uV) rfl rfl rfl rfl rfl rfl rfl rfl rfl rfl rfl ?_
              all_goals refine HA_p rfl rfl rfl rfl (fun _ => (R_assign rfl)) ?_
              all_goals refine HA_end ?_
              all_goals refine HL_nil ?_
              all_goals (
                refine HQ_then ?_
                refine hK7 _ _ _ _ ?_; clear hK7 K7
                refine HC_seq fun K8 hK8 => ?_
                refine HC_region ?_
                all_goals refine HL_r rfl rfl rfl rfl (R_loadArr (xs := ([18446744073709551615, 0, 0, 0] : List Nat).map uV) (n := 4) rfl (known_L (k := 5) rfl) rfl rfl rfl) ?_
                all_goals refine HL_callP rfl rfl rfl (enters_of Tryd.func16 (by kernel_rfl) rfl) (P_word_Small hb) ?_; refine HL_as (k_f) ?_
                all_goals refine HL_r rfl rfl rfl rfl (R_move rfl) ?_
                all_goals refine HL_r rfl rfl rfl rfl (R_extract rfl rfl) ?_
                all_goals refine HL_r rfl rfl rfl rfl (R_extract rfl rfl) ?_
                all_goals refine HL_r rfl rfl rfl rfl (R_assign rfl) ?_
                all_goals refine HL_r rfl rfl rfl rfl (R_assign rfl) ?_
                all_goals refine HL_nil ?_
                all_goals (
                  refine HQ_then ?_
                  refine hK8 _ _ _ _ ?_; clear hK8 K8
                  refine HC_seq fun K9 hK9 => ?_
                  refine HC_region ?_
                  all_goals refine HL_r rfl rfl rfl rfl (R_loadArr (xs := ([257, 1, 0, 0] : List Nat).map uV) (n := 4) rfl (known_L (k := 6) rfl) rfl rfl rfl) ?_
                  all_goals refine HL_callP rfl rfl rfl (enters_of Tryd.func16 (by kernel_rfl) rfl) (P_word_Small ha) ?_; refine HL_as (k_g) ?_
                  all_goals refine HL_r rfl rfl rfl rfl (R_move rfl) ?_
                  all_goals refine HL_r rfl rfl rfl rfl (R_extract rfl rfl) ?_
                  all_goals refine HL_r rfl rfl rfl rfl (R_extract rfl rfl) ?_
                  all_goals refine HL_r rfl rfl rfl rfl (R_assign rfl) ?_
                  all_goals refine HL_r rfl rfl rfl rfl (R_assign rfl) ?_
                  all_goals refine HL_nil ?_
                  all_goals (
                    refine HQ_then ?_
                    refine hK9 _ _ _ _ ?_; clear hK9 K9
                    refine HC_seq fun K10 hK10 => ?_
                    refine HC_drawA [(1, .pure), (2, .act (aeNew (slV 2) (.cells #[.int .u8 1, .int .u8 2] 5 (0, 0)))), (4, .pure), (5, .pure), (6, .pure), (7, .pure), (8, .pure), (9, .pure), (10, .pure), (11, .pure), (12, .pure), (13, .pure), (14, .pure), (16, .pure), (17, .pure), (18, .pure), (19, .pure), (20, .pure), (21, .pure), (22, .pure), (23, .pure), (24, .pure), (25, .pure), (26, .pure), (27, .pure), (28, .pure), (29, .pure), (30, .pure), (31, .pure), (32, .pure), (33, .pure), (34, .pure), (37, .pure), (38, .pure), (39, .pure), (40, .pure), (41, .pure), (42, .pure), (43, .pure), (44, .pure), (45, .pure), (46, .pure), (47, .pure), (48, .pure), (49, .pure), (50, .pure), (51, .pure), (53, .pure), (54, .pure), (55, .pure), (56, .pure), (57, .pure), (58, .pure), (60, .pure), (61, .pure), (62, .pure), (65, .pure), (66, .pure), (67, .pure), (68, .pure)] 69 (by kernel_rfl) (by kernel_rfl) ?_
                    all_goals refine HA_r rfl rfl rfl rfl (R_loadArr (xs := ([258, 0, 0, 0] : List Nat).map uV) (n := 4) rfl (known_L (k := 7) rfl) rfl rfl rfl) ?_
                    all_goals refine HA_callP rfl rfl rfl rfl (enters_of Tryd.func27 (by kernel_rfl) rfl) (P_word_Bytes hw) ?_; refine HA_as (congrArg (fun z => Value.string (bs z)) k_h) ?_
                    all_goals refine HA_buildSlice (vs := [_, _]) (zs := [_, _]) (r := [_, _]) rfl rfl rfl rfl rfl rfl rfl rfl rfl rfl (by show (madeCells #[_] _).toList = _; rw [made_one]; exact rfl) rfl fun r9 => ?_
                    all_goals refine HA_r rfl rfl rfl rfl (R_bytesStr (b := [1, 2]) (row := some (r9, 2, [])) (e := 5) rfl ⟨by simp, by simp⟩ (fun p hp => .inl (by rw [List.mem_singleton.1 hp]; simp [bV])) rfl rfl rfl) ?_
                    all_goals refine HA_p rfl rfl rfl rfl (fun _ => (R_strEq rfl rfl)) ?_
                    all_goals refine HA_as (show _ = Value.bool true from by first | rfl | decide) ?_
                    all_goals refine HA_p rfl rfl rfl rfl (fun _ => (R_move rfl)) ?_
                    all_goals refine HA_callP rfl rfl rfl rfl (enters_of Tryd.func19 (by kernel_rfl) rfl) (P_word_Of 0) ?_
                    all_goals refine HA_callP rfl rfl rfl rfl (enters_of Tryd.func27 (by kernel_rfl) rfl) (P_word_Bytes h0) ?_; refine HA_as (congrArg (fun z => Value.string (bs z)) k_i) ?_
                    all_goals first
                      | (refine HA_p rfl rfl rfl rfl (fun _ => (R_strEq rfl rfl)) ?_)
                      | (refine HA_skip rfl rfl rfl ?_)
                      | (refine HA_case 62 rfl (fun hb11 => ?_) (fun hb11 => ?_) <;> (try simp only [decide_eq_true_eq, decide_eq_false_iff_not, beq_iff_eq, beq_eq_false_iff_ne, bne_iff_ne, bne_eq_false_iff_eq, Bool.not_eq_true', Bool.not_eq_false', ne_eq, Int.not_lt, Int.not_le, ge_iff_le, gt_iff_lt] at hb11) <;> first | (refine HA_p rfl rfl rfl rfl (fun _ => (R_strEq rfl rfl)) ?_) | (refine HA_skip rfl rfl rfl ?_))
                    all_goals refine HA_as (show _ = Value.bool true from by first | rfl | decide) ?_
                    all_goals first
                      | (refine HA_p rfl rfl rfl rfl (fun _ => (R_pickT rfl rfl)) ?_)
                      | (refine HA_p rfl rfl rfl rfl (fun _ => (R_pickF rfl rfl)) ?_)
                    all_goals refine HA_p rfl rfl rfl rfl (fun _ => (R_move rfl)) ?_
                    all_goals first
                      | (refine HA_p rfl rfl rfl rfl (fun _ => (R_move rfl)) ?_)
                      | (refine HA_skip rfl rfl rfl ?_)
                      | (refine HA_case 67 rfl (fun hb12 => ?_) (fun hb12 => ?_) <;> (try simp only [decide_eq_true_eq, decide_eq_false_iff_not, beq_iff_eq, beq_eq_false_iff_ne, bne_iff_ne, bne_eq_false_iff_eq, Bool.not_eq_true', Bool.not_eq_false', ne_eq, Int.not_lt, Int.not_le, ge_iff_le, gt_iff_lt] at hb12) <;> first | (refine HA_p rfl rfl rfl rfl (fun _ => (R_move rfl)) ?_) | (refine HA_skip rfl rfl rfl ?_))
                    all_goals first
                      | (refine HA_p rfl rfl rfl rfl (fun _ => (R_pure rfl rfl rfl)) ?_)
                      | (refine HA_skip rfl rfl rfl ?_)
                      | (refine HA_case 67 rfl (fun hb13 => ?_) (fun hb13 => ?_) <;> (try simp only [decide_eq_true_eq, decide_eq_false_iff_not, beq_iff_eq, beq_eq_false_iff_ne, bne_iff_ne, bne_eq_false_iff_eq, Bool.not_eq_true', Bool.not_eq_false', ne_eq, Int.not_lt, Int.not_le, ge_iff_le, gt_iff_lt] at hb13) <;> first | (refine HA_p rfl rfl rfl rfl (fun _ => (R_pure rfl rfl rfl)) ?_) | (refine HA_skip rfl rfl rfl ?_))
                    all_goals refine HA_as (show _ = Value.bool true from by first | rfl | decide) ?_
                    all_goals first
                      | (refine HA_p rfl rfl rfl rfl (fun _ => (R_pickT rfl rfl)) ?_)
                      | (refine HA_p rfl rfl rfl rfl (fun _ => (R_pickF rfl rfl)) ?_)
                    all_goals refine HA_p rfl rfl rfl rfl (fun _ => (R_move rfl)) ?_
                    all_goals refine HA_r rfl rfl rfl rfl (R_loadArr (xs := ([257, 1, 0, 0] : List Nat).map uV) (n := 4) rfl (known_L (k := 7) rfl) rfl rfl rfl) ?_
                    all_goals first
                      | (refine HA_p rfl rfl rfl rfl (fun _ => (R_build (r := [_, _, _, _]) rfl rfl)) ?_)
                      | (refine HA_skip rfl rfl rfl ?_)
                      | (refine HA_case 71 rfl (fun hb14 => ?_) (fun hb14 => ?_) <;> (try simp only [decide_eq_true_eq, decide_eq_false_iff_not, beq_iff_eq, beq_eq_false_iff_ne, bne_iff_ne, bne_eq_false_iff_eq, Bool.not_eq_true', Bool.not_eq_false', ne_eq, Int.not_lt, Int.not_le, ge_iff_le, gt_iff_lt] at hb14) <;> first | (refine HA_p rfl rfl rfl rfl (fun _ => (R_build (r := [_, _, _, _]) rfl rfl)) ?_) | (refine HA_skip rfl rfl rfl ?_))
                    all_goals first
                      | (refine HA_p rfl rfl rfl rfl (fun _ => (R_eqArr rfl rfl rfl rfl rfl (by kernel_rfl) rfl rfl rfl rfl)) ?_)
                      | (refine HA_skip rfl rfl rfl ?_)
                      | (refine HA_case 71 rfl (fun hb15 => ?_) (fun hb15 => ?_) <;> (try simp only [decide_eq_true_eq, decide_eq_false_iff_not, beq_iff_eq, beq_eq_false_iff_ne, bne_iff_ne, bne_eq_false_iff_eq, Bool.not_eq_true', Bool.not_eq_false', ne_eq, Int.not_lt, Int.not_le, ge_iff_le, gt_iff_lt] at hb15) <;> first | (refine HA_p rfl rfl rfl rfl (fun _ => (R_eqArr rfl rfl rfl rfl rfl (by kernel_rfl) rfl rfl rfl rfl)) ?_) | (refine HA_skip rfl rfl rfl ?_))
                    all_goals refine HA_as (show _ = Value.bool true from by first | rfl | decide) ?_
                    all_goals first
                      | (refine HA_p rfl rfl rfl rfl (fun _ => (R_pickT rfl rfl)) ?_)
                      | (refine HA_p rfl rfl rfl rfl (fun _ => (R_pickF rfl rfl)) ?_)
                    all_goals refine HA_p rfl rfl rfl rfl (fun _ => (R_move rfl)) ?_
                    all_goals first
                      | (refine HA_p rfl rfl rfl rfl (fun _ => (R_move rfl)) ?_)
                      | (refine HA_skip rfl rfl rfl ?_)
                      | (refine HA_case 76 rfl (fun hb16 => ?_) (fun hb16 => ?_) <;> (try simp only [decide_eq_true_eq, decide_eq_false_iff_not, beq_iff_eq, beq_eq_false_iff_ne, bne_iff_ne, bne_eq_false_iff_eq, Bool.not_eq_true', Bool.not_eq_false', ne_eq, Int.not_lt, Int.not_le, ge_iff_le, gt_iff_lt] at hb16) <;> first | (refine HA_p rfl rfl rfl rfl (fun _ => (R_move rfl)) ?_) | (refine HA_skip rfl rfl rfl ?_))
                    all_goals first
                      | (refine HA_p rfl rfl rfl rfl (fun _ => (R_pure rfl rfl rfl)) ?_)
                      | (refine HA_skip rfl rfl rfl ?_)
                      | (refine HA_case 76 rfl (fun hb17 => ?_) (fun hb17 => ?_) <;> (try simp only [decide_eq_true_eq, decide_eq_false_iff_not, beq_iff_eq, beq_eq_false_iff_ne, bne_iff_ne, bne_eq_false_iff_eq, Bool.not_eq_true', Bool.not_eq_false', ne_eq, Int.not_lt, Int.not_le, ge_iff_le, gt_iff_lt] at hb17) <;> first | (refine HA_p rfl rfl rfl rfl (fun _ => (R_pure rfl rfl rfl)) ?_) | (refine HA_skip rfl rfl rfl ?_))
                    all_goals refine HA_as (show _ = Value.bool true from by first | rfl | decide) ?_
                    all_goals first
                      | (refine HA_p rfl rfl rfl rfl (fun _ => (R_pickT rfl rfl)) ?_)
                      | (refine HA_p rfl rfl rfl rfl (fun _ => (R_pickF rfl rfl)) ?_)
                    all_goals refine HA_p rfl rfl rfl rfl (fun _ => (R_move rfl)) ?_
                    all_goals first
                      | (refine HA_p rfl rfl rfl rfl (fun _ => (R_move rfl)) ?_)
                      | (refine HA_skip rfl rfl rfl ?_)
                      | (refine HA_case 80 rfl (fun hb18 => ?_) (fun hb18 => ?_) <;> (try simp only [decide_eq_true_eq, decide_eq_false_iff_not, beq_iff_eq, beq_eq_false_iff_ne, bne_iff_ne, bne_eq_false_iff_eq, Bool.not_eq_true', Bool.not_eq_false', ne_eq, Int.not_lt, Int.not_le, ge_iff_le, gt_iff_lt] at hb18) <;> first | (refine HA_p rfl rfl rfl rfl (fun _ => (R_move rfl)) ?_) | (refine HA_skip rfl rfl rfl ?_))
                    all_goals first
                      | (refine HA_p rfl rfl rfl rfl (fun _ => (R_pure rfl rfl rfl)) ?_)
                      | (refine HA_skip rfl rfl rfl ?_)
                      | (refine HA_case 80 rfl (fun hb19 => ?_) (fun hb19 => ?_) <;> (try simp only [decide_eq_true_eq, decide_eq_false_iff_not, beq_iff_eq, beq_eq_false_iff_ne, bne_iff_ne, bne_eq_false_iff_eq, Bool.not_eq_true', Bool.not_eq_false', ne_eq, Int.not_lt, Int.not_le, ge_iff_le, gt_iff_lt] at hb19) <;> first | (refine HA_p rfl rfl rfl rfl (fun _ => (R_pure rfl rfl rfl)) ?_) | (refine HA_skip rfl rfl rfl ?_))
                    all_goals refine HA_as (show _ = Value.bool true from by first | rfl | decide) ?_
                    all_goals first
                      | (refine HA_p rfl rfl rfl rfl (fun _ => (R_pickT rfl rfl)) ?_)
                      | (refine HA_p rfl rfl rfl rfl (fun _ => (R_pickF rfl rfl)) ?_)
                    all_goals refine HA_p rfl rfl rfl rfl (fun _ => (R_move rfl)) ?_
                    all_goals first
                      | (refine HA_p rfl rfl rfl rfl (fun _ => (R_move rfl)) ?_)
                      | (refine HA_skip rfl rfl rfl ?_)
                      | (refine HA_case 84 rfl (fun hb20 => ?_) (fun hb20 => ?_) <;> (try simp only [decide_eq_true_eq, decide_eq_false_iff_not, beq_iff_eq, beq_eq_false_iff_ne, bne_iff_ne, bne_eq_false_iff_eq, Bool.not_eq_true', Bool.not_eq_false', ne_eq, Int.not_lt, Int.not_le, ge_iff_le, gt_iff_lt] at hb20) <;> first | (refine HA_p rfl rfl rfl rfl (fun _ => (R_move rfl)) ?_) | (refine HA_skip rfl rfl rfl ?_))
                    all_goals first
                      | (refine HA_p rfl rfl rfl rfl (fun _ => (R_pickT rfl rfl)) ?_)
                      | (refine HA_p rfl rfl rfl rfl (fun _ => (R_pickF rfl rfl)) ?_)
                    all_goals refine HA_p rfl rfl rfl rfl (fun _ => (R_move rfl)) ?_
                    all_goals first
                      | (refine HA_p rfl rfl rfl rfl (fun _ => (R_move rfl)) ?_)
                      | (refine HA_skip rfl rfl rfl ?_)
                      | (refine HA_case 87 rfl (fun hb21 => ?_) (fun hb21 => ?_) <;> (try simp only [decide_eq_true_eq, decide_eq_false_iff_not, beq_iff_eq, beq_eq_false_iff_ne, bne_iff_ne, bne_eq_false_iff_eq, Bool.not_eq_true', Bool.not_eq_false', ne_eq, Int.not_lt, Int.not_le, ge_iff_le, gt_iff_lt] at hb21) <;> first | (refine HA_p rfl rfl rfl rfl (fun _ => (R_move rfl)) ?_) | (refine HA_skip rfl rfl rfl ?_))
                    all_goals first
                      | (refine HA_p rfl rfl rfl rfl (fun _ => (R_pure rfl rfl rfl)) ?_)
                      | (refine HA_skip rfl rfl rfl ?_)
                      | (refine HA_case 87 rfl (fun hb22 => ?_) (fun hb22 => ?_) <;> (try simp only [decide_eq_true_eq, decide_eq_false_iff_not, beq_iff_eq, beq_eq_false_iff_ne, bne_iff_ne, bne_eq_false_iff_eq, Bool.not_eq_true', Bool.not_eq_false', ne_eq, Int.not_lt, Int.not_le, ge_iff_le, gt_iff_lt] at hb22) <;> first | (refine HA_p rfl rfl rfl rfl (fun _ => (R_pure rfl rfl rfl)) ?_) | (refine HA_skip rfl rfl rfl ?_))
                    all_goals refine HA_as (show _ = Value.bool true from by first | rfl | decide) ?_
                    all_goals first
                      | (refine HA_p rfl rfl rfl rfl (fun _ => (R_pickT rfl rfl)) ?_)
                      | (refine HA_p rfl rfl rfl rfl (fun _ => (R_pickF rfl rfl)) ?_)
                    all_goals refine HA_p rfl rfl rfl rfl (fun _ => (R_move rfl)) ?_
                    all_goals refine HA_r rfl rfl rfl rfl (R_loadArr (xs := ([258, 0, 0, 0] : List Nat).map uV) (n := 4) rfl (known_L (k := 4) rfl) rfl rfl rfl) ?_
                    all_goals refine HA_r rfl rfl rfl rfl (R_loadArr (xs := ([258, 0, 0, 0] : List Nat).map uV) (n := 4) rfl (known_L (k := 8) rfl) rfl rfl rfl) ?_
                    all_goals first
                      | (refine HA_p rfl rfl rfl rfl (fun _ => (R_eqArr rfl rfl rfl rfl rfl (by kernel_rfl) rfl rfl rfl rfl)) ?_)
                      | (refine HA_skip rfl rfl rfl ?_)
                      | (refine HA_case 91 rfl (fun hb23 => ?_) (fun hb23 => ?_) <;> (try simp only [decide_eq_true_eq, decide_eq_false_iff_not, beq_iff_eq, beq_eq_false_iff_ne, bne_iff_ne, bne_eq_false_iff_eq, Bool.not_eq_true', Bool.not_eq_false', ne_eq, Int.not_lt, Int.not_le, ge_iff_le, gt_iff_lt] at hb23) <;> first | (refine HA_p rfl rfl rfl rfl (fun _ => (R_eqArr rfl rfl rfl rfl rfl (by kernel_rfl) rfl rfl rfl rfl)) ?_) | (refine HA_skip rfl rfl rfl ?_))
                    all_goals refine HA_as (show _ = Value.bool true from by first | rfl | decide) ?_
                    all_goals first
                      | (refine HA_p rfl rfl rfl rfl (fun _ => (R_pickT rfl rfl)) ?_)
                      | (refine HA_p rfl rfl rfl rfl (fun _ => (R_pickF rfl rfl)) ?_)
                    all_goals refine HA_p rfl rfl rfl rfl (fun _ => (R_move rfl)) ?_
                    all_goals first
                      | (refine HA_p rfl rfl rfl rfl (fun _ => (R_move rfl)) ?_)
                      | (refine HA_skip rfl rfl rfl ?_)
                      | (refine HA_case 96 rfl (fun hb24 => ?_) (fun hb24 => ?_) <;> (try simp only [decide_eq_true_eq, decide_eq_false_iff_not, beq_iff_eq, beq_eq_false_iff_ne, bne_iff_ne, bne_eq_false_iff_eq, Bool.not_eq_true', Bool.not_eq_false', ne_eq, Int.not_lt, Int.not_le, ge_iff_le, gt_iff_lt] at hb24) <;> first | (refine HA_p rfl rfl rfl rfl (fun _ => (R_move rfl)) ?_) | (refine HA_skip rfl rfl rfl ?_))
                    all_goals first
                      | (refine HA_p rfl rfl rfl rfl (fun _ => (R_pure rfl rfl rfl)) ?_)
                      | (refine HA_skip rfl rfl rfl ?_)
                      | (refine HA_case 96 rfl (fun hb25 => ?_) (fun hb25 => ?_) <;> (try simp only [decide_eq_true_eq, decide_eq_false_iff_not, beq_iff_eq, beq_eq_false_iff_ne, bne_iff_ne, bne_eq_false_iff_eq, Bool.not_eq_true', Bool.not_eq_false', ne_eq, Int.not_lt, Int.not_le, ge_iff_le, gt_iff_lt] at hb25) <;> first | (refine HA_p rfl rfl rfl rfl (fun _ => (R_pure rfl rfl rfl)) ?_) | (refine HA_skip rfl rfl rfl ?_))
                    all_goals refine HA_as (show _ = Value.bool true from by first | rfl | decide) ?_
                    all_goals first
                      | (refine HA_p rfl rfl rfl rfl (fun _ => (R_pickT rfl rfl)) ?_)
                      | (refine HA_p rfl rfl rfl rfl (fun _ => (R_pickF rfl rfl)) ?_)
                    all_goals refine HA_p rfl rfl rfl rfl (fun _ => (R_move rfl)) ?_
                    all_goals first
                      | (refine HA_p rfl rfl rfl rfl (fun _ => (R_move rfl)) ?_)
                      | (refine HA_skip rfl rfl rfl ?_)
                      | (refine HA_case 100 rfl (fun hb26 => ?_) (fun hb26 => ?_) <;> (try simp only [decide_eq_true_eq, decide_eq_false_iff_not, beq_iff_eq, beq_eq_false_iff_ne, bne_iff_ne, bne_eq_false_iff_eq, Bool.not_eq_true', Bool.not_eq_false', ne_eq, Int.not_lt, Int.not_le, ge_iff_le, gt_iff_lt] at hb26) <;> first | (refine HA_p rfl rfl rfl rfl (fun _ => (R_move rfl)) ?_) | (refine HA_skip rfl rfl rfl ?_))
                    all_goals first
                      | (refine HA_p rfl rfl rfl rfl (fun _ => (R_pure rfl rfl rfl)) ?_)
                      | (refine HA_skip rfl rfl rfl ?_)
                      | (refine HA_case 100 rfl (fun hb27 => ?_) (fun hb27 => ?_) <;> (try simp only [decide_eq_true_eq, decide_eq_false_iff_not, beq_iff_eq, beq_eq_false_iff_ne, bne_iff_ne, bne_eq_false_iff_eq, Bool.not_eq_true', Bool.not_eq_false', ne_eq, Int.not_lt, Int.not_le, ge_iff_le, gt_iff_lt] at hb27) <;> first | (refine HA_p rfl rfl rfl rfl (fun _ => (R_pure rfl rfl rfl)) ?_) | (refine HA_skip rfl rfl rfl ?_))
                    all_goals refine HA_as (show _ = Value.bool true from by first | rfl | decide) ?_
                    all_goals first
                      | (refine HA_p rfl rfl rfl rfl (fun _ => (R_pickT rfl rfl)) ?_)
                      | (refine HA_p rfl rfl rfl rfl (fun _ => (R_pickF rfl rfl)) ?_)
                    all_goals refine HA_p rfl rfl rfl rfl (fun _ => (R_move rfl)) ?_
                    all_goals first
                      | (refine HA_p rfl rfl rfl rfl (fun _ => (R_move rfl)) ?_)
                      | (refine HA_skip rfl rfl rfl ?_)
                      | (refine HA_case 104 rfl (fun hb28 => ?_) (fun hb28 => ?_) <;> (try simp only [decide_eq_true_eq, decide_eq_false_iff_not, beq_iff_eq, beq_eq_false_iff_ne, bne_iff_ne, bne_eq_false_iff_eq, Bool.not_eq_true', Bool.not_eq_false', ne_eq, Int.not_lt, Int.not_le, ge_iff_le, gt_iff_lt] at hb28) <;> first | (refine HA_p rfl rfl rfl rfl (fun _ => (R_move rfl)) ?_) | (refine HA_skip rfl rfl rfl ?_))
                    all_goals first
                      | (refine HA_p rfl rfl rfl rfl (fun _ => (R_pure rfl rfl rfl)) ?_)
                      | (refine HA_skip rfl rfl rfl ?_)
                      | (refine HA_case 104 rfl (fun hb29 => ?_) (fun hb29 => ?_) <;> (try simp only [decide_eq_true_eq, decide_eq_false_iff_not, beq_iff_eq, beq_eq_false_iff_ne, bne_iff_ne, bne_eq_false_iff_eq, Bool.not_eq_true', Bool.not_eq_false', ne_eq, Int.not_lt, Int.not_le, ge_iff_le, gt_iff_lt] at hb29) <;> first | (refine HA_p rfl rfl rfl rfl (fun _ => (R_pure rfl rfl rfl)) ?_) | (refine HA_skip rfl rfl rfl ?_))
                    all_goals refine HA_as (show _ = Value.bool true from by first | rfl | decide) ?_
                    all_goals first
                      | (refine HA_p rfl rfl rfl rfl (fun _ => (R_pickT rfl rfl)) ?_)
                      | (refine HA_p rfl rfl rfl rfl (fun _ => (R_pickF rfl rfl)) ?_)
                    all_goals refine HA_p rfl rfl rfl rfl (fun _ => (R_move rfl)) ?_
                    all_goals refine HA_r rfl rfl rfl rfl (R_loadArr (xs := ([258, 0, 0, 0] : List Nat).map uV) (n := 4) rfl (known_L (k := 8) rfl) rfl rfl rfl) ?_
                    all_goals refine HA_callP rfl rfl rfl rfl (enters_of Tryd.func26 (by kernel_rfl) rfl) (P_word_Fixed hw) ?_
                    all_goals first
                      | (refine HA_p rfl rfl rfl rfl (fun _ => (R_lenBs rfl rfl)) ?_)
                      | (refine HA_p rfl rfl rfl rfl (fun _ => (R_lenSl rfl rfl)) ?_)
                      | (refine HA_p rfl rfl rfl rfl (fun _ => (R_lenStr rfl rfl rfl)) ?_)
                      | (refine HA_p rfl rfl rfl rfl (fun _ => (R_pure rfl rfl rfl)) ?_)
                      | (refine HA_skip rfl rfl rfl ?_)
                      | (refine HA_case 108 rfl (fun hb30 => ?_) (fun hb30 => ?_) <;> (try simp only [decide_eq_true_eq, decide_eq_false_iff_not, beq_iff_eq, beq_eq_false_iff_ne, bne_iff_ne, bne_eq_false_iff_eq, Bool.not_eq_true', Bool.not_eq_false', ne_eq, Int.not_lt, Int.not_le, ge_iff_le, gt_iff_lt] at hb30) <;> first | (refine HA_p rfl rfl rfl rfl (fun _ => (R_lenBs rfl rfl)) ?_) | (refine HA_p rfl rfl rfl rfl (fun _ => (R_lenSl rfl rfl)) ?_) | (refine HA_p rfl rfl rfl rfl (fun _ => (R_lenStr rfl rfl rfl)) ?_) | (refine HA_p rfl rfl rfl rfl (fun _ => (R_pure rfl rfl rfl)) ?_) | (refine HA_skip rfl rfl rfl ?_))
                    all_goals first
                      | (refine HA_p rfl rfl rfl rfl (fun _ => (R_pure rfl rfl rfl)) ?_)
                      | (refine HA_skip rfl rfl rfl ?_)
                      | (refine HA_case 108 rfl (fun hb31 => ?_) (fun hb31 => ?_) <;> (try simp only [decide_eq_true_eq, decide_eq_false_iff_not, beq_iff_eq, beq_eq_false_iff_ne, bne_iff_ne, bne_eq_false_iff_eq, Bool.not_eq_true', Bool.not_eq_false', ne_eq, Int.not_lt, Int.not_le, ge_iff_le, gt_iff_lt] at hb31) <;> first | (refine HA_p rfl rfl rfl rfl (fun _ => (R_pure rfl rfl rfl)) ?_) | (refine HA_skip rfl rfl rfl ?_))
                    all_goals refine HA_as (show _ = Value.bool true from by first | rfl | decide) ?_
                    all_goals first
                      | (refine HA_p rfl rfl rfl rfl (fun _ => (R_pickT rfl rfl)) ?_)
                      | (refine HA_p rfl rfl rfl rfl (fun _ => (R_pickF rfl rfl)) ?_)
                    all_goals refine HA_p rfl rfl rfl rfl (fun _ => (R_move rfl)) ?_
                    all_goals refine HA_callP rfl rfl rfl rfl (enters_of Tryd.func19 (by kernel_rfl) rfl) (P_word_Of 1) ?_
                    all_goals refine HA_r rfl rfl rfl rfl (R_loadArr (xs := ([258, 0, 0, 0] : List Nat).map uV) (n := 4) rfl (known_L (k := 8) rfl) rfl rfl rfl) ?_
                    all_goals refine HA_callP rfl rfl rfl rfl (enters_of Tryd.func18 (by kernel_rfl) rfl) (P_word_Less h1 hw) ?_; refine HA_as (congrArg Value.bool k_j) ?_
                    all_goals first
                      | (refine HA_p rfl rfl rfl rfl (fun _ => (R_pickT rfl rfl)) ?_)
                      | (refine HA_p rfl rfl rfl rfl (fun _ => (R_pickF rfl rfl)) ?_)
                    all_goals refine HA_p rfl rfl rfl rfl (fun _ => (R_move rfl)) ?_
                    all_goals refine HA_r rfl rfl rfl rfl (R_loadArr (xs := ([258, 0, 0, 0] : List Nat).map uV) (n := 4) rfl (known_L (k := 8) rfl) rfl rfl rfl) ?_
                    all_goals refine HA_r rfl rfl rfl rfl (R_loadArr (xs := ([258, 0, 0, 0] : List Nat).map uV) (n := 4) rfl (known_L (k := 8) rfl) rfl rfl rfl) ?_
                    all_goals refine HA_callP rfl rfl rfl rfl (enters_of Tryd.func18 (by kernel_rfl) rfl) (P_word_Less hw hw) ?_; refine HA_as (congrArg Value.bool k_k) ?_
                    all_goals first
                      | (refine HA_p rfl rfl rfl rfl (fun _ => (R_pure rfl rfl rfl)) ?_)
                      | (refine HA_skip rfl rfl rfl ?_)
                      | (refine HA_case 119 rfl (fun hb32 => ?_) (fun hb32 => ?_) <;> (try simp only [decide_eq_true_eq, decide_eq_false_iff_not, beq_iff_eq, beq_eq_false_iff_ne, bne_iff_ne, bne_eq_false_iff_eq, Bool.not_eq_true', Bool.not_eq_false', ne_eq, Int.not_lt, Int.not_le, ge_iff_le, gt_iff_lt] at hb32) <;> first | (refine HA_p rfl rfl rfl rfl (fun _ => (R_pure rfl rfl rfl)) ?_) | (refine HA_skip rfl rfl rfl ?_))
                    all_goals refine HA_as (show _ = Value.bool true from by first | rfl | decide) ?_
                    all_goals first
                      | (refine HA_p rfl rfl rfl rfl (fun _ => (R_pickT rfl rfl)) ?_)
                      | (refine HA_p rfl rfl rfl rfl (fun _ => (R_pickF rfl rfl)) ?_)
                    all_goals refine HA_p rfl rfl rfl rfl (fun _ => (R_assign rfl)) ?_
                    all_goals refine HA_end ?_
                    all_goals refine HL_nil ?_
                    all_goals (
                      refine HQ_then ?_
                      refine hK10 _ _ _ _ ?_; clear hK10 K10
                      refine HC_ret ?_
                      refine HQ_post rfl rfl (.cons (res_tmp rfl) .nil) (fun w1 hs1 => ?_)
                      exact ⟨rfl, hs1.keep⟩
                      skip)
                    skip)
                  skip)
                skip)
              skip)
            skip)
          skip)
        skip)
      skip)
    skip)
end Go.Proofs.YtpognifhchikgaaDoor
