import Derived.Test.YthfinkklgbiaeaaDoorNf
namespace Go.Proofs.YthfinkklgbiaeaaDoor
set_option linter.all false
open Go.SL Go.RowKit Go.Shelf
theorem bool_eq' {a b : Bool} (h : a = b) : Value.bool a = Value.bool b := by rw [h]
theorem n_a : varL 300 = [172, 2] := by decide +kernel
theorem n_b : unvR [120, 172, 2] 1 = (300, 3, 0) := by decide +kernel
theorem n_c : leR 258 3 = ([2, 1, 0], 0) := by decide +kernel
theorem n_d : unleR [2, 1, 0] = (258, 0) := by decide +kernel
theorem n_e : beN 258 = [1, 2] := by decide +kernel
theorem n_f : unbeR [1, 2] = (258, 0) := by decide +kernel
theorem n_g : unvR [128] 0 = (0, 0, 3) := by decide +kernel
theorem n_h : unvR [128, 0] 0 = (0, 0, 8) := by decide +kernel
theorem n_i : leR 256 1 = ([], 1) := by decide +kernel
theorem n_j : beN 0 = [] := by decide +kernel
theorem n_k : varL 0 = [0] := by decide +kernel
theorem sE {a b : List UInt8} (h : a = b) : Value.string (bs a) = Value.string (bs b) := by rw [h]
set_option maxRecDepth 10000 in
theorem P_works02 : Pure Tryd.prog 21 [].toArray (.bool true) := by
  refine pure_of_HC Tryd.func21 rfl rfl fun w => ?_
  refine HC_seq fun K1 hK1 => ?_
  refine HC_region ?_
  all_goals refine HL_r rfl rfl rfl rfl (R_assign rfl) ?_
  all_goals refine HL_nil ?_
  all_goals (
    refine HQ_then ?_
    refine hK1 _ _ _ _ ?_; clear hK1 K1
    refine HC_seq fun K2 hK2 => ?_
    refine HC_region ?_
    all_goals refine HL_callP rfl rfl rfl (enters_of Tryd.func27 (by kernel_rfl) rfl) (P_num_Var (n := 300) (by decide)) ?_; refine HL_as (sE n_a) ?_
    all_goals refine HL_r rfl rfl rfl rfl (R_assign rfl) ?_
    all_goals refine HL_nil ?_
    all_goals (
      refine HQ_then ?_
      refine hK2 _ _ _ _ ?_; clear hK2 K2
      refine HC_seq fun K3 hK3 => ?_
      refine HC_region ?_
      all_goals refine HL_r rfl rfl rfl rfl (R_move rfl) ?_
      all_goals refine HL_r rfl rfl rfl rfl (R_concat (a := [120]) (b := [172, 2]) rfl rfl (by decide)) ?_
      all_goals refine HL_callP rfl rfl rfl (enters_of Tryd.func29 (by kernel_rfl) rfl) (P_num_Unvar (s := [120, 172, 2]) (by decide) 1) ?_; refine HL_as (congrArg resU n_b) ?_
      all_goals refine HL_r rfl rfl rfl rfl (R_move rfl) ?_
      all_goals refine HL_r rfl rfl rfl rfl (R_extract rfl rfl) ?_
      all_goals refine HL_r rfl rfl rfl rfl (R_extract rfl rfl) ?_
      all_goals refine HL_r rfl rfl rfl rfl (R_extract rfl rfl) ?_
      all_goals refine HL_r rfl rfl rfl rfl (R_assign rfl) ?_
      all_goals refine HL_r rfl rfl rfl rfl (R_assign rfl) ?_
      all_goals refine HL_r rfl rfl rfl rfl (R_assign rfl) ?_
      all_goals refine HL_nil ?_
      all_goals (
        refine HQ_then ?_
        refine hK3 _ _ _ _ ?_; clear hK3 K3
        refine HC_seq fun K4 hK4 => ?_
        refine HC_region ?_
        all_goals refine HL_callP rfl rfl rfl (enters_of Tryd.func23 (by kernel_rfl) rfl) (P_num_Le (n := 258) (by decide) 3) ?_; refine HL_as (congrArg resS n_c) ?_
        all_goals refine HL_r rfl rfl rfl rfl (R_move rfl) ?_
        all_goals refine HL_r rfl rfl rfl rfl (R_extract rfl rfl) ?_
        all_goals refine HL_r rfl rfl rfl rfl (R_extract rfl rfl) ?_
        all_goals refine HL_r rfl rfl rfl rfl (R_assign rfl) ?_
        all_goals refine HL_r rfl rfl rfl rfl (R_assign rfl) ?_
        all_goals refine HL_nil ?_
        all_goals (
          refine HQ_then ?_
          refine hK4 _ _ _ _ ?_; clear hK4 K4
          refine HC_seq fun K5 hK5 => ?_
          refine HC_region ?_
          all_goals refine HL_r rfl rfl rfl rfl (R_move rfl) ?_
          all_goals refine HL_callP rfl rfl rfl (enters_of Tryd.func30 (by kernel_rfl) rfl) (P_num_Unle [2, 1, 0]) ?_; refine HL_as (congrArg resN n_d) ?_
          all_goals refine HL_r rfl rfl rfl rfl (R_move rfl) ?_
          all_goals refine HL_r rfl rfl rfl rfl (R_extract rfl rfl) ?_
          all_goals refine HL_r rfl rfl rfl rfl (R_extract rfl rfl) ?_
          all_goals refine HL_r rfl rfl rfl rfl (R_assign rfl) ?_
          all_goals refine HL_r rfl rfl rfl rfl (R_assign rfl) ?_
          all_goals refine HL_nil ?_
          all_goals (
            refine HQ_then ?_
            refine hK5 _ _ _ _ ?_; clear hK5 K5
            refine HC_seq fun K6 hK6 => ?_
            refine HC_region ?_
            all_goals refine HL_callP rfl rfl rfl (enters_of Tryd.func26 (by kernel_rfl) rfl) (P_num_Be (n := 258) (by decide)) ?_; refine HL_as (sE n_e) ?_
            all_goals refine HL_callP rfl rfl rfl (enters_of Tryd.func28 (by kernel_rfl) rfl) (P_num_Unbe [1, 2]) ?_; refine HL_as (congrArg resN n_f) ?_
            all_goals refine HL_r rfl rfl rfl rfl (R_move rfl) ?_
            all_goals refine HL_r rfl rfl rfl rfl (R_extract rfl rfl) ?_
            all_goals refine HL_r rfl rfl rfl rfl (R_extract rfl rfl) ?_
            all_goals refine HL_r rfl rfl rfl rfl (R_assign rfl) ?_
            all_goals refine HL_r rfl rfl rfl rfl (R_assign rfl) ?_
            all_goals refine HL_nil ?_
            all_goals (
              refine HQ_then ?_
              refine hK6 _ _ _ _ ?_; clear hK6 K6
              refine HC_seq fun K7 hK7 => ?_
              refine HC_region ?_
              all_goals refine HL_buildSlice (vs := [_]) (zs := [_]) (r := [_]) rfl rfl rfl rfl rfl rfl rfl rfl rfl (by show (madeCells #[_] _).toList = _; rw [made_one]; exact rfl) rfl fun r1 => ?_
              all_goals refine HL_r rfl rfl rfl rfl (R_bytesStr (b := [128]) (row := some (r1, 1, [])) (e := 5) rfl ⟨by simp, by simp⟩ (fun p hp => .inl (by rw [List.mem_singleton.1 hp]; simp [bV])) rfl rfl rfl) ?_
              all_goals refine HL_callP rfl rfl rfl (enters_of Tryd.func29 (by kernel_rfl) rfl) (P_num_Unvar (s := [128]) (by decide) 0) ?_; refine HL_as (congrArg resU n_g) ?_
              all_goals refine HL_r rfl rfl rfl rfl (R_move rfl) ?_
              all_goals refine HL_r rfl rfl rfl rfl (R_extract rfl rfl) ?_
              all_goals refine HL_r rfl rfl rfl rfl (R_extract rfl rfl) ?_
              all_goals refine HL_r rfl rfl rfl rfl (R_extract rfl rfl) ?_
              all_goals refine HL_r rfl rfl rfl rfl (R_assign rfl) ?_
              all_goals refine HL_r rfl rfl rfl rfl (R_assign rfl) ?_
              all_goals refine HL_r rfl rfl rfl rfl (R_assign rfl) ?_
              all_goals refine HL_nil ?_
              all_goals (
                refine HQ_then ?_
                refine hK7 _ _ _ _ ?_; clear hK7 K7
                refine HC_seq fun K8 hK8 => ?_
                refine HC_region ?_
                all_goals refine HL_buildSlice (vs := [_, _]) (zs := [_, _]) (r := [_, _]) rfl rfl rfl rfl rfl rfl rfl rfl rfl (by show (madeCells #[_] _).toList = _; rw [made_one]; exact rfl) rfl fun r2 => ?_
                all_goals refine HL_r rfl rfl rfl rfl (R_bytesStr (b := [128, 0]) (row := some (r2, 2, [])) (e := 5) rfl ⟨by simp, by simp⟩ (fun p hp => .inl (by rw [List.mem_singleton.1 hp]; simp [bV])) rfl rfl rfl) ?_
                all_goals refine HL_callP rfl rfl rfl (enters_of Tryd.func29 (by kernel_rfl) rfl) (P_num_Unvar (s := [128, 0]) (by decide) 0) ?_; refine HL_as (congrArg resU n_h) ?_
                all_goals refine HL_r rfl rfl rfl rfl (R_move rfl) ?_
                all_goals refine HL_r rfl rfl rfl rfl (R_extract rfl rfl) ?_
                all_goals refine HL_r rfl rfl rfl rfl (R_extract rfl rfl) ?_
                all_goals refine HL_r rfl rfl rfl rfl (R_extract rfl rfl) ?_
                all_goals refine HL_r rfl rfl rfl rfl (R_assign rfl) ?_
                all_goals refine HL_r rfl rfl rfl rfl (R_assign rfl) ?_
                all_goals refine HL_r rfl rfl rfl rfl (R_assign rfl) ?_
                all_goals refine HL_nil ?_
                all_goals (
                  refine HQ_then ?_
                  refine hK8 _ _ _ _ ?_; clear hK8 K8
                  refine HC_seq fun K9 hK9 => ?_
                  refine HC_region ?_
                  all_goals refine HL_callP rfl rfl rfl (enters_of Tryd.func23 (by kernel_rfl) rfl) (P_num_Le (n := 256) (by decide) 1) ?_; refine HL_as (congrArg resS n_i) ?_
                  all_goals refine HL_r rfl rfl rfl rfl (R_move rfl) ?_
                  all_goals refine HL_r rfl rfl rfl rfl (R_extract rfl rfl) ?_
                  all_goals refine HL_r rfl rfl rfl rfl (R_extract rfl rfl) ?_
                  all_goals refine HL_r rfl rfl rfl rfl (R_assign rfl) ?_
                  all_goals refine HL_r rfl rfl rfl rfl (R_assign rfl) ?_
                  all_goals refine HL_nil ?_
                  all_goals (
                    refine HQ_then ?_
                    refine hK9 _ _ _ _ ?_; clear hK9 K9
                    refine HC_seq fun K10 hK10 => ?_
                    refine HC_drawA [] [(0, .pure), (1, .act (aeNew (slV 2) (.cells #[.int .u8 172, .int .u8 2] 5 (0, 0)))), (3, .pure), (4, .pure), (5, .pure), (6, .pure), (7, .pure), (8, .pure), (9, .pure), (10, .pure), (11, .pure), (12, .pure), (13, .pure), (14, .pure), (15, .pure), (16, .pure), (17, .pure), (18, .act (aeNew (slV 3) (.cells #[.int .u8 2, .int .u8 1, .int .u8 0] 5 (0, 0)))), (20, .pure), (21, .pure), (22, .pure), (23, .pure), (24, .pure), (25, .pure), (26, .pure), (27, .pure), (28, .pure), (29, .pure), (30, .pure), (31, .pure), (32, .pure), (33, .pure), (34, .pure), (35, .pure), (36, .pure), (37, .pure), (38, .pure), (39, .pure), (40, .pure), (41, .pure), (42, .pure), (43, .pure), (44, .pure), (45, .pure), (46, .pure), (47, .pure), (48, .pure), (49, .pure), (50, .pure), (51, .pure), (52, .pure), (53, .pure), (54, .pure), (55, .pure), (56, .pure), (57, .pure), (58, .pure), (59, .pure), (60, .act (aeNew (slV 1) (.cells #[.int .u8 0] 5 (0, 0)))), (62, .pure), (63, .pure), (64, .pure)] 65 (by kernel_rfl) (by kernel_rfl) (by first | exact (fun _ h => nomatch h) | simp [SubS]) ?_
                    all_goals refine HA_p rfl rfl rfl rfl (fun _ hS => (R_move rfl)) ?_
                    all_goals refine HA_buildSlice (vs := [_, _]) (zs := [_, _]) (r := [_, _]) rfl rfl rfl rfl rfl rfl rfl rfl rfl rfl (by show (madeCells #[_] _).toList = _; rw [made_one]; exact rfl) rfl (by first | exact (fun _ h => nomatch h) | simp [SubS]) fun r3 => ?_
                    all_goals refine HA_r rfl rfl rfl rfl (R_bytesStr (b := [172, 2]) (row := some (r3, 2, [])) (e := 5) rfl ⟨by simp, by simp⟩ (fun p hp => .inl (by rw [List.mem_singleton.1 hp]; simp [bV])) rfl rfl rfl) ?_
                    all_goals refine HA_p rfl rfl rfl rfl (fun _ hS => (R_strEq rfl rfl)) ?_
                    all_goals refine HA_as (show _ = Value.bool true from by first | rfl | decide) ?_
                    all_goals refine HA_p rfl rfl rfl rfl (fun _ hS => (R_move rfl)) ?_
                    all_goals first
                      | (refine HA_p rfl rfl rfl rfl (fun _ hS => (R_move rfl)) ?_)
                      | (refine HA_skip rfl rfl rfl ?_)
                      | (refine HA_case 63 rfl (fun hb11 => ?_) (fun hb11 => ?_) <;> (try simp only [decide_eq_true_eq, decide_eq_false_iff_not, beq_iff_eq, beq_eq_false_iff_ne, bne_iff_ne, bne_eq_false_iff_eq, Bool.not_eq_true', Bool.not_eq_false', ne_eq, Int.not_lt, Int.not_le, ge_iff_le, gt_iff_lt] at hb11) <;> first | (refine HA_p rfl rfl rfl rfl (fun _ hS => (R_move rfl)) ?_) | (refine HA_skip rfl rfl rfl ?_))
                    all_goals first
                      | (refine HA_p rfl rfl rfl rfl (fun _ hS => (R_pure rfl rfl rfl)) ?_)
                      | (refine HA_skip rfl rfl rfl ?_)
                      | (refine HA_case 63 rfl (fun hb12 => ?_) (fun hb12 => ?_) <;> (try simp only [decide_eq_true_eq, decide_eq_false_iff_not, beq_iff_eq, beq_eq_false_iff_ne, bne_iff_ne, bne_eq_false_iff_eq, Bool.not_eq_true', Bool.not_eq_false', ne_eq, Int.not_lt, Int.not_le, ge_iff_le, gt_iff_lt] at hb12) <;> first | (refine HA_p rfl rfl rfl rfl (fun _ hS => (R_pure rfl rfl rfl)) ?_) | (refine HA_skip rfl rfl rfl ?_))
                    all_goals refine HA_as (show _ = Value.bool true from by first | rfl | decide) ?_
                    all_goals first
                      | (refine HA_p rfl rfl rfl rfl (fun _ hS => (R_pickT rfl rfl)) ?_)
                      | (refine HA_p rfl rfl rfl rfl (fun _ hS => (R_pickF rfl rfl)) ?_)
                    all_goals refine HA_p rfl rfl rfl rfl (fun _ hS => (R_move rfl)) ?_
                    all_goals first
                      | (refine HA_p rfl rfl rfl rfl (fun _ hS => (R_move rfl)) ?_)
                      | (refine HA_skip rfl rfl rfl ?_)
                      | (refine HA_case 67 rfl (fun hb13 => ?_) (fun hb13 => ?_) <;> (try simp only [decide_eq_true_eq, decide_eq_false_iff_not, beq_iff_eq, beq_eq_false_iff_ne, bne_iff_ne, bne_eq_false_iff_eq, Bool.not_eq_true', Bool.not_eq_false', ne_eq, Int.not_lt, Int.not_le, ge_iff_le, gt_iff_lt] at hb13) <;> first | (refine HA_p rfl rfl rfl rfl (fun _ hS => (R_move rfl)) ?_) | (refine HA_skip rfl rfl rfl ?_))
                    all_goals first
                      | (refine HA_p rfl rfl rfl rfl (fun _ hS => (R_pure rfl rfl rfl)) ?_)
                      | (refine HA_skip rfl rfl rfl ?_)
                      | (refine HA_case 67 rfl (fun hb14 => ?_) (fun hb14 => ?_) <;> (try simp only [decide_eq_true_eq, decide_eq_false_iff_not, beq_iff_eq, beq_eq_false_iff_ne, bne_iff_ne, bne_eq_false_iff_eq, Bool.not_eq_true', Bool.not_eq_false', ne_eq, Int.not_lt, Int.not_le, ge_iff_le, gt_iff_lt] at hb14) <;> first | (refine HA_p rfl rfl rfl rfl (fun _ hS => (R_pure rfl rfl rfl)) ?_) | (refine HA_skip rfl rfl rfl ?_))
                    all_goals refine HA_as (show _ = Value.bool true from by first | rfl | decide) ?_
                    all_goals first
                      | (refine HA_p rfl rfl rfl rfl (fun _ hS => (R_pickT rfl rfl)) ?_)
                      | (refine HA_p rfl rfl rfl rfl (fun _ hS => (R_pickF rfl rfl)) ?_)
                    all_goals refine HA_p rfl rfl rfl rfl (fun _ hS => (R_move rfl)) ?_
                    all_goals first
                      | (refine HA_p rfl rfl rfl rfl (fun _ hS => (R_move rfl)) ?_)
                      | (refine HA_skip rfl rfl rfl ?_)
                      | (refine HA_case 71 rfl (fun hb15 => ?_) (fun hb15 => ?_) <;> (try simp only [decide_eq_true_eq, decide_eq_false_iff_not, beq_iff_eq, beq_eq_false_iff_ne, bne_iff_ne, bne_eq_false_iff_eq, Bool.not_eq_true', Bool.not_eq_false', ne_eq, Int.not_lt, Int.not_le, ge_iff_le, gt_iff_lt] at hb15) <;> first | (refine HA_p rfl rfl rfl rfl (fun _ hS => (R_move rfl)) ?_) | (refine HA_skip rfl rfl rfl ?_))
                    all_goals first
                      | (refine HA_p rfl rfl rfl rfl (fun _ hS => (R_pure rfl rfl rfl)) ?_)
                      | (refine HA_skip rfl rfl rfl ?_)
                      | (refine HA_case 71 rfl (fun hb16 => ?_) (fun hb16 => ?_) <;> (try simp only [decide_eq_true_eq, decide_eq_false_iff_not, beq_iff_eq, beq_eq_false_iff_ne, bne_iff_ne, bne_eq_false_iff_eq, Bool.not_eq_true', Bool.not_eq_false', ne_eq, Int.not_lt, Int.not_le, ge_iff_le, gt_iff_lt] at hb16) <;> first | (refine HA_p rfl rfl rfl rfl (fun _ hS => (R_pure rfl rfl rfl)) ?_) | (refine HA_skip rfl rfl rfl ?_))
                    all_goals refine HA_as (show _ = Value.bool true from by first | rfl | decide) ?_
                    all_goals first
                      | (refine HA_p rfl rfl rfl rfl (fun _ hS => (R_pickT rfl rfl)) ?_)
                      | (refine HA_p rfl rfl rfl rfl (fun _ hS => (R_pickF rfl rfl)) ?_)
                    all_goals refine HA_p rfl rfl rfl rfl (fun _ hS => (R_move rfl)) ?_
                    all_goals first
                      | (refine HA_p rfl rfl rfl rfl (fun _ hS => (R_move rfl)) ?_)
                      | (refine HA_skip rfl rfl rfl ?_)
                      | (refine HA_case 75 rfl (fun hb17 => ?_) (fun hb17 => ?_) <;> (try simp only [decide_eq_true_eq, decide_eq_false_iff_not, beq_iff_eq, beq_eq_false_iff_ne, bne_iff_ne, bne_eq_false_iff_eq, Bool.not_eq_true', Bool.not_eq_false', ne_eq, Int.not_lt, Int.not_le, ge_iff_le, gt_iff_lt] at hb17) <;> first | (refine HA_p rfl rfl rfl rfl (fun _ hS => (R_move rfl)) ?_) | (refine HA_skip rfl rfl rfl ?_))
                    all_goals first
                      | (refine HA_buildSlice (vs := [_, _, _]) (zs := [_, _, _]) (r := [_, _, _]) rfl rfl rfl rfl rfl rfl rfl rfl rfl rfl (by show (madeCells #[_] _).toList = _; rw [made_one]; exact rfl) rfl (by first | exact (fun _ h => nomatch h) | simp [SubS]) fun r4 => ?_)
                      | (refine HA_skip rfl rfl rfl ?_)
                      | (refine HA_case 75 rfl (fun hb18 => ?_) (fun hb18 => ?_) <;> (try simp only [decide_eq_true_eq, decide_eq_false_iff_not, beq_iff_eq, beq_eq_false_iff_ne, bne_iff_ne, bne_eq_false_iff_eq, Bool.not_eq_true', Bool.not_eq_false', ne_eq, Int.not_lt, Int.not_le, ge_iff_le, gt_iff_lt] at hb18) <;> first | (refine HA_buildSlice (vs := [_, _, _]) (zs := [_, _, _]) (r := [_, _, _]) rfl rfl rfl rfl rfl rfl rfl rfl rfl rfl (by show (madeCells #[_] _).toList = _; rw [made_one]; exact rfl) rfl (by first | exact (fun _ h => nomatch h) | simp [SubS]) fun r4 => ?_) | (refine HA_skip rfl rfl rfl ?_))
                    all_goals refine HA_r rfl rfl rfl rfl (R_bytesStr (b := [2, 1, 0]) (row := some (r4, 3, [])) (e := 5) rfl ⟨by simp, by simp⟩ (fun p hp => .inl (by rw [List.mem_singleton.1 hp]; simp [bV])) rfl rfl rfl) ?_
                    all_goals first
                      | (refine HA_p rfl rfl rfl rfl (fun _ hS => (R_strEq rfl rfl)) ?_)
                      | (refine HA_skip rfl rfl rfl ?_)
                      | (refine HA_case 75 rfl (fun hb19 => ?_) (fun hb19 => ?_) <;> (try simp only [decide_eq_true_eq, decide_eq_false_iff_not, beq_iff_eq, beq_eq_false_iff_ne, bne_iff_ne, bne_eq_false_iff_eq, Bool.not_eq_true', Bool.not_eq_false', ne_eq, Int.not_lt, Int.not_le, ge_iff_le, gt_iff_lt] at hb19) <;> first | (refine HA_p rfl rfl rfl rfl (fun _ hS => (R_strEq rfl rfl)) ?_) | (refine HA_skip rfl rfl rfl ?_))
                    all_goals refine HA_as (show _ = Value.bool true from by first | rfl | decide) ?_
                    all_goals first
                      | (refine HA_p rfl rfl rfl rfl (fun _ hS => (R_pickT rfl rfl)) ?_)
                      | (refine HA_p rfl rfl rfl rfl (fun _ hS => (R_pickF rfl rfl)) ?_)
                    all_goals refine HA_p rfl rfl rfl rfl (fun _ hS => (R_move rfl)) ?_
                    all_goals first
                      | (refine HA_p rfl rfl rfl rfl (fun _ hS => (R_move rfl)) ?_)
                      | (refine HA_skip rfl rfl rfl ?_)
                      | (refine HA_case 81 rfl (fun hb20 => ?_) (fun hb20 => ?_) <;> (try simp only [decide_eq_true_eq, decide_eq_false_iff_not, beq_iff_eq, beq_eq_false_iff_ne, bne_iff_ne, bne_eq_false_iff_eq, Bool.not_eq_true', Bool.not_eq_false', ne_eq, Int.not_lt, Int.not_le, ge_iff_le, gt_iff_lt] at hb20) <;> first | (refine HA_p rfl rfl rfl rfl (fun _ hS => (R_move rfl)) ?_) | (refine HA_skip rfl rfl rfl ?_))
                    all_goals first
                      | (refine HA_p rfl rfl rfl rfl (fun _ hS => (R_pure rfl rfl rfl)) ?_)
                      | (refine HA_skip rfl rfl rfl ?_)
                      | (refine HA_case 81 rfl (fun hb21 => ?_) (fun hb21 => ?_) <;> (try simp only [decide_eq_true_eq, decide_eq_false_iff_not, beq_iff_eq, beq_eq_false_iff_ne, bne_iff_ne, bne_eq_false_iff_eq, Bool.not_eq_true', Bool.not_eq_false', ne_eq, Int.not_lt, Int.not_le, ge_iff_le, gt_iff_lt] at hb21) <;> first | (refine HA_p rfl rfl rfl rfl (fun _ hS => (R_pure rfl rfl rfl)) ?_) | (refine HA_skip rfl rfl rfl ?_))
                    all_goals refine HA_as (show _ = Value.bool true from by first | rfl | decide) ?_
                    all_goals first
                      | (refine HA_p rfl rfl rfl rfl (fun _ hS => (R_pickT rfl rfl)) ?_)
                      | (refine HA_p rfl rfl rfl rfl (fun _ hS => (R_pickF rfl rfl)) ?_)
                    all_goals refine HA_p rfl rfl rfl rfl (fun _ hS => (R_move rfl)) ?_
                    all_goals first
                      | (refine HA_p rfl rfl rfl rfl (fun _ hS => (R_move rfl)) ?_)
                      | (refine HA_skip rfl rfl rfl ?_)
                      | (refine HA_case 85 rfl (fun hb22 => ?_) (fun hb22 => ?_) <;> (try simp only [decide_eq_true_eq, decide_eq_false_iff_not, beq_iff_eq, beq_eq_false_iff_ne, bne_iff_ne, bne_eq_false_iff_eq, Bool.not_eq_true', Bool.not_eq_false', ne_eq, Int.not_lt, Int.not_le, ge_iff_le, gt_iff_lt] at hb22) <;> first | (refine HA_p rfl rfl rfl rfl (fun _ hS => (R_move rfl)) ?_) | (refine HA_skip rfl rfl rfl ?_))
                    all_goals first
                      | (refine HA_p rfl rfl rfl rfl (fun _ hS => (R_pure rfl rfl rfl)) ?_)
                      | (refine HA_skip rfl rfl rfl ?_)
                      | (refine HA_case 85 rfl (fun hb23 => ?_) (fun hb23 => ?_) <;> (try simp only [decide_eq_true_eq, decide_eq_false_iff_not, beq_iff_eq, beq_eq_false_iff_ne, bne_iff_ne, bne_eq_false_iff_eq, Bool.not_eq_true', Bool.not_eq_false', ne_eq, Int.not_lt, Int.not_le, ge_iff_le, gt_iff_lt] at hb23) <;> first | (refine HA_p rfl rfl rfl rfl (fun _ hS => (R_pure rfl rfl rfl)) ?_) | (refine HA_skip rfl rfl rfl ?_))
                    all_goals refine HA_as (show _ = Value.bool true from by first | rfl | decide) ?_
                    all_goals first
                      | (refine HA_p rfl rfl rfl rfl (fun _ hS => (R_pickT rfl rfl)) ?_)
                      | (refine HA_p rfl rfl rfl rfl (fun _ hS => (R_pickF rfl rfl)) ?_)
                    all_goals refine HA_p rfl rfl rfl rfl (fun _ hS => (R_move rfl)) ?_
                    all_goals first
                      | (refine HA_p rfl rfl rfl rfl (fun _ hS => (R_move rfl)) ?_)
                      | (refine HA_skip rfl rfl rfl ?_)
                      | (refine HA_case 89 rfl (fun hb24 => ?_) (fun hb24 => ?_) <;> (try simp only [decide_eq_true_eq, decide_eq_false_iff_not, beq_iff_eq, beq_eq_false_iff_ne, bne_iff_ne, bne_eq_false_iff_eq, Bool.not_eq_true', Bool.not_eq_false', ne_eq, Int.not_lt, Int.not_le, ge_iff_le, gt_iff_lt] at hb24) <;> first | (refine HA_p rfl rfl rfl rfl (fun _ hS => (R_move rfl)) ?_) | (refine HA_skip rfl rfl rfl ?_))
                    all_goals first
                      | (refine HA_p rfl rfl rfl rfl (fun _ hS => (R_pure rfl rfl rfl)) ?_)
                      | (refine HA_skip rfl rfl rfl ?_)
                      | (refine HA_case 89 rfl (fun hb25 => ?_) (fun hb25 => ?_) <;> (try simp only [decide_eq_true_eq, decide_eq_false_iff_not, beq_iff_eq, beq_eq_false_iff_ne, bne_iff_ne, bne_eq_false_iff_eq, Bool.not_eq_true', Bool.not_eq_false', ne_eq, Int.not_lt, Int.not_le, ge_iff_le, gt_iff_lt] at hb25) <;> first | (refine HA_p rfl rfl rfl rfl (fun _ hS => (R_pure rfl rfl rfl)) ?_) | (refine HA_skip rfl rfl rfl ?_))
                    all_goals refine HA_as (show _ = Value.bool true from by first | rfl | decide) ?_
                    all_goals first
                      | (refine HA_p rfl rfl rfl rfl (fun _ hS => (R_pickT rfl rfl)) ?_)
                      | (refine HA_p rfl rfl rfl rfl (fun _ hS => (R_pickF rfl rfl)) ?_)
                    all_goals refine HA_p rfl rfl rfl rfl (fun _ hS => (R_move rfl)) ?_
                    all_goals first
                      | (refine HA_p rfl rfl rfl rfl (fun _ hS => (R_move rfl)) ?_)
                      | (refine HA_skip rfl rfl rfl ?_)
                      | (refine HA_case 93 rfl (fun hb26 => ?_) (fun hb26 => ?_) <;> (try simp only [decide_eq_true_eq, decide_eq_false_iff_not, beq_iff_eq, beq_eq_false_iff_ne, bne_iff_ne, bne_eq_false_iff_eq, Bool.not_eq_true', Bool.not_eq_false', ne_eq, Int.not_lt, Int.not_le, ge_iff_le, gt_iff_lt] at hb26) <;> first | (refine HA_p rfl rfl rfl rfl (fun _ hS => (R_move rfl)) ?_) | (refine HA_skip rfl rfl rfl ?_))
                    all_goals first
                      | (refine HA_p rfl rfl rfl rfl (fun _ hS => (R_pure rfl rfl rfl)) ?_)
                      | (refine HA_skip rfl rfl rfl ?_)
                      | (refine HA_case 93 rfl (fun hb27 => ?_) (fun hb27 => ?_) <;> (try simp only [decide_eq_true_eq, decide_eq_false_iff_not, beq_iff_eq, beq_eq_false_iff_ne, bne_iff_ne, bne_eq_false_iff_eq, Bool.not_eq_true', Bool.not_eq_false', ne_eq, Int.not_lt, Int.not_le, ge_iff_le, gt_iff_lt] at hb27) <;> first | (refine HA_p rfl rfl rfl rfl (fun _ hS => (R_pure rfl rfl rfl)) ?_) | (refine HA_skip rfl rfl rfl ?_))
                    all_goals refine HA_as (show _ = Value.bool true from by first | rfl | decide) ?_
                    all_goals first
                      | (refine HA_p rfl rfl rfl rfl (fun _ hS => (R_pickT rfl rfl)) ?_)
                      | (refine HA_p rfl rfl rfl rfl (fun _ hS => (R_pickF rfl rfl)) ?_)
                    all_goals refine HA_p rfl rfl rfl rfl (fun _ hS => (R_move rfl)) ?_
                    all_goals first
                      | (refine HA_p rfl rfl rfl rfl (fun _ hS => (R_move rfl)) ?_)
                      | (refine HA_skip rfl rfl rfl ?_)
                      | (refine HA_case 97 rfl (fun hb28 => ?_) (fun hb28 => ?_) <;> (try simp only [decide_eq_true_eq, decide_eq_false_iff_not, beq_iff_eq, beq_eq_false_iff_ne, bne_iff_ne, bne_eq_false_iff_eq, Bool.not_eq_true', Bool.not_eq_false', ne_eq, Int.not_lt, Int.not_le, ge_iff_le, gt_iff_lt] at hb28) <;> first | (refine HA_p rfl rfl rfl rfl (fun _ hS => (R_move rfl)) ?_) | (refine HA_skip rfl rfl rfl ?_))
                    all_goals first
                      | (refine HA_p rfl rfl rfl rfl (fun _ hS => (R_pure rfl rfl rfl)) ?_)
                      | (refine HA_skip rfl rfl rfl ?_)
                      | (refine HA_case 97 rfl (fun hb29 => ?_) (fun hb29 => ?_) <;> (try simp only [decide_eq_true_eq, decide_eq_false_iff_not, beq_iff_eq, beq_eq_false_iff_ne, bne_iff_ne, bne_eq_false_iff_eq, Bool.not_eq_true', Bool.not_eq_false', ne_eq, Int.not_lt, Int.not_le, ge_iff_le, gt_iff_lt] at hb29) <;> first | (refine HA_p rfl rfl rfl rfl (fun _ hS => (R_pure rfl rfl rfl)) ?_) | (refine HA_skip rfl rfl rfl ?_))
                    all_goals refine HA_as (show _ = Value.bool true from by first | rfl | decide) ?_
                    all_goals first
                      | (refine HA_p rfl rfl rfl rfl (fun _ hS => (R_pickT rfl rfl)) ?_)
                      | (refine HA_p rfl rfl rfl rfl (fun _ hS => (R_pickF rfl rfl)) ?_)
                    all_goals refine HA_p rfl rfl rfl rfl (fun _ hS => (R_move rfl)) ?_
                    all_goals first
                      | (refine HA_p rfl rfl rfl rfl (fun _ hS => (R_move rfl)) ?_)
                      | (refine HA_skip rfl rfl rfl ?_)
                      | (refine HA_case 101 rfl (fun hb30 => ?_) (fun hb30 => ?_) <;> (try simp only [decide_eq_true_eq, decide_eq_false_iff_not, beq_iff_eq, beq_eq_false_iff_ne, bne_iff_ne, bne_eq_false_iff_eq, Bool.not_eq_true', Bool.not_eq_false', ne_eq, Int.not_lt, Int.not_le, ge_iff_le, gt_iff_lt] at hb30) <;> first | (refine HA_p rfl rfl rfl rfl (fun _ hS => (R_move rfl)) ?_) | (refine HA_skip rfl rfl rfl ?_))
                    all_goals first
                      | (refine HA_p rfl rfl rfl rfl (fun _ hS => (R_pure rfl rfl rfl)) ?_)
                      | (refine HA_skip rfl rfl rfl ?_)
                      | (refine HA_case 101 rfl (fun hb31 => ?_) (fun hb31 => ?_) <;> (try simp only [decide_eq_true_eq, decide_eq_false_iff_not, beq_iff_eq, beq_eq_false_iff_ne, bne_iff_ne, bne_eq_false_iff_eq, Bool.not_eq_true', Bool.not_eq_false', ne_eq, Int.not_lt, Int.not_le, ge_iff_le, gt_iff_lt] at hb31) <;> first | (refine HA_p rfl rfl rfl rfl (fun _ hS => (R_pure rfl rfl rfl)) ?_) | (refine HA_skip rfl rfl rfl ?_))
                    all_goals refine HA_as (show _ = Value.bool true from by first | rfl | decide) ?_
                    all_goals first
                      | (refine HA_p rfl rfl rfl rfl (fun _ hS => (R_pickT rfl rfl)) ?_)
                      | (refine HA_p rfl rfl rfl rfl (fun _ hS => (R_pickF rfl rfl)) ?_)
                    all_goals refine HA_p rfl rfl rfl rfl (fun _ hS => (R_move rfl)) ?_
                    all_goals first
                      | (refine HA_p rfl rfl rfl rfl (fun _ hS => (R_move rfl)) ?_)
                      | (refine HA_skip rfl rfl rfl ?_)
                      | (refine HA_case 105 rfl (fun hb32 => ?_) (fun hb32 => ?_) <;> (try simp only [decide_eq_true_eq, decide_eq_false_iff_not, beq_iff_eq, beq_eq_false_iff_ne, bne_iff_ne, bne_eq_false_iff_eq, Bool.not_eq_true', Bool.not_eq_false', ne_eq, Int.not_lt, Int.not_le, ge_iff_le, gt_iff_lt] at hb32) <;> first | (refine HA_p rfl rfl rfl rfl (fun _ hS => (R_move rfl)) ?_) | (refine HA_skip rfl rfl rfl ?_))
                    all_goals first
                      | (refine HA_p rfl rfl rfl rfl (fun _ hS => (R_pure rfl rfl rfl)) ?_)
                      | (refine HA_skip rfl rfl rfl ?_)
                      | (refine HA_case 105 rfl (fun hb33 => ?_) (fun hb33 => ?_) <;> (try simp only [decide_eq_true_eq, decide_eq_false_iff_not, beq_iff_eq, beq_eq_false_iff_ne, bne_iff_ne, bne_eq_false_iff_eq, Bool.not_eq_true', Bool.not_eq_false', ne_eq, Int.not_lt, Int.not_le, ge_iff_le, gt_iff_lt] at hb33) <;> first | (refine HA_p rfl rfl rfl rfl (fun _ hS => (R_pure rfl rfl rfl)) ?_) | (refine HA_skip rfl rfl rfl ?_))
                    all_goals refine HA_as (show _ = Value.bool true from by first | rfl | decide) ?_
                    all_goals first
                      | (refine HA_p rfl rfl rfl rfl (fun _ hS => (R_pickT rfl rfl)) ?_)
                      | (refine HA_p rfl rfl rfl rfl (fun _ hS => (R_pickF rfl rfl)) ?_)
                    all_goals refine HA_p rfl rfl rfl rfl (fun _ hS => (R_move rfl)) ?_
                    all_goals first
                      | (refine HA_p rfl rfl rfl rfl (fun _ hS => (R_move rfl)) ?_)
                      | (refine HA_skip rfl rfl rfl ?_)
                      | (refine HA_case 109 rfl (fun hb34 => ?_) (fun hb34 => ?_) <;> (try simp only [decide_eq_true_eq, decide_eq_false_iff_not, beq_iff_eq, beq_eq_false_iff_ne, bne_iff_ne, bne_eq_false_iff_eq, Bool.not_eq_true', Bool.not_eq_false', ne_eq, Int.not_lt, Int.not_le, ge_iff_le, gt_iff_lt] at hb34) <;> first | (refine HA_p rfl rfl rfl rfl (fun _ hS => (R_move rfl)) ?_) | (refine HA_skip rfl rfl rfl ?_))
                    all_goals first
                      | (refine HA_p rfl rfl rfl rfl (fun _ hS => (R_pure rfl rfl rfl)) ?_)
                      | (refine HA_skip rfl rfl rfl ?_)
                      | (refine HA_case 109 rfl (fun hb35 => ?_) (fun hb35 => ?_) <;> (try simp only [decide_eq_true_eq, decide_eq_false_iff_not, beq_iff_eq, beq_eq_false_iff_ne, bne_iff_ne, bne_eq_false_iff_eq, Bool.not_eq_true', Bool.not_eq_false', ne_eq, Int.not_lt, Int.not_le, ge_iff_le, gt_iff_lt] at hb35) <;> first | (refine HA_p rfl rfl rfl rfl (fun _ hS => (R_pure rfl rfl rfl)) ?_) | (refine HA_skip rfl rfl rfl ?_))
                    all_goals refine HA_as (show _ = Value.bool true from by first | rfl | decide) ?_
                    all_goals first
                      | (refine HA_p rfl rfl rfl rfl (fun _ hS => (R_pickT rfl rfl)) ?_)
                      | (refine HA_p rfl rfl rfl rfl (fun _ hS => (R_pickF rfl rfl)) ?_)
                    all_goals refine HA_p rfl rfl rfl rfl (fun _ hS => (R_move rfl)) ?_
                    all_goals refine HA_callP rfl rfl rfl rfl (enters_of Tryd.func26 (by kernel_rfl) rfl) (P_num_Be (n := 0) (by decide)) ?_; refine HA_as (sE n_j) ?_
                    all_goals first
                      | (refine HA_p rfl rfl rfl rfl (fun _ hS => (R_strEq rfl rfl)) ?_)
                      | (refine HA_skip rfl rfl rfl ?_)
                      | (refine HA_case 113 rfl (fun hb36 => ?_) (fun hb36 => ?_) <;> (try simp only [decide_eq_true_eq, decide_eq_false_iff_not, beq_iff_eq, beq_eq_false_iff_ne, bne_iff_ne, bne_eq_false_iff_eq, Bool.not_eq_true', Bool.not_eq_false', ne_eq, Int.not_lt, Int.not_le, ge_iff_le, gt_iff_lt] at hb36) <;> first | (refine HA_p rfl rfl rfl rfl (fun _ hS => (R_strEq rfl rfl)) ?_) | (refine HA_skip rfl rfl rfl ?_))
                    all_goals refine HA_as (show _ = Value.bool true from by first | rfl | decide) ?_
                    all_goals first
                      | (refine HA_p rfl rfl rfl rfl (fun _ hS => (R_pickT rfl rfl)) ?_)
                      | (refine HA_p rfl rfl rfl rfl (fun _ hS => (R_pickF rfl rfl)) ?_)
                    all_goals refine HA_p rfl rfl rfl rfl (fun _ hS => (R_move rfl)) ?_
                    all_goals refine HA_callP rfl rfl rfl rfl (enters_of Tryd.func27 (by kernel_rfl) rfl) (P_num_Var (n := 0) (by decide)) ?_; refine HA_as (sE n_k) ?_
                    all_goals first
                      | (refine HA_buildSlice (vs := [_]) (zs := [_]) (r := [_]) rfl rfl rfl rfl rfl rfl rfl rfl rfl rfl (by show (madeCells #[_] _).toList = _; rw [made_one]; exact rfl) rfl (by first | exact (fun _ h => nomatch h) | simp [SubS]) fun r5 => ?_)
                      | (refine HA_skip rfl rfl rfl ?_)
                      | (refine HA_case 117 rfl (fun hb37 => ?_) (fun hb37 => ?_) <;> (try simp only [decide_eq_true_eq, decide_eq_false_iff_not, beq_iff_eq, beq_eq_false_iff_ne, bne_iff_ne, bne_eq_false_iff_eq, Bool.not_eq_true', Bool.not_eq_false', ne_eq, Int.not_lt, Int.not_le, ge_iff_le, gt_iff_lt] at hb37) <;> first | (refine HA_buildSlice (vs := [_]) (zs := [_]) (r := [_]) rfl rfl rfl rfl rfl rfl rfl rfl rfl rfl (by show (madeCells #[_] _).toList = _; rw [made_one]; exact rfl) rfl (by first | exact (fun _ h => nomatch h) | simp [SubS]) fun r5 => ?_) | (refine HA_skip rfl rfl rfl ?_))
                    all_goals refine HA_r rfl rfl rfl rfl (R_bytesStr (b := [0]) (row := some (r5, 1, [])) (e := 5) rfl ⟨by simp, by simp⟩ (fun p hp => .inl (by rw [List.mem_singleton.1 hp]; simp [bV])) rfl rfl rfl) ?_
                    all_goals first
                      | (refine HA_p rfl rfl rfl rfl (fun _ hS => (R_strEq rfl rfl)) ?_)
                      | (refine HA_skip rfl rfl rfl ?_)
                      | (refine HA_case 117 rfl (fun hb38 => ?_) (fun hb38 => ?_) <;> (try simp only [decide_eq_true_eq, decide_eq_false_iff_not, beq_iff_eq, beq_eq_false_iff_ne, bne_iff_ne, bne_eq_false_iff_eq, Bool.not_eq_true', Bool.not_eq_false', ne_eq, Int.not_lt, Int.not_le, ge_iff_le, gt_iff_lt] at hb38) <;> first | (refine HA_p rfl rfl rfl rfl (fun _ hS => (R_strEq rfl rfl)) ?_) | (refine HA_skip rfl rfl rfl ?_))
                    all_goals refine HA_as (show _ = Value.bool true from by first | rfl | decide) ?_
                    all_goals first
                      | (refine HA_p rfl rfl rfl rfl (fun _ hS => (R_pickT rfl rfl)) ?_)
                      | (refine HA_p rfl rfl rfl rfl (fun _ hS => (R_pickF rfl rfl)) ?_)
                    all_goals refine HA_p rfl rfl rfl rfl (fun _ hS => (R_assign rfl)) ?_
                    all_goals refine HA_end ?_
                    all_goals refine HL_nil ?_
                    all_goals (
                      refine HQ_then ?_
                      refine hK10 _ _ _ _ ?_; clear hK10 K10
                      refine HC_ret ?_
                      refine HQ_post rfl rfl (.cons (res_tmp rfl) .nil) (fun w1 hs1 => ?_)
                      exact ⟨rfl, hs1.keep⟩
                      skip)
                    skip)
                  skip)
                skip)
              skip)
            skip)
          skip)
        skip)
      skip)
    skip)
set_option maxRecDepth 10000 in
theorem P_NumWrites {n : Nat} (hn : n < 18446744073709551616) (k : Int) : Pure Tryd.prog 8 [uV n, .int .i64 k].toArray (.bool true) := by
  refine pure_of_HC Tryd.func8 rfl rfl fun w => ?_
  refine HC_seq fun K1 hK1 => ?_
  refine HC_region ?_
  all_goals refine HL_r rfl rfl rfl rfl (R_assign rfl) ?_
  all_goals refine HL_nil ?_
  all_goals (
    refine HQ_then ?_
    refine hK1 _ _ _ _ ?_; clear hK1 K1
    refine HC_seq fun K2 hK2 => ?_
    refine HC_region ?_
    all_goals refine HL_callP rfl rfl rfl (enters_of Tryd.func21 (by kernel_rfl) rfl) P_works02 ?_
    all_goals refine HL_r rfl rfl rfl rfl (R_assign rfl) ?_
    all_goals refine HL_nil ?_
    all_goals (
      refine HQ_then ?_
      refine hK2 _ _ _ _ ?_; clear hK2 K2
      refine HC_seq fun K3 hK3 => ?_
      refine HC_seq fun K4 hK4 => ?_
      refine HC_region ?_
      all_goals refine HL_r rfl rfl rfl rfl (R_move rfl) ?_
      all_goals refine HL_r rfl rfl rfl rfl (R_pure rfl rfl rfl) ?_
      all_goals refine HL_nil ?_
      all_goals (
        refine HQ_then ?_
        refine hK4 _ _ _ _ ?_; clear hK4 K4
        refine HC_cond rfl (fun h5 => ?_) (fun h5 => ?_)
        · try exact Bool.noConfusion h5
          all_goals try simp only [decide_eq_true_eq, decide_eq_false_iff_not, beq_iff_eq, beq_eq_false_iff_ne, bne_iff_ne, bne_eq_false_iff_eq, Bool.not_eq_true', Bool.not_eq_false', ne_eq, Int.not_lt, Int.not_le, ge_iff_le, gt_iff_lt] at h5
          all_goals (
            refine HC_seq fun K6 hK6 => ?_
            refine HC_region ?_
            all_goals refine HL_r rfl rfl rfl rfl (R_assign rfl) ?_
            all_goals refine HL_nil ?_
            all_goals (
              refine HQ_then ?_
              refine hK6 _ _ _ _ ?_; clear hK6 K6
              refine HC_ret ?_
              refine HQ_thenR ?_; clear hK3 K3
              refine HQ_post rfl rfl (.cons (res_tmp rfl) .nil) (fun w1 hs1 => ?_)
              exact ⟨rfl, hs1.keep⟩
              skip)
            skip)
        · try exact Bool.noConfusion h5
          all_goals try simp only [decide_eq_true_eq, decide_eq_false_iff_not, beq_iff_eq, beq_eq_false_iff_ne, bne_iff_ne, bne_eq_false_iff_eq, Bool.not_eq_true', Bool.not_eq_false', ne_eq, Int.not_lt, Int.not_le, ge_iff_le, gt_iff_lt] at h5
          all_goals (
            refine HC_skip ?_
            refine HQ_then ?_
            refine hK3 _ _ _ _ ?_; clear hK3 K3
            refine HC_seq fun K7 hK7 => ?_
            refine HC_region ?_
            all_goals refine HL_r rfl rfl rfl rfl (R_move rfl) ?_
            all_goals refine HL_callP rfl rfl rfl (enters_of Tryd.func22 (by kernel_rfl) rfl) (P_ref_Be hn) ?_
            all_goals refine HL_r rfl rfl rfl rfl (R_assign rfl) ?_
            all_goals refine HL_nil ?_
            all_goals (
              refine HQ_then ?_
              refine hK7 _ _ _ _ ?_; clear hK7 K7
              refine HC_seq fun K8 hK8 => ?_
              refine HC_region ?_
              all_goals refine HL_r rfl rfl rfl rfl (R_move rfl) ?_
              all_goals refine HL_r rfl rfl rfl rfl (R_move rfl) ?_
              all_goals refine HL_callP rfl rfl rfl (enters_of Tryd.func23 (by kernel_rfl) rfl) (P_num_Le hn k) ?_
              all_goals refine HL_r rfl rfl rfl rfl (R_move rfl) ?_
              all_goals refine HL_r rfl rfl rfl rfl (R_extract rfl rfl) ?_
              all_goals refine HL_r rfl rfl rfl rfl (R_extract rfl rfl) ?_
              all_goals refine HL_r rfl rfl rfl rfl (R_assign rfl) ?_
              all_goals refine HL_r rfl rfl rfl rfl (R_assign rfl) ?_
              all_goals refine HL_nil ?_
              all_goals (
                refine HQ_then ?_
                refine hK8 _ _ _ _ ?_; clear hK8 K8
                refine HC_seq fun K9 hK9 => ?_
                refine HC_region ?_
                all_goals refine HL_r rfl rfl rfl rfl (R_move rfl) ?_
                all_goals refine HL_r rfl rfl rfl rfl (R_move rfl) ?_
                all_goals refine HL_callP rfl rfl rfl (enters_of Tryd.func24 (by kernel_rfl) rfl) (P_ref_Le hn k) ?_
                all_goals refine HL_r rfl rfl rfl rfl (R_move rfl) ?_
                all_goals refine HL_r rfl rfl rfl rfl (R_extract rfl rfl) ?_
                all_goals refine HL_r rfl rfl rfl rfl (R_extract rfl rfl) ?_
                all_goals refine HL_r rfl rfl rfl rfl (R_assign rfl) ?_
                all_goals refine HL_r rfl rfl rfl rfl (R_assign rfl) ?_
                all_goals refine HL_nil ?_
                all_goals (
                  refine HQ_then ?_
                  refine hK9 _ _ _ _ ?_; clear hK9 K9
                  refine HC_seq fun K10 hK10 => ?_
                  refine HC_region ?_
                  all_goals refine HL_r rfl rfl rfl rfl (R_move rfl) ?_
                  all_goals refine HL_callP rfl rfl rfl (enters_of Tryd.func25 (by kernel_rfl) rfl) (P_ref_Var hn) ?_
                  all_goals refine HL_r rfl rfl rfl rfl (R_assign rfl) ?_
                  all_goals refine HL_nil ?_
                  all_goals (
                    refine HQ_then ?_
                    refine hK10 _ _ _ _ ?_; clear hK10 K10
                    refine HC_seq fun K11 hK11 => ?_
                    refine HC_region ?_
                    all_goals refine HL_r rfl rfl rfl rfl (R_move rfl) ?_
                    all_goals refine HL_r rfl rfl rfl rfl (R_move rfl) ?_
                    all_goals first
                      | (refine HL_r rfl rfl rfl rfl (R_move rfl) ?_)
                      | (refine HL_skip rfl rfl rfl ?_)
                      | (refine HL_case 32 rfl (fun hb12 => ?_) (fun hb12 => ?_) <;> (try simp only [decide_eq_true_eq, decide_eq_false_iff_not, beq_iff_eq, beq_eq_false_iff_ne, bne_iff_ne, bne_eq_false_iff_eq, Bool.not_eq_true', Bool.not_eq_false', ne_eq, Int.not_lt, Int.not_le, ge_iff_le, gt_iff_lt] at hb12) <;> first | (refine HL_r rfl rfl rfl rfl (R_move rfl) ?_) | (refine HL_skip rfl rfl rfl ?_))
                    all_goals first
                      | (refine HL_callP rfl rfl rfl (enters_of Tryd.func26 (by kernel_rfl) rfl) (P_num_Be hn) ?_)
                      | (refine HL_skip rfl rfl rfl ?_)
                      | (refine HL_case 32 rfl (fun hb13 => ?_) (fun hb13 => ?_) <;> (try simp only [decide_eq_true_eq, decide_eq_false_iff_not, beq_iff_eq, beq_eq_false_iff_ne, bne_iff_ne, bne_eq_false_iff_eq, Bool.not_eq_true', Bool.not_eq_false', ne_eq, Int.not_lt, Int.not_le, ge_iff_le, gt_iff_lt] at hb13) <;> first | (refine HL_callP rfl rfl rfl (enters_of Tryd.func26 (by kernel_rfl) rfl) (P_num_Be hn) ?_) | (refine HL_skip rfl rfl rfl ?_))
                    all_goals first
                      | (refine HL_r rfl rfl rfl rfl (R_move rfl) ?_)
                      | (refine HL_skip rfl rfl rfl ?_)
                      | (refine HL_case 32 rfl (fun hb14 => ?_) (fun hb14 => ?_) <;> (try simp only [decide_eq_true_eq, decide_eq_false_iff_not, beq_iff_eq, beq_eq_false_iff_ne, bne_iff_ne, bne_eq_false_iff_eq, Bool.not_eq_true', Bool.not_eq_false', ne_eq, Int.not_lt, Int.not_le, ge_iff_le, gt_iff_lt] at hb14) <;> first | (refine HL_r rfl rfl rfl rfl (R_move rfl) ?_) | (refine HL_skip rfl rfl rfl ?_))
                    all_goals first
                      | (refine HL_r rfl rfl rfl rfl (R_strEq rfl rfl) ?_)
                      | (refine HL_skip rfl rfl rfl ?_)
                      | (refine HL_case 32 rfl (fun hb15 => ?_) (fun hb15 => ?_) <;> (try simp only [decide_eq_true_eq, decide_eq_false_iff_not, beq_iff_eq, beq_eq_false_iff_ne, bne_iff_ne, bne_eq_false_iff_eq, Bool.not_eq_true', Bool.not_eq_false', ne_eq, Int.not_lt, Int.not_le, ge_iff_le, gt_iff_lt] at hb15) <;> first | (refine HL_r rfl rfl rfl rfl (R_strEq rfl rfl) ?_) | (refine HL_skip rfl rfl rfl ?_))
                    all_goals first
                      | (refine HL_as (show _ = Value.bool true from bool_eq' (decide_eq_true rfl)) ?_)
                      | (refine HL_as (show _ = Value.bool false from bool_eq' (decide_eq_true rfl)) ?_)
                      | skip
                    all_goals first
                      | (refine HL_r rfl rfl rfl rfl (R_pickT rfl rfl) ?_)
                      | (refine HL_r rfl rfl rfl rfl (R_pickF rfl rfl) ?_)
                    all_goals refine HL_r rfl rfl rfl rfl (R_move rfl) ?_
                    all_goals first
                      | (refine HL_r rfl rfl rfl rfl (R_move rfl) ?_)
                      | (refine HL_skip rfl rfl rfl ?_)
                      | (refine HL_case 38 rfl (fun hb16 => ?_) (fun hb16 => ?_) <;> (try simp only [decide_eq_true_eq, decide_eq_false_iff_not, beq_iff_eq, beq_eq_false_iff_ne, bne_iff_ne, bne_eq_false_iff_eq, Bool.not_eq_true', Bool.not_eq_false', ne_eq, Int.not_lt, Int.not_le, ge_iff_le, gt_iff_lt] at hb16) <;> first | (refine HL_r rfl rfl rfl rfl (R_move rfl) ?_) | (refine HL_skip rfl rfl rfl ?_))
                    all_goals first
                      | (refine HL_r rfl rfl rfl rfl (R_move rfl) ?_)
                      | (refine HL_skip rfl rfl rfl ?_)
                      | (refine HL_case 38 rfl (fun hb17 => ?_) (fun hb17 => ?_) <;> (try simp only [decide_eq_true_eq, decide_eq_false_iff_not, beq_iff_eq, beq_eq_false_iff_ne, bne_iff_ne, bne_eq_false_iff_eq, Bool.not_eq_true', Bool.not_eq_false', ne_eq, Int.not_lt, Int.not_le, ge_iff_le, gt_iff_lt] at hb17) <;> first | (refine HL_r rfl rfl rfl rfl (R_move rfl) ?_) | (refine HL_skip rfl rfl rfl ?_))
                    all_goals first
                      | (refine HL_r rfl rfl rfl rfl (R_strEq rfl rfl) ?_)
                      | (refine HL_skip rfl rfl rfl ?_)
                      | (refine HL_case 38 rfl (fun hb18 => ?_) (fun hb18 => ?_) <;> (try simp only [decide_eq_true_eq, decide_eq_false_iff_not, beq_iff_eq, beq_eq_false_iff_ne, bne_iff_ne, bne_eq_false_iff_eq, Bool.not_eq_true', Bool.not_eq_false', ne_eq, Int.not_lt, Int.not_le, ge_iff_le, gt_iff_lt] at hb18) <;> first | (refine HL_r rfl rfl rfl rfl (R_strEq rfl rfl) ?_) | (refine HL_skip rfl rfl rfl ?_))
                    all_goals first
                      | (refine HL_as (show _ = Value.bool true from bool_eq' (decide_eq_true rfl)) ?_)
                      | (refine HL_as (show _ = Value.bool false from bool_eq' (decide_eq_true rfl)) ?_)
                      | skip
                    all_goals first
                      | (refine HL_r rfl rfl rfl rfl (R_pickT rfl rfl) ?_)
                      | (refine HL_r rfl rfl rfl rfl (R_pickF rfl rfl) ?_)
                    all_goals refine HL_r rfl rfl rfl rfl (R_move rfl) ?_
                    all_goals first
                      | (refine HL_r rfl rfl rfl rfl (R_move rfl) ?_)
                      | (refine HL_skip rfl rfl rfl ?_)
                      | (refine HL_case 43 rfl (fun hb19 => ?_) (fun hb19 => ?_) <;> (try simp only [decide_eq_true_eq, decide_eq_false_iff_not, beq_iff_eq, beq_eq_false_iff_ne, bne_iff_ne, bne_eq_false_iff_eq, Bool.not_eq_true', Bool.not_eq_false', ne_eq, Int.not_lt, Int.not_le, ge_iff_le, gt_iff_lt] at hb19) <;> first | (refine HL_r rfl rfl rfl rfl (R_move rfl) ?_) | (refine HL_skip rfl rfl rfl ?_))
                    all_goals first
                      | (refine HL_r rfl rfl rfl rfl (R_move rfl) ?_)
                      | (refine HL_skip rfl rfl rfl ?_)
                      | (refine HL_case 43 rfl (fun hb20 => ?_) (fun hb20 => ?_) <;> (try simp only [decide_eq_true_eq, decide_eq_false_iff_not, beq_iff_eq, beq_eq_false_iff_ne, bne_iff_ne, bne_eq_false_iff_eq, Bool.not_eq_true', Bool.not_eq_false', ne_eq, Int.not_lt, Int.not_le, ge_iff_le, gt_iff_lt] at hb20) <;> first | (refine HL_r rfl rfl rfl rfl (R_move rfl) ?_) | (refine HL_skip rfl rfl rfl ?_))
                    all_goals first
                      | (refine HL_r rfl rfl rfl rfl (R_pure rfl rfl rfl) ?_)
                      | (refine HL_skip rfl rfl rfl ?_)
                      | (refine HL_case 43 rfl (fun hb21 => ?_) (fun hb21 => ?_) <;> (try simp only [decide_eq_true_eq, decide_eq_false_iff_not, beq_iff_eq, beq_eq_false_iff_ne, bne_iff_ne, bne_eq_false_iff_eq, Bool.not_eq_true', Bool.not_eq_false', ne_eq, Int.not_lt, Int.not_le, ge_iff_le, gt_iff_lt] at hb21) <;> first | (refine HL_r rfl rfl rfl rfl (R_pure rfl rfl rfl) ?_) | (refine HL_skip rfl rfl rfl ?_))
                    all_goals first
                      | (refine HL_as (show _ = Value.bool true from bool_eq' (ieqT rfl)) ?_)
                      | (refine HL_as (show _ = Value.bool false from bool_eq' (ieqT rfl)) ?_)
                      | skip
                    all_goals first
                      | (refine HL_r rfl rfl rfl rfl (R_pickT rfl rfl) ?_)
                      | (refine HL_r rfl rfl rfl rfl (R_pickF rfl rfl) ?_)
                    all_goals refine HL_r rfl rfl rfl rfl (R_move rfl) ?_
                    all_goals first
                      | (refine HL_r rfl rfl rfl rfl (R_move rfl) ?_)
                      | (refine HL_skip rfl rfl rfl ?_)
                      | (refine HL_case 48 rfl (fun hb22 => ?_) (fun hb22 => ?_) <;> (try simp only [decide_eq_true_eq, decide_eq_false_iff_not, beq_iff_eq, beq_eq_false_iff_ne, bne_iff_ne, bne_eq_false_iff_eq, Bool.not_eq_true', Bool.not_eq_false', ne_eq, Int.not_lt, Int.not_le, ge_iff_le, gt_iff_lt] at hb22) <;> first | (refine HL_r rfl rfl rfl rfl (R_move rfl) ?_) | (refine HL_skip rfl rfl rfl ?_))
                    all_goals first
                      | (refine HL_callP rfl rfl rfl (enters_of Tryd.func27 (by kernel_rfl) rfl) (P_num_Var hn) ?_)
                      | (refine HL_skip rfl rfl rfl ?_)
                      | (refine HL_case 48 rfl (fun hb23 => ?_) (fun hb23 => ?_) <;> (try simp only [decide_eq_true_eq, decide_eq_false_iff_not, beq_iff_eq, beq_eq_false_iff_ne, bne_iff_ne, bne_eq_false_iff_eq, Bool.not_eq_true', Bool.not_eq_false', ne_eq, Int.not_lt, Int.not_le, ge_iff_le, gt_iff_lt] at hb23) <;> first | (refine HL_callP rfl rfl rfl (enters_of Tryd.func27 (by kernel_rfl) rfl) (P_num_Var hn) ?_) | (refine HL_skip rfl rfl rfl ?_))
                    all_goals first
                      | (refine HL_r rfl rfl rfl rfl (R_move rfl) ?_)
                      | (refine HL_skip rfl rfl rfl ?_)
                      | (refine HL_case 48 rfl (fun hb24 => ?_) (fun hb24 => ?_) <;> (try simp only [decide_eq_true_eq, decide_eq_false_iff_not, beq_iff_eq, beq_eq_false_iff_ne, bne_iff_ne, bne_eq_false_iff_eq, Bool.not_eq_true', Bool.not_eq_false', ne_eq, Int.not_lt, Int.not_le, ge_iff_le, gt_iff_lt] at hb24) <;> first | (refine HL_r rfl rfl rfl rfl (R_move rfl) ?_) | (refine HL_skip rfl rfl rfl ?_))
                    all_goals first
                      | (refine HL_r rfl rfl rfl rfl (R_strEq rfl rfl) ?_)
                      | (refine HL_skip rfl rfl rfl ?_)
                      | (refine HL_case 48 rfl (fun hb25 => ?_) (fun hb25 => ?_) <;> (try simp only [decide_eq_true_eq, decide_eq_false_iff_not, beq_iff_eq, beq_eq_false_iff_ne, bne_iff_ne, bne_eq_false_iff_eq, Bool.not_eq_true', Bool.not_eq_false', ne_eq, Int.not_lt, Int.not_le, ge_iff_le, gt_iff_lt] at hb25) <;> first | (refine HL_r rfl rfl rfl rfl (R_strEq rfl rfl) ?_) | (refine HL_skip rfl rfl rfl ?_))
                    all_goals first
                      | (refine HL_as (show _ = Value.bool true from bool_eq' (decide_eq_true rfl)) ?_)
                      | (refine HL_as (show _ = Value.bool false from bool_eq' (decide_eq_true rfl)) ?_)
                      | skip
                    all_goals first
                      | (refine HL_r rfl rfl rfl rfl (R_pickT rfl rfl) ?_)
                      | (refine HL_r rfl rfl rfl rfl (R_pickF rfl rfl) ?_)
                    all_goals refine HL_r rfl rfl rfl rfl (R_assign rfl) ?_
                    all_goals refine HL_nil ?_
                    all_goals (
                      refine HQ_then ?_
                      refine hK11 _ _ _ _ ?_; clear hK11 K11
                      refine HC_ret ?_
                      refine HQ_post rfl rfl (.cons (res_tmp rfl) .nil) (fun w1 hs1 => ?_)
                      exact ⟨rfl, hs1.keep⟩
                      skip)
                    skip)
                  skip)
                skip)
              skip)
            skip)
        skip)
      skip)
    skip)
end Go.Proofs.YthfinkklgbiaeaaDoor
