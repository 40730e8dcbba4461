import Derived.Test.YtpognifhchikgaaDoorWo
namespace Go.Proofs.YtpognifhchikgaaDoor
set_option linter.all false
open Go.SL Go.RowKit Go.Shelf
theorem eqz {x : Int} (h : x = 0) : (x == 0) = true := by rw [h]; rfl
theorem nez {x : Int} (h : ¬ x = 0) : (x == 0) = false := by simpa using h
theorem nze {x : Int} (h : x = 0) : (x != 0) = false := by rw [h]; rfl
theorem nzt {x : Int} (h : ¬ x = 0) : (x != 0) = true := by simpa using h
theorem eqC_of {l m : List Nat} (h : l = m) : eqCells (l.map uV) (m.map uV) = true := by rw [h]; exact eqC_self m
theorem nC_of {l m : List Nat} (h : l = m) : (!eqCells (l.map uV) (m.map uV)) = false := by rw [eqC_of h]; rfl
set_option maxRecDepth 10000 in
set_option maxHeartbeats 1000000 in
theorem P_WordTurns {a b : List Nat} (ha : WOk a) (hb : WOk b) : Pure Tryd.prog 6 [wV a, wV b].toArray (.bool true) := by
  refine pure_of_HC Tryd.func6 rfl rfl fun w => ?_
  have hal := ha.1
  have hbl := hb.1
  refine HC_seq fun K1 hK1 => ?_
  refine HC_region ?_
  all_goals refine HL_box (cs := List.toArray _) rfl rfl rfl rfl fun r1 => ?_
  all_goals refine HL_box (cs := List.toArray _) rfl rfl rfl rfl fun r2 => ?_
  all_goals refine HL_r rfl rfl rfl rfl (R_assign rfl) ?_
  all_goals refine HL_nil ?_
  all_goals (
    refine HQ_then ?_
    refine hK1 _ _ _ _ ?_; clear hK1 K1
    refine HC_seq fun K2 hK2 => ?_
    refine HC_region ?_
    all_goals refine HL_callP rfl rfl rfl (enters_of Tryd.func10 (by kernel_rfl) rfl) P_works ?_
    all_goals refine HL_r rfl rfl rfl rfl (R_assign rfl) ?_
    all_goals refine HL_nil ?_
    all_goals (
      refine HQ_then ?_
      refine hK2 _ _ _ _ ?_; clear hK2 K2
      refine HC_seq fun K3 hK3 => ?_
      refine HC_seq fun K4 hK4 => ?_
      refine HC_region ?_
      all_goals refine HL_r rfl rfl rfl rfl (R_move rfl) ?_
      all_goals refine HL_r rfl rfl rfl rfl (R_pure rfl rfl rfl) ?_
      all_goals refine HL_nil ?_
      all_goals (
        refine HQ_then ?_
        refine hK4 _ _ _ _ ?_; clear hK4 K4
        refine HC_cond rfl (fun h5 => ?_) (fun h5 => ?_)
        · try exact Bool.noConfusion h5
          all_goals try simp only [decide_eq_true_eq, decide_eq_false_iff_not, beq_iff_eq, beq_eq_false_iff_ne, bne_iff_ne, bne_eq_false_iff_eq, Bool.not_eq_true', Bool.not_eq_false', ne_eq, Int.not_lt, Int.not_le, ge_iff_le, gt_iff_lt] at h5
          all_goals (
            refine HC_seq fun K6 hK6 => ?_
            refine HC_region ?_
            all_goals refine HL_r rfl rfl rfl rfl (R_assign rfl) ?_
            all_goals refine HL_nil ?_
            all_goals (
              refine HQ_then ?_
              refine hK6 _ _ _ _ ?_; clear hK6 K6
              refine HC_ret ?_
              refine HQ_thenR ?_; clear hK3 K3
              refine HQ_post rfl rfl (.cons (res_tmp rfl) .nil) (fun w1 hs1 => ?_)
              exact ⟨rfl, hs1.keep⟩
              skip)
            skip)
        · try exact Bool.noConfusion h5
          all_goals try simp only [decide_eq_true_eq, decide_eq_false_iff_not, beq_iff_eq, beq_eq_false_iff_ne, bne_iff_ne, bne_eq_false_iff_eq, Bool.not_eq_true', Bool.not_eq_false', ne_eq, Int.not_lt, Int.not_le, ge_iff_le, gt_iff_lt] at h5
          all_goals (
            refine HC_skip ?_
            refine HQ_then ?_
            refine hK3 _ _ _ _ ?_; clear hK3 K3
            refine HC_seq fun K7 hK7 => ?_
            refine HC_region ?_
            all_goals (refine HL_r rfl rfl rfl rfl (R_loadArr (n := 4) rfl (known_L (k := 1) rfl) rfl rfl (by first | (with_reducible (rw [List.length_map]; first | exact hal | exact hbl | exact hcl | exact addR_len _ _ | exact subR_len _ _ | exact unfR_len _ | exact parseR_len _)) | exact rfl)) ?_)
            all_goals (refine HL_r rfl rfl rfl rfl (R_loadArr (n := 4) rfl (known_L (k := 0) rfl) rfl rfl (by first | (with_reducible (rw [List.length_map]; first | exact hal | exact hbl | exact hcl | exact addR_len _ _ | exact subR_len _ _ | exact unfR_len _ | exact parseR_len _)) | exact rfl)) ?_)
            all_goals refine HL_callP rfl rfl rfl (enters_of Tryd.func11 (by kernel_rfl) rfl) (P_word_Add ha hb) ?_
            all_goals refine HL_r rfl rfl rfl rfl (R_move rfl) ?_
            all_goals refine HL_r rfl rfl rfl rfl (R_extract rfl rfl) ?_
            all_goals refine HL_r rfl rfl rfl rfl (R_extract rfl rfl) ?_
            all_goals refine HL_alloc (cs := #[_, _, _, _]) rfl rfl rfl rfl fun r3 => ?_
            all_goals (refine HL_storeArr (k := 0) (n := 4) rfl rfl rfl rfl rfl (by first | (with_reducible (rw [List.length_map]; first | exact hal | exact hbl | exact hcl | exact addR_len _ _ | exact subR_len _ _ | exact unfR_len _ | exact parseR_len _)) | exact rfl) (by first | (with_reducible (rw [List.length_map]; first | exact hal | exact hbl | exact hcl | exact addR_len _ _ | exact subR_len _ _ | exact unfR_len _ | exact parseR_len _)) | exact rfl) (by first | exact mapU_one _ | rfl) rfl ?_)
            all_goals refine HL_r rfl rfl rfl rfl (R_assign rfl) ?_
            all_goals refine HL_nil ?_
            all_goals (
              refine HQ_then ?_
              refine hK7 _ _ _ _ ?_; clear hK7 K7
              refine HC_seq fun K8 hK8 => ?_
              refine HC_region ?_
              all_goals (refine HL_r rfl rfl rfl rfl (R_loadArr (n := 4) rfl (known_L (k := 1) rfl) rfl rfl (by first | (with_reducible (rw [List.length_map]; first | exact hal | exact hbl | exact hcl | exact addR_len _ _ | exact subR_len _ _ | exact unfR_len _ | exact parseR_len _)) | exact rfl)) ?_)
              all_goals (refine HL_r rfl rfl rfl rfl (R_loadArr (n := 4) rfl (known_L (k := 2) rfl) rfl rfl (by first | (with_reducible (rw [List.length_map]; first | exact hal | exact hbl | exact hcl | exact addR_len _ _ | exact subR_len _ _ | exact unfR_len _ | exact parseR_len _)) | exact rfl)) ?_)
              all_goals refine HL_callP rfl rfl rfl (enters_of Tryd.func11 (by kernel_rfl) rfl) (P_word_Add hb ha) ?_; refine HL_as (resE (addR_comm ha hb)) ?_
              all_goals refine HL_r rfl rfl rfl rfl (R_move rfl) ?_
              all_goals refine HL_r rfl rfl rfl rfl (R_extract rfl rfl) ?_
              all_goals refine HL_r rfl rfl rfl rfl (R_extract rfl rfl) ?_
              all_goals refine HL_alloc (cs := #[_, _, _, _]) rfl rfl rfl rfl fun r4 => ?_
              all_goals (refine HL_storeArr (k := 0) (n := 4) rfl rfl rfl rfl rfl (by first | (with_reducible (rw [List.length_map]; first | exact hal | exact hbl | exact hcl | exact addR_len _ _ | exact subR_len _ _ | exact unfR_len _ | exact parseR_len _)) | exact rfl) (by first | (with_reducible (rw [List.length_map]; first | exact hal | exact hbl | exact hcl | exact addR_len _ _ | exact subR_len _ _ | exact unfR_len _ | exact parseR_len _)) | exact rfl) (by first | exact mapU_one _ | rfl) rfl ?_)
              all_goals refine HL_r rfl rfl rfl rfl (R_assign rfl) ?_
              all_goals refine HL_nil ?_
              all_goals (
                refine HQ_then ?_
                refine hK8 _ _ _ _ ?_; clear hK8 K8
                refine HC_seq fun K9 hK9 => ?_
                refine HC_region ?_
                all_goals (refine HL_r rfl rfl rfl rfl (R_loadArr (n := 4) rfl (known_L (k := 1) rfl) rfl rfl (by first | (with_reducible (rw [List.length_map]; first | exact hal | exact hbl | exact hcl | exact addR_len _ _ | exact subR_len _ _ | exact unfR_len _ | exact parseR_len _)) | exact rfl)) ?_)
                all_goals (refine HL_r rfl rfl rfl rfl (R_loadArr (n := 4) rfl (known_L (k := 2) rfl) rfl rfl (by first | (with_reducible (rw [List.length_map]; first | exact hal | exact hbl | exact hcl | exact addR_len _ _ | exact subR_len _ _ | exact unfR_len _ | exact parseR_len _)) | exact rfl)) ?_)
                all_goals refine HL_callP rfl rfl rfl (enters_of Tryd.func13 (by kernel_rfl) rfl) (P_word_Sub (addR_ok a b) hb) ?_
                all_goals refine HL_r rfl rfl rfl rfl (R_move rfl) ?_
                all_goals refine HL_r rfl rfl rfl rfl (R_extract rfl rfl) ?_
                all_goals refine HL_r rfl rfl rfl rfl (R_extract rfl rfl) ?_
                all_goals refine HL_alloc (cs := #[_, _, _, _]) rfl rfl rfl rfl fun r5 => ?_
                all_goals (refine HL_storeArr (k := 0) (n := 4) rfl rfl rfl rfl rfl (by first | (with_reducible (rw [List.length_map]; first | exact hal | exact hbl | exact hcl | exact addR_len _ _ | exact subR_len _ _ | exact unfR_len _ | exact parseR_len _)) | exact rfl) (by first | (with_reducible (rw [List.length_map]; first | exact hal | exact hbl | exact hcl | exact addR_len _ _ | exact subR_len _ _ | exact unfR_len _ | exact parseR_len _)) | exact rfl) (by first | exact mapU_one _ | rfl) rfl ?_)
                all_goals refine HL_r rfl rfl rfl rfl (R_assign rfl) ?_
                all_goals refine HL_nil ?_
                all_goals (
                  refine HQ_then ?_
                  refine hK9 _ _ _ _ ?_; clear hK9 K9
                  refine HC_seq fun K10 hK10 => ?_
                  refine HC_region ?_
                  all_goals (refine HL_r rfl rfl rfl rfl (R_loadArr (n := 4) rfl (known_L (k := 4) rfl) rfl rfl (by first | (with_reducible (rw [List.length_map]; first | exact hal | exact hbl | exact hcl | exact addR_len _ _ | exact subR_len _ _ | exact unfR_len _ | exact parseR_len _)) | exact rfl)) ?_)
                  all_goals (refine HL_r rfl rfl rfl rfl (R_loadArr (n := 4) rfl (known_L (k := 3) rfl) rfl rfl (by first | (with_reducible (rw [List.length_map]; first | exact hal | exact hbl | exact hcl | exact addR_len _ _ | exact subR_len _ _ | exact unfR_len _ | exact parseR_len _)) | exact rfl)) ?_)
                  all_goals refine HL_callP rfl rfl rfl (enters_of Tryd.func13 (by kernel_rfl) rfl) (P_word_Sub ha hb) ?_
                  all_goals refine HL_r rfl rfl rfl rfl (R_move rfl) ?_
                  all_goals refine HL_r rfl rfl rfl rfl (R_extract rfl rfl) ?_
                  all_goals refine HL_r rfl rfl rfl rfl (R_extract rfl rfl) ?_
                  all_goals refine HL_alloc (cs := #[_, _, _, _]) rfl rfl rfl rfl fun r6 => ?_
                  all_goals (refine HL_storeArr (k := 0) (n := 4) rfl rfl rfl rfl rfl (by first | (with_reducible (rw [List.length_map]; first | exact hal | exact hbl | exact hcl | exact addR_len _ _ | exact subR_len _ _ | exact unfR_len _ | exact parseR_len _)) | exact rfl) (by first | (with_reducible (rw [List.length_map]; first | exact hal | exact hbl | exact hcl | exact addR_len _ _ | exact subR_len _ _ | exact unfR_len _ | exact parseR_len _)) | exact rfl) (by first | exact mapU_one _ | rfl) rfl ?_)
                  all_goals refine HL_r rfl rfl rfl rfl (R_assign rfl) ?_
                  all_goals refine HL_nil ?_
                  all_goals (
                    refine HQ_then ?_
                    refine hK10 _ _ _ _ ?_; clear hK10 K10
                    refine HC_seq fun K11 hK11 => ?_
                    refine HC_region ?_
                    all_goals (refine HL_r rfl rfl rfl rfl (R_loadArr (n := 4) rfl (known_L (k := 0) rfl) rfl rfl (by first | (with_reducible (rw [List.length_map]; first | exact hal | exact hbl | exact hcl | exact addR_len _ _ | exact subR_len _ _ | exact unfR_len _ | exact parseR_len _)) | exact rfl)) ?_)
                    all_goals (refine HL_r rfl rfl rfl rfl (R_loadArr (n := 4) rfl (known_L (k := 4) rfl) rfl rfl (by first | (with_reducible (rw [List.length_map]; first | exact hal | exact hbl | exact hcl | exact addR_len _ _ | exact subR_len _ _ | exact unfR_len _ | exact parseR_len _)) | exact rfl)) ?_)
                    all_goals refine HL_callP rfl rfl rfl (enters_of Tryd.func11 (by kernel_rfl) rfl) (P_word_Add (subR_ok a b) hb) ?_
                    all_goals refine HL_r rfl rfl rfl rfl (R_move rfl) ?_
                    all_goals refine HL_r rfl rfl rfl rfl (R_extract rfl rfl) ?_
                    all_goals refine HL_r rfl rfl rfl rfl (R_extract rfl rfl) ?_
                    all_goals refine HL_alloc (cs := #[_, _, _, _]) rfl rfl rfl rfl fun r7 => ?_
                    all_goals (refine HL_storeArr (k := 0) (n := 4) rfl rfl rfl rfl rfl (by first | (with_reducible (rw [List.length_map]; first | exact hal | exact hbl | exact hcl | exact addR_len _ _ | exact subR_len _ _ | exact unfR_len _ | exact parseR_len _)) | exact rfl) (by first | (with_reducible (rw [List.length_map]; first | exact hal | exact hbl | exact hcl | exact addR_len _ _ | exact subR_len _ _ | exact unfR_len _ | exact parseR_len _)) | exact rfl) (by first | exact mapU_one _ | rfl) rfl ?_)
                    all_goals refine HL_r rfl rfl rfl rfl (R_assign rfl) ?_
                    all_goals refine HL_nil ?_
                    all_goals (
                      refine HQ_then ?_
                      refine hK11 _ _ _ _ ?_; clear hK11 K11
                      refine HC_seq fun K12 hK12 => ?_
                      refine HC_seq fun K13 hK13 => ?_
                      refine HC_region ?_
                      all_goals (refine HL_r rfl rfl rfl rfl (R_loadArr (n := 4) rfl (known_L (k := 4) rfl) rfl rfl (by first | (with_reducible (rw [List.length_map]; first | exact hal | exact hbl | exact hcl | exact addR_len _ _ | exact subR_len _ _ | exact unfR_len _ | exact parseR_len _)) | exact rfl)) ?_)
                      all_goals (refine HL_r rfl rfl rfl rfl (R_loadArr (n := 4) rfl (known_L (k := 3) rfl) rfl rfl (by first | (with_reducible (rw [List.length_map]; first | exact hal | exact hbl | exact hcl | exact addR_len _ _ | exact subR_len _ _ | exact unfR_len _ | exact parseR_len _)) | exact rfl)) ?_)
                      all_goals refine HL_r rfl rfl rfl rfl (R_neArr rfl rfl rfl rfl rfl (by kernel_rfl) (by first | (with_reducible (rw [List.length_map]; first | exact hal | exact hbl | exact hcl | exact addR_len _ _ | exact subR_len _ _ | exact unfR_len _ | exact parseR_len _)) | exact rfl) (by first | (with_reducible (rw [List.length_map]; first | exact hal | exact hbl | exact hcl | exact addR_len _ _ | exact subR_len _ _ | exact unfR_len _ | exact parseR_len _)) | exact rfl) (by first | exact scal_mapU rfl _ | rfl) (by first | exact scal_mapU rfl _ | rfl)) ?_
                      all_goals (refine HL_as (show _ = Value.bool false from bool_eq' (nC_of rfl)) ?_)
                      all_goals refine HL_r rfl rfl rfl rfl (R_move rfl) ?_
                      all_goals (refine HL_r rfl rfl rfl rfl (R_move rfl) ?_)
                      all_goals (refine HL_r rfl rfl rfl rfl (R_move rfl) ?_)
                      all_goals (refine HL_r rfl rfl rfl rfl (R_pure rfl rfl rfl) ?_)
                      all_goals (refine HL_as (show _ = Value.bool false from bool_eq' (bne_self_eq_false _)) ?_)
                      all_goals (refine HL_r rfl rfl rfl rfl (R_pickF rfl rfl) ?_)
                      all_goals refine HL_r rfl rfl rfl rfl (R_move rfl) ?_
                      all_goals (refine HL_r rfl rfl rfl rfl (R_move rfl) ?_)
                      all_goals (refine HL_r rfl rfl rfl rfl (R_pure rfl rfl rfl) ?_)
                      all_goals (refine HL_r rfl rfl rfl rfl (R_move rfl) ?_)
                      all_goals (refine HL_case 60 rfl (fun hb20 => ?_) (fun hb20 => ?_) <;> (try simp only [decide_eq_true_eq, decide_eq_false_iff_not, beq_iff_eq, beq_eq_false_iff_ne, bne_iff_ne, bne_eq_false_iff_eq, Bool.not_eq_true', Bool.not_eq_false', ne_eq, Int.not_lt, Int.not_le, ge_iff_le, gt_iff_lt] at hb20) <;> first | (refine HL_r rfl rfl rfl rfl (R_move rfl) ?_) | (refine HL_skip rfl rfl rfl ?_))
                      all_goals first
                        | (refine HL_r rfl rfl rfl rfl (R_pure rfl rfl rfl) ?_)
                        | (refine HL_skip rfl rfl rfl ?_)
                      all_goals first
                        | (refine HL_as (show _ = Value.bool false from bool_eq' (nze (congrArg Prod.snd (addR_subR ha hb (by with_reducible assumption))))) ?_)
                        | skip
                      all_goals first
                        | (refine HL_r rfl rfl rfl rfl (R_move rfl) ?_)
                        | (refine HL_skip rfl rfl rfl ?_)
                      all_goals first
                        | (refine HL_r rfl rfl rfl rfl (R_loadArr (n := 4) rfl (known_L (k := 2) rfl) rfl rfl (by first | (with_reducible (rw [List.length_map]; first | exact hal | exact hbl | exact hcl | exact addR_len _ _ | exact subR_len _ _ | exact unfR_len _ | exact parseR_len _)) | exact rfl)) ?_)
                        | (refine HL_skip rfl rfl rfl ?_)
                      all_goals first
                        | (refine HL_r rfl rfl rfl rfl (R_loadArr (n := 4) rfl (known_L (k := 6) rfl) rfl rfl (by first | (with_reducible (rw [List.length_map]; first | exact hal | exact hbl | exact hcl | exact addR_len _ _ | exact subR_len _ _ | exact unfR_len _ | exact parseR_len _)) | exact rfl)) ?_)
                        | (refine HL_skip rfl rfl rfl ?_)
                      all_goals first
                        | (refine HL_r rfl rfl rfl rfl (R_neArr rfl rfl rfl rfl rfl (by kernel_rfl) (by first | (with_reducible (rw [List.length_map]; first | exact hal | exact hbl | exact hcl | exact addR_len _ _ | exact subR_len _ _ | exact unfR_len _ | exact parseR_len _)) | exact rfl) (by first | (with_reducible (rw [List.length_map]; first | exact hal | exact hbl | exact hcl | exact addR_len _ _ | exact subR_len _ _ | exact unfR_len _ | exact parseR_len _)) | exact rfl) (by first | exact scal_mapU rfl _ | rfl) (by first | exact scal_mapU rfl _ | rfl)) ?_)
                        | (refine HL_skip rfl rfl rfl ?_)
                      all_goals first
                        | (refine HL_as (show _ = Value.bool false from bool_eq' (nC_of (congrArg Prod.fst (addR_subR ha hb (by with_reducible assumption))))) ?_)
                        | skip
                      all_goals first
                        | (refine HL_r rfl rfl rfl rfl (R_pickF rfl rfl) ?_)
                        | (refine HL_skip rfl rfl rfl ?_)
                      all_goals first
                        | (refine HL_r rfl rfl rfl rfl (R_pickT rfl rfl) ?_)
                        | (refine HL_r rfl rfl rfl rfl (R_pickF rfl rfl) ?_)
                      all_goals (refine HL_r rfl rfl rfl rfl (R_pickF rfl rfl) ?_)
                      all_goals refine HL_r rfl rfl rfl rfl (R_move rfl) ?_
                      all_goals (refine HL_r rfl rfl rfl rfl (R_move rfl) ?_)
                      all_goals (refine HL_r rfl rfl rfl rfl (R_pure rfl rfl rfl) ?_)
                      all_goals (refine HL_r rfl rfl rfl rfl (R_move rfl) ?_)
                      all_goals (refine HL_case 73 rfl (fun hb31 => ?_) (fun hb31 => ?_) <;> (try simp only [decide_eq_true_eq, decide_eq_false_iff_not, beq_iff_eq, beq_eq_false_iff_ne, bne_iff_ne, bne_eq_false_iff_eq, Bool.not_eq_true', Bool.not_eq_false', ne_eq, Int.not_lt, Int.not_le, ge_iff_le, gt_iff_lt] at hb31) <;> first | (refine HL_r rfl rfl rfl rfl (R_move rfl) ?_) | (refine HL_skip rfl rfl rfl ?_))
                      all_goals first
                        | (refine HL_r rfl rfl rfl rfl (R_pure rfl rfl rfl) ?_)
                        | (refine HL_skip rfl rfl rfl ?_)
                      all_goals first
                        | (refine HL_as (show _ = Value.bool false from bool_eq' (nze (congrArg Prod.snd (subR_addR ha hb (by with_reducible assumption))))) ?_)
                        | skip
                      all_goals first
                        | (refine HL_r rfl rfl rfl rfl (R_move rfl) ?_)
                        | (refine HL_skip rfl rfl rfl ?_)
                      all_goals first
                        | (refine HL_r rfl rfl rfl rfl (R_loadArr (n := 4) rfl (known_L (k := 0) rfl) rfl rfl (by first | (with_reducible (rw [List.length_map]; first | exact hal | exact hbl | exact hcl | exact addR_len _ _ | exact subR_len _ _ | exact unfR_len _ | exact parseR_len _)) | exact rfl)) ?_)
                        | (refine HL_skip rfl rfl rfl ?_)
                      all_goals first
                        | (refine HL_r rfl rfl rfl rfl (R_loadArr (n := 4) rfl (known_L (k := 6) rfl) rfl rfl (by first | (with_reducible (rw [List.length_map]; first | exact hal | exact hbl | exact hcl | exact addR_len _ _ | exact subR_len _ _ | exact unfR_len _ | exact parseR_len _)) | exact rfl)) ?_)
                        | (refine HL_skip rfl rfl rfl ?_)
                      all_goals first
                        | (refine HL_r rfl rfl rfl rfl (R_neArr rfl rfl rfl rfl rfl (by kernel_rfl) (by first | (with_reducible (rw [List.length_map]; first | exact hal | exact hbl | exact hcl | exact addR_len _ _ | exact subR_len _ _ | exact unfR_len _ | exact parseR_len _)) | exact rfl) (by first | (with_reducible (rw [List.length_map]; first | exact hal | exact hbl | exact hcl | exact addR_len _ _ | exact subR_len _ _ | exact unfR_len _ | exact parseR_len _)) | exact rfl) (by first | exact scal_mapU rfl _ | rfl) (by first | exact scal_mapU rfl _ | rfl)) ?_)
                        | (refine HL_skip rfl rfl rfl ?_)
                      all_goals first
                        | (refine HL_as (show _ = Value.bool false from bool_eq' (nC_of (congrArg Prod.fst (subR_addR ha hb (by with_reducible assumption))))) ?_)
                        | skip
                      all_goals first
                        | (refine HL_r rfl rfl rfl rfl (R_pickF rfl rfl) ?_)
                        | (refine HL_skip rfl rfl rfl ?_)
                      all_goals first
                        | (refine HL_r rfl rfl rfl rfl (R_pickT rfl rfl) ?_)
                        | (refine HL_r rfl rfl rfl rfl (R_pickF rfl rfl) ?_)
                      all_goals (refine HL_r rfl rfl rfl rfl (R_pickF rfl rfl) ?_)
                      all_goals refine HL_nil ?_
                      all_goals (
                        refine HQ_then ?_
                        refine hK13 _ _ _ _ ?_; clear hK13 K13
                        refine HC_cond rfl (fun h39 => ?_) (fun h39 => ?_)
                        · try exact Bool.noConfusion h39
                          all_goals try simp only [decide_eq_true_eq, decide_eq_false_iff_not, beq_iff_eq, beq_eq_false_iff_ne, bne_iff_ne, bne_eq_false_iff_eq, Bool.not_eq_true', Bool.not_eq_false', ne_eq, Int.not_lt, Int.not_le, ge_iff_le, gt_iff_lt] at h39
                          all_goals (
                            refine HC_seq fun K40 hK40 => ?_
                            refine HC_region ?_
                            all_goals refine HL_r rfl rfl rfl rfl (R_assign rfl) ?_
                            all_goals refine HL_nil ?_
                            all_goals (
                              refine HQ_then ?_
                              refine hK40 _ _ _ _ ?_; clear hK40 K40
                              refine HC_ret ?_
                              refine HQ_thenR ?_; clear hK12 K12
                              refine HQ_post rfl rfl (.cons (res_tmp rfl) .nil) (fun w1 hs1 => ?_)
                              exact ⟨rfl, hs1.keep⟩
                              skip)
                            skip)
                        · try exact Bool.noConfusion h39
                          all_goals try simp only [decide_eq_true_eq, decide_eq_false_iff_not, beq_iff_eq, beq_eq_false_iff_ne, bne_iff_ne, bne_eq_false_iff_eq, Bool.not_eq_true', Bool.not_eq_false', ne_eq, Int.not_lt, Int.not_le, ge_iff_le, gt_iff_lt] at h39
                          all_goals (
                            refine HC_skip ?_
                            refine HQ_then ?_
                            refine hK12 _ _ _ _ ?_; clear hK12 K12
                            refine HC_seq fun K41 hK41 => ?_
                            refine HC_region ?_
                            all_goals refine HL_r rfl rfl rfl rfl (R_move rfl) ?_
                            all_goals refine HL_r rfl rfl rfl rfl (R_move rfl) ?_
                            all_goals (refine HL_r rfl rfl rfl rfl (R_move rfl) ?_)
                            all_goals (refine HL_r rfl rfl rfl rfl (R_pure rfl rfl rfl) ?_)
                            all_goals first
                              | (refine HL_as (show _ = Value.bool true from bool_eq' (by first | exact eqz (by with_reducible assumption) | exact nez (by with_reducible assumption))) ?_)
                              | (refine HL_as (show _ = Value.bool false from bool_eq' (by first | exact eqz (by with_reducible assumption) | exact nez (by with_reducible assumption))) ?_)
                            all_goals (refine HL_r rfl rfl rfl rfl (R_loadArr (n := 4) rfl (known_L (k := 6) rfl) rfl rfl (by first | (with_reducible (rw [List.length_map]; first | exact hal | exact hbl | exact hcl | exact addR_len _ _ | exact subR_len _ _ | exact unfR_len _ | exact parseR_len _)) | exact rfl)) ?_)
                            all_goals (refine HL_r rfl rfl rfl rfl (R_loadArr (n := 4) rfl (known_L (k := 5) rfl) rfl rfl (by first | (with_reducible (rw [List.length_map]; first | exact hal | exact hbl | exact hcl | exact addR_len _ _ | exact subR_len _ _ | exact unfR_len _ | exact parseR_len _)) | exact rfl)) ?_)
                            all_goals (refine HL_callP rfl rfl rfl (enters_of Tryd.func18 (by kernel_rfl) rfl) (P_word_Less ha hb) ?_)
                            all_goals refine HL_as (bool_eq' (less_sub ha hb)) ?_
                            all_goals first
                              | (refine HL_as (show _ = Value.bool true from bool_eq' (by first | exact decide_eq_true (by with_reducible assumption) | exact decide_eq_false (fun h => h (by with_reducible assumption)))) ?_)
                              | (refine HL_as (show _ = Value.bool false from bool_eq' (by first | exact decide_eq_true (by with_reducible assumption) | exact decide_eq_false (fun h => h (by with_reducible assumption)))) ?_)
                            all_goals (refine HL_r rfl rfl rfl rfl (R_pure rfl rfl rfl) ?_)
                            all_goals (refine HL_r rfl rfl rfl rfl (R_pure rfl rfl rfl) ?_)
                            all_goals (refine HL_as (show _ = Value.bool true from bool_eq' (rfl)) ?_)
                            all_goals (refine HL_r rfl rfl rfl rfl (R_pickT rfl rfl) ?_)
                            all_goals refine HL_r rfl rfl rfl rfl (R_move rfl) ?_
                            all_goals (refine HL_r rfl rfl rfl rfl (R_move rfl) ?_)
                            all_goals (refine HL_r rfl rfl rfl rfl (R_pure rfl rfl rfl) ?_)
                            all_goals first
                              | (refine HL_as (show _ = Value.bool true from bool_eq' (by first | exact eqz (by with_reducible assumption) | exact nez (by with_reducible assumption))) ?_)
                              | (refine HL_as (show _ = Value.bool false from bool_eq' (by first | exact eqz (by with_reducible assumption) | exact nez (by with_reducible assumption))) ?_)
                            all_goals (refine HL_r rfl rfl rfl rfl (R_move rfl) ?_)
                            all_goals first
                              | (refine HL_r rfl rfl rfl rfl (R_loadArr (n := 4) rfl (known_L (k := 4) rfl) rfl rfl (by first | (with_reducible (rw [List.length_map]; first | exact hal | exact hbl | exact hcl | exact addR_len _ _ | exact subR_len _ _ | exact unfR_len _ | exact parseR_len _)) | exact rfl)) ?_)
                              | (refine HL_skip rfl rfl rfl ?_)
                            all_goals first
                              | (refine HL_r rfl rfl rfl rfl (R_build (r := [_, _, _, _]) rfl rfl) ?_)
                              | (refine HL_skip rfl rfl rfl ?_)
                            all_goals first
                              | (refine HL_r rfl rfl rfl rfl (R_eqArr rfl rfl rfl rfl rfl (by kernel_rfl) (by first | (with_reducible (rw [List.length_map]; first | exact hal | exact hbl | exact hcl | exact addR_len _ _ | exact subR_len _ _ | exact unfR_len _ | exact parseR_len _)) | exact rfl) (by first | (with_reducible (rw [List.length_map]; first | exact hal | exact hbl | exact hcl | exact addR_len _ _ | exact subR_len _ _ | exact unfR_len _ | exact parseR_len _)) | exact rfl) (by first | exact scal_mapU rfl _ | rfl) (by first | exact scal_mapU rfl _ | rfl)) ?_)
                              | (refine HL_skip rfl rfl rfl ?_)
                            all_goals first
                              | (refine HL_as (show _ = Value.bool true from bool_eq' (eqC_of (m := zW) (congrArg Prod.fst (addR_bad ha hb (by with_reducible assumption))))) ?_)
                              | skip
                            all_goals first
                              | (refine HL_r rfl rfl rfl rfl (R_pickT rfl rfl) ?_)
                              | (refine HL_r rfl rfl rfl rfl (R_pickF rfl rfl) ?_)
                            all_goals (refine HL_r rfl rfl rfl rfl (R_pickT rfl rfl) ?_)
                            all_goals refine HL_r rfl rfl rfl rfl (R_move rfl) ?_
                            all_goals (refine HL_r rfl rfl rfl rfl (R_move rfl) ?_)
                            all_goals (refine HL_r rfl rfl rfl rfl (R_pure rfl rfl rfl) ?_)
                            all_goals first
                              | (refine HL_as (show _ = Value.bool true from bool_eq' (by first | exact eqz (by with_reducible assumption) | exact nez (by with_reducible assumption))) ?_)
                              | (refine HL_as (show _ = Value.bool false from bool_eq' (by first | exact eqz (by with_reducible assumption) | exact nez (by with_reducible assumption))) ?_)
                            all_goals (refine HL_r rfl rfl rfl rfl (R_move rfl) ?_)
                            all_goals first
                              | (refine HL_r rfl rfl rfl rfl (R_loadArr (n := 4) rfl (known_L (k := 1) rfl) rfl rfl (by first | (with_reducible (rw [List.length_map]; first | exact hal | exact hbl | exact hcl | exact addR_len _ _ | exact subR_len _ _ | exact unfR_len _ | exact parseR_len _)) | exact rfl)) ?_)
                              | (refine HL_skip rfl rfl rfl ?_)
                            all_goals first
                              | (refine HL_r rfl rfl rfl rfl (R_build (r := [_, _, _, _]) rfl rfl) ?_)
                              | (refine HL_skip rfl rfl rfl ?_)
                            all_goals first
                              | (refine HL_r rfl rfl rfl rfl (R_eqArr rfl rfl rfl rfl rfl (by kernel_rfl) (by first | (with_reducible (rw [List.length_map]; first | exact hal | exact hbl | exact hcl | exact addR_len _ _ | exact subR_len _ _ | exact unfR_len _ | exact parseR_len _)) | exact rfl) (by first | (with_reducible (rw [List.length_map]; first | exact hal | exact hbl | exact hcl | exact addR_len _ _ | exact subR_len _ _ | exact unfR_len _ | exact parseR_len _)) | exact rfl) (by first | exact scal_mapU rfl _ | rfl) (by first | exact scal_mapU rfl _ | rfl)) ?_)
                              | (refine HL_skip rfl rfl rfl ?_)
                            all_goals first
                              | (refine HL_as (show _ = Value.bool true from bool_eq' (eqC_of (m := zW) (congrArg Prod.fst (subR_bad ha hb (by with_reducible assumption))))) ?_)
                              | skip
                            all_goals first
                              | (refine HL_r rfl rfl rfl rfl (R_pickT rfl rfl) ?_)
                              | (refine HL_r rfl rfl rfl rfl (R_pickF rfl rfl) ?_)
                            all_goals (refine HL_r rfl rfl rfl rfl (R_pickT rfl rfl) ?_)
                            all_goals refine HL_r rfl rfl rfl rfl (R_assign rfl) ?_
                            all_goals refine HL_nil ?_
                            all_goals (
                              refine HQ_then ?_
                              refine hK41 _ _ _ _ ?_; clear hK41 K41
                              refine HC_ret ?_
                              refine HQ_post rfl rfl (.cons (res_tmp rfl) .nil) (fun w1 hs1 => ?_)
                              exact ⟨rfl, hs1.keep⟩
                              skip)
                            skip)
                        skip)
                      skip)
                    skip)
                  skip)
                skip)
              skip)
            skip)
        skip)
      skip)
    skip)
set_option maxRecDepth 10000 in
set_option maxHeartbeats 1000000 in
theorem P_WordOrder {a b c : List Nat} (ha : WOk a) (hb : WOk b) (hc : WOk c) : Pure Tryd.prog 7 [wV a, wV b, wV c].toArray (.bool true) := by
  refine pure_of_HC Tryd.func7 rfl rfl fun w => ?_
  have hal := ha.1
  have hbl := hb.1
  have hcl := hc.1
  rcases Nat.lt_trichotomy (wN a) (wN b) with hn | hn | hn
  all_goals (
    refine HC_seq fun K1 hK1 => ?_
    refine HC_region ?_
    all_goals refine HL_box (cs := List.toArray _) rfl rfl rfl rfl fun r1 => ?_
    all_goals refine HL_box (cs := List.toArray _) rfl rfl rfl rfl fun r2 => ?_
    all_goals refine HL_box (cs := List.toArray _) rfl rfl rfl rfl fun r3 => ?_
    all_goals refine HL_r rfl rfl rfl rfl (R_assign rfl) ?_
    all_goals refine HL_nil ?_
    all_goals (
      refine HQ_then ?_
      refine hK1 _ _ _ _ ?_; clear hK1 K1
      refine HC_seq fun K2 hK2 => ?_
      refine HC_region ?_
      all_goals refine HL_callP rfl rfl rfl (enters_of Tryd.func10 (by kernel_rfl) rfl) P_works ?_
      all_goals refine HL_r rfl rfl rfl rfl (R_assign rfl) ?_
      all_goals refine HL_nil ?_
      all_goals (
        refine HQ_then ?_
        refine hK2 _ _ _ _ ?_; clear hK2 K2
        refine HC_seq fun K3 hK3 => ?_
        refine HC_seq fun K4 hK4 => ?_
        refine HC_region ?_
        all_goals refine HL_r rfl rfl rfl rfl (R_move rfl) ?_
        all_goals refine HL_r rfl rfl rfl rfl (R_pure rfl rfl rfl) ?_
        all_goals refine HL_nil ?_
        all_goals (
          refine HQ_then ?_
          refine hK4 _ _ _ _ ?_; clear hK4 K4
          refine HC_cond rfl (fun h5 => ?_) (fun h5 => ?_)
          · try exact Bool.noConfusion h5
            all_goals try simp only [decide_eq_true_eq, decide_eq_false_iff_not, beq_iff_eq, beq_eq_false_iff_ne, bne_iff_ne, bne_eq_false_iff_eq, Bool.not_eq_true', Bool.not_eq_false', ne_eq, Int.not_lt, Int.not_le, ge_iff_le, gt_iff_lt] at h5
            all_goals (
              refine HC_seq fun K6 hK6 => ?_
              refine HC_region ?_
              all_goals refine HL_r rfl rfl rfl rfl (R_assign rfl) ?_
              all_goals refine HL_nil ?_
              all_goals (
                refine HQ_then ?_
                refine hK6 _ _ _ _ ?_; clear hK6 K6
                refine HC_ret ?_
                refine HQ_thenR ?_; clear hK3 K3
                refine HQ_post rfl rfl (.cons (res_tmp rfl) .nil) (fun w1 hs1 => ?_)
                exact ⟨rfl, hs1.keep⟩
                skip)
              skip)
          · try exact Bool.noConfusion h5
            all_goals try simp only [decide_eq_true_eq, decide_eq_false_iff_not, beq_iff_eq, beq_eq_false_iff_ne, bne_iff_ne, bne_eq_false_iff_eq, Bool.not_eq_true', Bool.not_eq_false', ne_eq, Int.not_lt, Int.not_le, ge_iff_le, gt_iff_lt] at h5
            all_goals (
              refine HC_skip ?_
              refine HQ_then ?_
              refine hK3 _ _ _ _ ?_; clear hK3 K3
              refine HC_seq fun K7 hK7 => ?_
              refine HC_region ?_
              all_goals (refine HL_r rfl rfl rfl rfl (R_loadArr (n := 4) rfl (known_L (k := 2) rfl) rfl rfl (by first | (with_reducible (rw [List.length_map]; first | exact hal | exact hbl | exact hcl | exact addR_len _ _ | exact subR_len _ _ | exact unfR_len _ | exact parseR_len _)) | exact rfl)) ?_)
              all_goals (refine HL_r rfl rfl rfl rfl (R_loadArr (n := 4) rfl (known_L (k := 1) rfl) rfl rfl (by first | (with_reducible (rw [List.length_map]; first | exact hal | exact hbl | exact hcl | exact addR_len _ _ | exact subR_len _ _ | exact unfR_len _ | exact parseR_len _)) | exact rfl)) ?_)
              all_goals refine HL_callP rfl rfl rfl (enters_of Tryd.func18 (by kernel_rfl) rfl) (P_word_Less ha hb) ?_; refine HL_as (bool_eq' (lessB_eq ha hb)) ?_
              all_goals first
                | (refine HL_as (show _ = Value.bool true from bool_eq' (by first | with_reducible rfl | (exact decide_eq_true (by omega)) | (exact decide_eq_false (by omega)) | (rw [eqC_num ha hb]; first | exact decide_eq_true (by omega) | exact decide_eq_false (by omega)) | (rw [less_bytes ha hb]; first | exact decide_eq_true (by omega) | exact decide_eq_false (by omega)) | exact beq_self_eq_true _ | exact rfl)) ?_)
                | (refine HL_as (show _ = Value.bool false from bool_eq' (by first | with_reducible rfl | (exact decide_eq_true (by omega)) | (exact decide_eq_false (by omega)) | (rw [eqC_num ha hb]; first | exact decide_eq_true (by omega) | exact decide_eq_false (by omega)) | (rw [less_bytes ha hb]; first | exact decide_eq_true (by omega) | exact decide_eq_false (by omega)) | exact beq_self_eq_true _ | exact rfl)) ?_)
              all_goals refine HL_r rfl rfl rfl rfl (R_assign rfl) ?_
              all_goals refine HL_nil ?_
              all_goals (
                refine HQ_then ?_
                refine hK7 _ _ _ _ ?_; clear hK7 K7
                refine HC_seq fun K8 hK8 => ?_
                refine HC_region ?_
                all_goals (refine HL_r rfl rfl rfl rfl (R_loadArr (n := 4) rfl (known_L (k := 1) rfl) rfl rfl (by first | (with_reducible (rw [List.length_map]; first | exact hal | exact hbl | exact hcl | exact addR_len _ _ | exact subR_len _ _ | exact unfR_len _ | exact parseR_len _)) | exact rfl)) ?_)
                all_goals (refine HL_r rfl rfl rfl rfl (R_loadArr (n := 4) rfl (known_L (k := 2) rfl) rfl rfl (by first | (with_reducible (rw [List.length_map]; first | exact hal | exact hbl | exact hcl | exact addR_len _ _ | exact subR_len _ _ | exact unfR_len _ | exact parseR_len _)) | exact rfl)) ?_)
                all_goals refine HL_callP rfl rfl rfl (enters_of Tryd.func18 (by kernel_rfl) rfl) (P_word_Less hb ha) ?_; refine HL_as (bool_eq' (lessB_eq hb ha)) ?_
                all_goals first
                  | (refine HL_as (show _ = Value.bool true from bool_eq' (by first | with_reducible rfl | (exact decide_eq_true (by omega)) | (exact decide_eq_false (by omega)) | (rw [eqC_num ha hb]; first | exact decide_eq_true (by omega) | exact decide_eq_false (by omega)) | (rw [less_bytes ha hb]; first | exact decide_eq_true (by omega) | exact decide_eq_false (by omega)) | exact beq_self_eq_true _ | exact rfl)) ?_)
                  | (refine HL_as (show _ = Value.bool false from bool_eq' (by first | with_reducible rfl | (exact decide_eq_true (by omega)) | (exact decide_eq_false (by omega)) | (rw [eqC_num ha hb]; first | exact decide_eq_true (by omega) | exact decide_eq_false (by omega)) | (rw [less_bytes ha hb]; first | exact decide_eq_true (by omega) | exact decide_eq_false (by omega)) | exact beq_self_eq_true _ | exact rfl)) ?_)
                all_goals refine HL_r rfl rfl rfl rfl (R_assign rfl) ?_
                all_goals refine HL_nil ?_
                all_goals (
                  refine HQ_then ?_
                  refine hK8 _ _ _ _ ?_; clear hK8 K8
                  refine HC_seq fun K9 hK9 => ?_
                  refine HC_draw 45 (by kernel_rfl) (by kernel_rfl) ?_
                  all_goals refine HD_r rfl rfl rfl (R_move rfl) ?_
                  all_goals refine HD_r rfl rfl rfl (R_move rfl) ?_
                  all_goals (refine HD_r rfl rfl rfl (R_move rfl) ?_)
                  all_goals (refine HD_r rfl rfl rfl (R_move rfl) ?_)
                  all_goals first
                    | (refine HD_r rfl rfl rfl (R_move rfl) ?_)
                    | (refine HD_skip rfl rfl rfl ?_)
                  all_goals first
                    | (refine HD_r rfl rfl rfl (R_pickT rfl rfl) ?_)
                    | (refine HD_r rfl rfl rfl (R_pickF rfl rfl) ?_)
                  all_goals (refine HD_r rfl rfl rfl (R_pure rfl rfl rfl) ?_)
                  all_goals (refine HD_r rfl rfl rfl (R_pickT rfl rfl) ?_)
                  all_goals refine HD_r rfl rfl rfl (R_move rfl) ?_
                  all_goals (refine HD_r rfl rfl rfl (R_loadArr (n := 4) rfl (known_L (k := 2) rfl) rfl rfl (by first | (with_reducible (rw [List.length_map]; first | exact hal | exact hbl | exact hcl | exact addR_len _ _ | exact subR_len _ _ | exact unfR_len _ | exact parseR_len _)) | exact rfl)) ?_)
                  all_goals (refine HD_r rfl rfl rfl (R_loadArr (n := 4) rfl (known_L (k := 1) rfl) rfl rfl (by first | (with_reducible (rw [List.length_map]; first | exact hal | exact hbl | exact hcl | exact addR_len _ _ | exact subR_len _ _ | exact unfR_len _ | exact parseR_len _)) | exact rfl)) ?_)
                  all_goals (refine HD_r rfl rfl rfl (R_eqArr rfl rfl rfl rfl rfl (by kernel_rfl) (by first | (with_reducible (rw [List.length_map]; first | exact hal | exact hbl | exact hcl | exact addR_len _ _ | exact subR_len _ _ | exact unfR_len _ | exact parseR_len _)) | exact rfl) (by first | (with_reducible (rw [List.length_map]; first | exact hal | exact hbl | exact hcl | exact addR_len _ _ | exact subR_len _ _ | exact unfR_len _ | exact parseR_len _)) | exact rfl) (by first | exact scal_mapU rfl _ | rfl) (by first | exact scal_mapU rfl _ | rfl)) ?_)
                  all_goals first
                    | (refine HD_as (show _ = Value.bool true from bool_eq' (by first | with_reducible rfl | (exact decide_eq_true (by omega)) | (exact decide_eq_false (by omega)) | (rw [eqC_num ha hb]; first | exact decide_eq_true (by omega) | exact decide_eq_false (by omega)) | (rw [less_bytes ha hb]; first | exact decide_eq_true (by omega) | exact decide_eq_false (by omega)) | exact beq_self_eq_true _ | exact rfl)) ?_)
                    | (refine HD_as (show _ = Value.bool false from bool_eq' (by first | with_reducible rfl | (exact decide_eq_true (by omega)) | (exact decide_eq_false (by omega)) | (rw [eqC_num ha hb]; first | exact decide_eq_true (by omega) | exact decide_eq_false (by omega)) | (rw [less_bytes ha hb]; first | exact decide_eq_true (by omega) | exact decide_eq_false (by omega)) | exact beq_self_eq_true _ | exact rfl)) ?_)
                  all_goals (refine HD_r rfl rfl rfl (R_move rfl) ?_)
                  all_goals (refine HD_r rfl rfl rfl (R_pure rfl rfl rfl) ?_)
                  all_goals (refine HD_r rfl rfl rfl (R_move rfl) ?_)
                  all_goals first
                    | (refine HD_r rfl rfl rfl (R_move rfl) ?_)
                    | (refine HD_skip rfl rfl rfl ?_)
                  all_goals first
                    | (refine HD_r rfl rfl rfl (R_pure rfl rfl rfl) ?_)
                    | (refine HD_skip rfl rfl rfl ?_)
                  all_goals first
                    | (refine HD_r rfl rfl rfl (R_pickT rfl rfl) ?_)
                    | (refine HD_r rfl rfl rfl (R_pickF rfl rfl) ?_)
                  all_goals (refine HD_r rfl rfl rfl (R_pure rfl rfl rfl) ?_)
                  all_goals (refine HD_as (show _ = Value.bool true from bool_eq' (by first | with_reducible rfl | (exact decide_eq_true (by omega)) | (exact decide_eq_false (by omega)) | (rw [eqC_num ha hb]; first | exact decide_eq_true (by omega) | exact decide_eq_false (by omega)) | (rw [less_bytes ha hb]; first | exact decide_eq_true (by omega) | exact decide_eq_false (by omega)) | exact beq_self_eq_true _ | exact rfl)) ?_)
                  all_goals (refine HD_r rfl rfl rfl (R_pickT rfl rfl) ?_)
                  all_goals refine HD_r rfl rfl rfl (R_move rfl) ?_
                  all_goals (refine HD_r rfl rfl rfl (R_move rfl) ?_)
                  all_goals (refine HD_r rfl rfl rfl (R_pure rfl rfl rfl) ?_)
                  all_goals (refine HD_r rfl rfl rfl (R_move rfl) ?_)
                  all_goals first
                    | (refine HD_r rfl rfl rfl (R_loadArr (n := 4) rfl (known_L (k := 1) rfl) rfl rfl (by first | (with_reducible (rw [List.length_map]; first | exact hal | exact hbl | exact hcl | exact addR_len _ _ | exact subR_len _ _ | exact unfR_len _ | exact parseR_len _)) | exact rfl)) ?_)
                    | (refine HD_skip rfl rfl rfl ?_)
                  all_goals first
                    | (refine HD_r rfl rfl rfl (R_loadArr (n := 4) rfl (known_L (k := 0) rfl) rfl rfl (by first | (with_reducible (rw [List.length_map]; first | exact hal | exact hbl | exact hcl | exact addR_len _ _ | exact subR_len _ _ | exact unfR_len _ | exact parseR_len _)) | exact rfl)) ?_)
                    | (refine HD_skip rfl rfl rfl ?_)
                  all_goals first | (refine HD_callP rfl rfl rfl (enters_of Tryd.func18 (by kernel_rfl) rfl) (P_word_Less hb hc) ?_; refine HD_as (bool_eq' (lessB_eq hb hc)) ?_) | refine HD_skip rfl rfl rfl ?_
                  all_goals first
                    | (refine HD_r rfl rfl rfl (R_pure rfl rfl rfl) ?_)
                    | (refine HD_skip rfl rfl rfl ?_)
                  all_goals first
                    | (refine HD_r rfl rfl rfl (R_pickT rfl rfl) ?_)
                    | (refine HD_r rfl rfl rfl (R_pickF rfl rfl) ?_)
                  all_goals (refine HD_r rfl rfl rfl (R_move rfl) ?_)
                  all_goals first
                    | (refine HD_skip rfl rfl rfl ?_)
                    | (refine HD_case 48 rfl (fun hb33 => ?_) (fun hb33 => ?_) <;> (try simp only [decide_eq_true_eq, decide_eq_false_iff_not, beq_iff_eq, beq_eq_false_iff_ne, bne_iff_ne, bne_eq_false_iff_eq, Bool.not_eq_true', Bool.not_eq_false', ne_eq, Int.not_lt, Int.not_le, ge_iff_le, gt_iff_lt] at hb33) <;> first | (refine HD_r rfl rfl rfl (R_loadArr (n := 4) rfl (known_L (k := 0) rfl) rfl rfl (by first | (with_reducible (rw [List.length_map]; first | exact hal | exact hbl | exact hcl | exact addR_len _ _ | exact subR_len _ _ | exact unfR_len _ | exact parseR_len _)) | exact rfl)) ?_) | (refine HD_r rfl rfl rfl (R_loadArr (n := 4) rfl (known_L (k := 1) rfl) rfl rfl (by first | (with_reducible (rw [List.length_map]; first | exact hal | exact hbl | exact hcl | exact addR_len _ _ | exact subR_len _ _ | exact unfR_len _ | exact parseR_len _)) | exact rfl)) ?_) | (refine HD_r rfl rfl rfl (R_loadArr (n := 4) rfl (known_L (k := 2) rfl) rfl rfl (by first | (with_reducible (rw [List.length_map]; first | exact hal | exact hbl | exact hcl | exact addR_len _ _ | exact subR_len _ _ | exact unfR_len _ | exact parseR_len _)) | exact rfl)) ?_) | (refine HD_r rfl rfl rfl (R_loadArr (n := 4) rfl (known_L (k := 3) rfl) rfl rfl (by first | (with_reducible (rw [List.length_map]; first | exact hal | exact hbl | exact hcl | exact addR_len _ _ | exact subR_len _ _ | exact unfR_len _ | exact parseR_len _)) | exact rfl)) ?_) | (refine HD_r rfl rfl rfl (R_loadArr (n := 4) rfl (known_L (k := 4) rfl) rfl rfl (by first | (with_reducible (rw [List.length_map]; first | exact hal | exact hbl | exact hcl | exact addR_len _ _ | exact subR_len _ _ | exact unfR_len _ | exact parseR_len _)) | exact rfl)) ?_) | (refine HD_r rfl rfl rfl (R_loadArr (n := 4) rfl (known_L (k := 5) rfl) rfl rfl (by first | (with_reducible (rw [List.length_map]; first | exact hal | exact hbl | exact hcl | exact addR_len _ _ | exact subR_len _ _ | exact unfR_len _ | exact parseR_len _)) | exact rfl)) ?_) | (refine HD_r rfl rfl rfl (R_loadArr (n := 4) rfl (known_L (k := 6) rfl) rfl rfl (by first | (with_reducible (rw [List.length_map]; first | exact hal | exact hbl | exact hcl | exact addR_len _ _ | exact subR_len _ _ | exact unfR_len _ | exact parseR_len _)) | exact rfl)) ?_) | (refine HD_r rfl rfl rfl (R_loadArr (n := 4) rfl (known_L (k := 7) rfl) rfl rfl (by first | (with_reducible (rw [List.length_map]; first | exact hal | exact hbl | exact hcl | exact addR_len _ _ | exact subR_len _ _ | exact unfR_len _ | exact parseR_len _)) | exact rfl)) ?_) | (refine HD_r rfl rfl rfl (R_loadArr (n := 4) rfl (known_L (k := 8) rfl) rfl rfl (by first | (with_reducible (rw [List.length_map]; first | exact hal | exact hbl | exact hcl | exact addR_len _ _ | exact subR_len _ _ | exact unfR_len _ | exact parseR_len _)) | exact rfl)) ?_) | (refine HD_skip rfl rfl rfl ?_))
                  all_goals first
                    | (refine HD_r rfl rfl rfl (R_loadArr (n := 4) rfl (known_L (k := 0) rfl) rfl rfl (by first | (with_reducible (rw [List.length_map]; first | exact hal | exact hbl | exact hcl | exact addR_len _ _ | exact subR_len _ _ | exact unfR_len _ | exact parseR_len _)) | exact rfl)) ?_)
                    | (refine HD_skip rfl rfl rfl ?_)
                  all_goals first | (refine HD_callP rfl rfl rfl (enters_of Tryd.func18 (by kernel_rfl) rfl) (P_word_Less ha hc) ?_; refine HD_as (bool_eq' (lessB_eq ha hc)) ?_; (first   | (refine HD_as (show _ = Value.bool true from bool_eq' (by first | with_reducible rfl | (exact decide_eq_true (by omega)) | (exact decide_eq_false (by omega)) | (rw [eqC_num ha hb]; first | exact decide_eq_true (by omega) | exact decide_eq_false (by omega)) | (rw [less_bytes ha hb]; first | exact decide_eq_true (by omega) | exact decide_eq_false (by omega)) | exact beq_self_eq_true _ | exact rfl)) ?_)   | (refine HD_as (show _ = Value.bool false from bool_eq' (by first | with_reducible rfl | (exact decide_eq_true (by omega)) | (exact decide_eq_false (by omega)) | (rw [eqC_num ha hb]; first | exact decide_eq_true (by omega) | exact decide_eq_false (by omega)) | (rw [less_bytes ha hb]; first | exact decide_eq_true (by omega) | exact decide_eq_false (by omega)) | exact beq_self_eq_true _ | exact rfl)) ?_))) | refine HD_skip rfl rfl rfl ?_ | (refine HD_case 48 rfl (fun hb0 => ?_) (fun hb0 => ?_) <;> (try simp only [Bool.not_eq_true', Bool.not_eq_false', decide_eq_true_eq, decide_eq_false_iff_not] at hb0) <;> first | (refine HD_callP rfl rfl rfl (enters_of Tryd.func18 (by kernel_rfl) rfl) (P_word_Less ha hc) ?_; refine HD_as (bool_eq' (lessB_eq ha hc)) ?_; (first   | (refine HD_as (show _ = Value.bool true from bool_eq' (by first | with_reducible rfl | (exact decide_eq_true (by omega)) | (exact decide_eq_false (by omega)) | (rw [eqC_num ha hb]; first | exact decide_eq_true (by omega) | exact decide_eq_false (by omega)) | (rw [less_bytes ha hb]; first | exact decide_eq_true (by omega) | exact decide_eq_false (by omega)) | exact beq_self_eq_true _ | exact rfl)) ?_)   | (refine HD_as (show _ = Value.bool false from bool_eq' (by first | with_reducible rfl | (exact decide_eq_true (by omega)) | (exact decide_eq_false (by omega)) | (rw [eqC_num ha hb]; first | exact decide_eq_true (by omega) | exact decide_eq_false (by omega)) | (rw [less_bytes ha hb]; first | exact decide_eq_true (by omega) | exact decide_eq_false (by omega)) | exact beq_self_eq_true _ | exact rfl)) ?_))) | refine HD_skip rfl rfl rfl ?_)
                  all_goals first
                    | (refine HD_r rfl rfl rfl (R_pickT rfl rfl) ?_)
                    | (refine HD_r rfl rfl rfl (R_pickF rfl rfl) ?_)
                  all_goals (refine HD_r rfl rfl rfl (R_pickT rfl rfl) ?_)
                  all_goals refine HD_r rfl rfl rfl (R_move rfl) ?_
                  all_goals (refine HD_r rfl rfl rfl (R_move rfl) ?_)
                  all_goals (refine HD_r rfl rfl rfl (R_loadArr (n := 4) rfl (known_L (k := 2) rfl) rfl rfl (by first | (with_reducible (rw [List.length_map]; first | exact hal | exact hbl | exact hcl | exact addR_len _ _ | exact subR_len _ _ | exact unfR_len _ | exact parseR_len _)) | exact rfl)) ?_)
                  all_goals refine HD_callP rfl rfl rfl (enters_of Tryd.func26 (by kernel_rfl) rfl) (P_word_Fixed ha) ?_
                  all_goals (refine HD_r rfl rfl rfl (R_loadArr (n := 4) rfl (known_L (k := 1) rfl) rfl rfl (by first | (with_reducible (rw [List.length_map]; first | exact hal | exact hbl | exact hcl | exact addR_len _ _ | exact subR_len _ _ | exact unfR_len _ | exact parseR_len _)) | exact rfl)) ?_)
                  all_goals refine HD_callP rfl rfl rfl (enters_of Tryd.func26 (by kernel_rfl) rfl) (P_word_Fixed hb) ?_
                  all_goals (refine HD_r rfl rfl rfl (R_strLt rfl rfl) ?_)
                  all_goals first
                    | (refine HD_as (show _ = Value.bool true from bool_eq' (by first | with_reducible rfl | (exact decide_eq_true (by omega)) | (exact decide_eq_false (by omega)) | (rw [eqC_num ha hb]; first | exact decide_eq_true (by omega) | exact decide_eq_false (by omega)) | (rw [less_bytes ha hb]; first | exact decide_eq_true (by omega) | exact decide_eq_false (by omega)) | exact beq_self_eq_true _ | exact rfl)) ?_)
                    | (refine HD_as (show _ = Value.bool false from bool_eq' (by first | with_reducible rfl | (exact decide_eq_true (by omega)) | (exact decide_eq_false (by omega)) | (rw [eqC_num ha hb]; first | exact decide_eq_true (by omega) | exact decide_eq_false (by omega)) | (rw [less_bytes ha hb]; first | exact decide_eq_true (by omega) | exact decide_eq_false (by omega)) | exact beq_self_eq_true _ | exact rfl)) ?_)
                  all_goals (refine HD_r rfl rfl rfl (R_pure rfl rfl rfl) ?_)
                  all_goals (refine HD_as (show _ = Value.bool true from bool_eq' (by first | with_reducible rfl | (exact decide_eq_true (by omega)) | (exact decide_eq_false (by omega)) | (rw [eqC_num ha hb]; first | exact decide_eq_true (by omega) | exact decide_eq_false (by omega)) | (rw [less_bytes ha hb]; first | exact decide_eq_true (by omega) | exact decide_eq_false (by omega)) | exact beq_self_eq_true _ | exact rfl)) ?_)
                  all_goals (refine HD_r rfl rfl rfl (R_pickT rfl rfl) ?_)
                  all_goals refine HD_r rfl rfl rfl (R_assign rfl) ?_
                  all_goals refine HD_end ?_
                  all_goals refine HL_nil ?_
                  all_goals (
                    refine HQ_then ?_
                    refine hK9 _ _ _ _ ?_; clear hK9 K9
                    refine HC_ret ?_
                    refine HQ_post rfl rfl (.cons (res_tmp rfl) .nil) (fun w1 hs1 => ?_)
                    exact ⟨rfl, hs1.keep⟩
                    skip)
                  skip)
                skip)
              skip)
          skip)
        skip)
      skip)
    skip)
theorem small_key {a : List Nat} (ha : WOk a) : (∃ m, smallV a = .tuple #[uV m, .bool true] ∧ (bytesW a).length ≤ 8 ∧ [m, 0, 0, 0] = a) ∨ (∃ m, smallV a = .tuple #[uV m, .bool false] ∧ 8 < (bytesW a).length ∧ m = 0) := by
  have h := smallB_eq ha
  cases hs : smallB a with
  | true => rw [hs] at h; exact .inl ⟨a.getD 0 0, by unfold smallV; rw [hs]; rfl, of_decide_eq_true h.symm, small_eq hs⟩
  | false => rw [hs] at h; exact .inr ⟨0, by unfold smallV; rw [hs]; rfl, by have := of_decide_eq_false h.symm; omega, rfl⟩
theorem small_n (n : Nat) : smallV [n, 0, 0, 0] = .tuple #[uV n, .bool true] := by unfold smallV; rw [small_of]; rfl
theorem wok_n {n : Nat} (h : n < 18446744073709551616) : WOk [n, 0, 0, 0] := wok4 ⟨h, by decide, by decide, by decide⟩
set_option maxRecDepth 10000 in
set_option maxHeartbeats 1000000 in
theorem P_WordSmall {a : List Nat} (ha : WOk a) {n : Nat} (hn : n < 18446744073709551616) : Pure Tryd.prog 8 [wV a, uV n].toArray (.bool true) := by
  refine pure_of_HC Tryd.func8 rfl rfl fun w => ?_
  have hal := ha.1
  rcases small_key ha with ⟨m, hv, hlen, hm⟩ | ⟨m, hv, hlen, hm⟩
  all_goals (
    refine HC_seq fun K1 hK1 => ?_
    refine HC_region ?_
    all_goals refine HL_box (cs := List.toArray _) rfl rfl rfl rfl fun r1 => ?_
    all_goals refine HL_r rfl rfl rfl rfl (R_assign rfl) ?_
    all_goals refine HL_nil ?_
    all_goals (
      refine HQ_then ?_
      refine hK1 _ _ _ _ ?_; clear hK1 K1
      refine HC_seq fun K2 hK2 => ?_
      refine HC_region ?_
      all_goals refine HL_callP rfl rfl rfl (enters_of Tryd.func10 (by kernel_rfl) rfl) P_works ?_
      all_goals refine HL_r rfl rfl rfl rfl (R_assign rfl) ?_
      all_goals refine HL_nil ?_
      all_goals (
        refine HQ_then ?_
        refine hK2 _ _ _ _ ?_; clear hK2 K2
        refine HC_seq fun K3 hK3 => ?_
        refine HC_seq fun K4 hK4 => ?_
        refine HC_region ?_
        all_goals refine HL_r rfl rfl rfl rfl (R_move rfl) ?_
        all_goals refine HL_r rfl rfl rfl rfl (R_pure rfl rfl rfl) ?_
        all_goals refine HL_nil ?_
        all_goals (
          refine HQ_then ?_
          refine hK4 _ _ _ _ ?_; clear hK4 K4
          refine HC_cond rfl (fun h5 => ?_) (fun h5 => ?_)
          · try exact Bool.noConfusion h5
            all_goals try simp only [decide_eq_true_eq, decide_eq_false_iff_not, beq_iff_eq, beq_eq_false_iff_ne, bne_iff_ne, bne_eq_false_iff_eq, Bool.not_eq_true', Bool.not_eq_false', ne_eq, Int.not_lt, Int.not_le, ge_iff_le, gt_iff_lt] at h5
            all_goals (
              refine HC_seq fun K6 hK6 => ?_
              refine HC_region ?_
              all_goals refine HL_r rfl rfl rfl rfl (R_assign rfl) ?_
              all_goals refine HL_nil ?_
              all_goals (
                refine HQ_then ?_
                refine hK6 _ _ _ _ ?_; clear hK6 K6
                refine HC_ret ?_
                refine HQ_thenR ?_; clear hK3 K3
                refine HQ_post rfl rfl (.cons (res_tmp rfl) .nil) (fun w1 hs1 => ?_)
                exact ⟨rfl, hs1.keep⟩
                skip)
              skip)
          · try exact Bool.noConfusion h5
            all_goals try simp only [decide_eq_true_eq, decide_eq_false_iff_not, beq_iff_eq, beq_eq_false_iff_ne, bne_iff_ne, bne_eq_false_iff_eq, Bool.not_eq_true', Bool.not_eq_false', ne_eq, Int.not_lt, Int.not_le, ge_iff_le, gt_iff_lt] at h5
            all_goals (
              refine HC_skip ?_
              refine HQ_then ?_
              refine hK3 _ _ _ _ ?_; clear hK3 K3
              refine HC_seq fun K7 hK7 => ?_
              refine HC_region ?_
              all_goals (refine HL_r rfl rfl rfl rfl (R_loadArr (n := 4) rfl (known_L (k := 0) rfl) rfl rfl (by first | (with_reducible (rw [List.length_map]; first | exact hal | exact hbl | exact hcl | exact addR_len _ _ | exact subR_len _ _ | exact unfR_len _ | exact parseR_len _)) | exact rfl)) ?_)
              all_goals refine HL_callP rfl rfl rfl (enters_of Tryd.func16 (by kernel_rfl) rfl) (P_word_Small ha) ?_; refine HL_as (hv) ?_
              all_goals refine HL_r rfl rfl rfl rfl (R_move rfl) ?_
              all_goals refine HL_r rfl rfl rfl rfl (R_extract rfl rfl) ?_
              all_goals refine HL_r rfl rfl rfl rfl (R_extract rfl rfl) ?_
              all_goals refine HL_r rfl rfl rfl rfl (R_assign rfl) ?_
              all_goals refine HL_r rfl rfl rfl rfl (R_assign rfl) ?_
              all_goals refine HL_nil ?_
              all_goals (
                refine HQ_then ?_
                refine hK7 _ _ _ _ ?_; clear hK7 K7
                refine HC_seq fun K8 hK8 => ?_
                refine HC_region ?_
                all_goals refine HL_r rfl rfl rfl rfl (R_move rfl) ?_
                all_goals refine HL_callP rfl rfl rfl (enters_of Tryd.func19 (by kernel_rfl) rfl) (P_word_Of n) ?_
                all_goals refine HL_callP rfl rfl rfl (enters_of Tryd.func16 (by kernel_rfl) rfl) (P_word_Small (wok_n hn)) ?_; refine HL_as (small_n n) ?_
                all_goals refine HL_r rfl rfl rfl rfl (R_move rfl) ?_
                all_goals refine HL_r rfl rfl rfl rfl (R_extract rfl rfl) ?_
                all_goals refine HL_r rfl rfl rfl rfl (R_extract rfl rfl) ?_
                all_goals refine HL_r rfl rfl rfl rfl (R_assign rfl) ?_
                all_goals refine HL_r rfl rfl rfl rfl (R_assign rfl) ?_
                all_goals refine HL_nil ?_
                all_goals (
                  refine HQ_then ?_
                  refine hK8 _ _ _ _ ?_; clear hK8 K8
                  refine HC_seq fun K9 hK9 => ?_
                  refine HC_draw 35 (by kernel_rfl) (by kernel_rfl) ?_
                  all_goals refine HD_r rfl rfl rfl (R_move rfl) ?_
                  all_goals refine HD_r rfl rfl rfl (R_move rfl) ?_
                  all_goals (refine HD_r rfl rfl rfl (R_move rfl) ?_)
                  all_goals (refine HD_r rfl rfl rfl (R_loadArr (n := 4) rfl (known_L (k := 0) rfl) rfl rfl (by first | (with_reducible (rw [List.length_map]; first | exact hal | exact hbl | exact hcl | exact addR_len _ _ | exact subR_len _ _ | exact unfR_len _ | exact parseR_len _)) | exact rfl)) ?_)
                  all_goals (refine HD_callP rfl rfl rfl (enters_of Tryd.func27 (by kernel_rfl) rfl) (P_word_Bytes ha) ?_)
                  all_goals (refine HD_r rfl rfl rfl (R_lenBs rfl rfl) ?_)
                  all_goals (refine HD_r rfl rfl rfl (R_pure rfl rfl rfl) ?_)
                  all_goals first
                    | (refine HD_as (show _ = Value.bool true from bool_eq' (by first | with_reducible rfl | (exact decide_eq_true (by omega)) | (exact decide_eq_false (by omega)) | (rw [hm]; exact eqC_self _) | exact beq_self_eq_true _ | exact rfl | (rw [hm]; exact rfl))) ?_)
                    | (refine HD_as (show _ = Value.bool false from bool_eq' (by first | with_reducible rfl | (exact decide_eq_true (by omega)) | (exact decide_eq_false (by omega)) | (rw [hm]; exact eqC_self _) | exact beq_self_eq_true _ | exact rfl | (rw [hm]; exact rfl))) ?_)
                  all_goals (refine HD_r rfl rfl rfl (R_pure rfl rfl rfl) ?_)
                  all_goals (refine HD_as (show _ = Value.bool true from bool_eq' (by first | with_reducible rfl | (exact decide_eq_true (by omega)) | (exact decide_eq_false (by omega)) | (rw [hm]; exact eqC_self _) | exact beq_self_eq_true _ | exact rfl | (rw [hm]; exact rfl))) ?_)
                  all_goals (refine HD_r rfl rfl rfl (R_pickT rfl rfl) ?_)
                  all_goals refine HD_r rfl rfl rfl (R_move rfl) ?_
                  all_goals (refine HD_r rfl rfl rfl (R_move rfl) ?_)
                  all_goals (refine HD_r rfl rfl rfl (R_pure rfl rfl rfl) ?_)
                  all_goals (refine HD_r rfl rfl rfl (R_move rfl) ?_)
                  all_goals first
                    | (refine HD_r rfl rfl rfl (R_move rfl) ?_)
                    | (refine HD_skip rfl rfl rfl ?_)
                  all_goals first | (refine HD_callP rfl rfl rfl (enters_of Tryd.func19 (by kernel_rfl) rfl) (P_word_Of m) ?_) | refine HD_skip rfl rfl rfl ?_
                  all_goals first
                    | (refine HD_r rfl rfl rfl (R_loadArr (n := 4) rfl (known_L (k := 0) rfl) rfl rfl (by first | (with_reducible (rw [List.length_map]; first | exact hal | exact hbl | exact hcl | exact addR_len _ _ | exact subR_len _ _ | exact unfR_len _ | exact parseR_len _)) | exact rfl)) ?_)
                    | (refine HD_skip rfl rfl rfl ?_)
                  all_goals first
                    | (refine HD_r rfl rfl rfl (R_eqArr rfl rfl rfl rfl rfl (by kernel_rfl) (by first | (with_reducible (rw [List.length_map]; first | exact hal | exact hbl | exact hcl | exact addR_len _ _ | exact subR_len _ _ | exact unfR_len _ | exact parseR_len _)) | exact rfl) (by first | (with_reducible (rw [List.length_map]; first | exact hal | exact hbl | exact hcl | exact addR_len _ _ | exact subR_len _ _ | exact unfR_len _ | exact parseR_len _)) | exact rfl) (by first | exact scal_mapU rfl _ | rfl) (by first | exact scal_mapU rfl _ | rfl)) ?_)
                    | (refine HD_skip rfl rfl rfl ?_)
                  all_goals first
                    | (refine HD_as (show _ = Value.bool true from bool_eq' (by first | with_reducible rfl | (exact decide_eq_true (by omega)) | (exact decide_eq_false (by omega)) | (rw [hm]; exact eqC_self _) | exact beq_self_eq_true _ | exact rfl | (rw [hm]; exact rfl))) ?_)
                    | skip
                  all_goals first
                    | (refine HD_r rfl rfl rfl (R_pickT rfl rfl) ?_)
                    | (refine HD_r rfl rfl rfl (R_pickF rfl rfl) ?_)
                  all_goals (refine HD_r rfl rfl rfl (R_pickT rfl rfl) ?_)
                  all_goals refine HD_r rfl rfl rfl (R_move rfl) ?_
                  all_goals (refine HD_r rfl rfl rfl (R_move rfl) ?_)
                  all_goals (refine HD_r rfl rfl rfl (R_move rfl) ?_)
                  all_goals first
                    | (refine HD_r rfl rfl rfl (R_move rfl) ?_)
                    | (refine HD_skip rfl rfl rfl ?_)
                  all_goals first
                    | (refine HD_r rfl rfl rfl (R_pure rfl rfl rfl) ?_)
                    | (refine HD_skip rfl rfl rfl ?_)
                  all_goals first
                    | (refine HD_as (show _ = Value.bool true from bool_eq' (by first | with_reducible rfl | (exact decide_eq_true (by omega)) | (exact decide_eq_false (by omega)) | (rw [hm]; exact eqC_self _) | exact beq_self_eq_true _ | exact rfl | (rw [hm]; exact rfl))) ?_)
                    | skip
                  all_goals first
                    | (refine HD_r rfl rfl rfl (R_pickT rfl rfl) ?_)
                    | (refine HD_r rfl rfl rfl (R_pickF rfl rfl) ?_)
                  all_goals (refine HD_r rfl rfl rfl (R_pickT rfl rfl) ?_)
                  all_goals refine HD_r rfl rfl rfl (R_move rfl) ?_
                  all_goals (refine HD_r rfl rfl rfl (R_move rfl) ?_)
                  all_goals (refine HD_r rfl rfl rfl (R_pickT rfl rfl) ?_)
                  all_goals refine HD_r rfl rfl rfl (R_move rfl) ?_
                  all_goals (refine HD_r rfl rfl rfl (R_move rfl) ?_)
                  all_goals (refine HD_r rfl rfl rfl (R_move rfl) ?_)
                  all_goals (refine HD_r rfl rfl rfl (R_pure rfl rfl rfl) ?_)
                  all_goals (refine HD_as (show _ = Value.bool true from bool_eq' (by first | with_reducible rfl | (exact decide_eq_true (by omega)) | (exact decide_eq_false (by omega)) | (rw [hm]; exact eqC_self _) | exact beq_self_eq_true _ | exact rfl | (rw [hm]; exact rfl))) ?_)
                  all_goals (refine HD_r rfl rfl rfl (R_pickT rfl rfl) ?_)
                  all_goals refine HD_r rfl rfl rfl (R_assign rfl) ?_
                  all_goals refine HD_end ?_
                  all_goals refine HL_nil ?_
                  all_goals (
                    refine HQ_then ?_
                    refine hK9 _ _ _ _ ?_; clear hK9 K9
                    refine HC_ret ?_
                    refine HQ_post rfl rfl (.cons (res_tmp rfl) .nil) (fun w1 hs1 => ?_)
                    exact ⟨rfl, hs1.keep⟩
                    skip)
                  skip)
                skip)
              skip)
          skip)
        skip)
      skip)
    skip)
set_option maxRecDepth 10000 in
set_option maxHeartbeats 1000000 in
theorem P_WordMany {a b c : List Nat} (ha : WOk a) (hb : WOk b) (hc : WOk c) : Pure Tryd.prog 9 [wV a, wV b, wV c].toArray (.bool true) := by
  refine pure_of_HC Tryd.func9 rfl rfl fun w => ?_
  have hal := ha.1
  have hbl := hb.1
  have hcl := hc.1
  refine HC_seq fun K1 hK1 => ?_
  refine HC_region ?_
  all_goals refine HL_box (cs := List.toArray _) rfl rfl rfl rfl fun r1 => ?_
  all_goals refine HL_box (cs := List.toArray _) rfl rfl rfl rfl fun r2 => ?_
  all_goals refine HL_box (cs := List.toArray _) rfl rfl rfl rfl fun r3 => ?_
  all_goals refine HL_r rfl rfl rfl rfl (R_assign rfl) ?_
  all_goals refine HL_nil ?_
  all_goals (
    refine HQ_then ?_
    refine hK1 _ _ _ _ ?_; clear hK1 K1
    refine HC_seq fun K2 hK2 => ?_
    refine HC_region ?_
    all_goals refine HL_callP rfl rfl rfl (enters_of Tryd.func10 (by kernel_rfl) rfl) P_works ?_
    all_goals refine HL_r rfl rfl rfl rfl (R_assign rfl) ?_
    all_goals refine HL_nil ?_
    all_goals (
      refine HQ_then ?_
      refine hK2 _ _ _ _ ?_; clear hK2 K2
      refine HC_seq fun K3 hK3 => ?_
      refine HC_seq fun K4 hK4 => ?_
      refine HC_region ?_
      all_goals refine HL_r rfl rfl rfl rfl (R_move rfl) ?_
      all_goals refine HL_r rfl rfl rfl rfl (R_pure rfl rfl rfl) ?_
      all_goals refine HL_nil ?_
      all_goals (
        refine HQ_then ?_
        refine hK4 _ _ _ _ ?_; clear hK4 K4
        refine HC_cond rfl (fun h5 => ?_) (fun h5 => ?_)
        · try exact Bool.noConfusion h5
          all_goals try simp only [decide_eq_true_eq, decide_eq_false_iff_not, beq_iff_eq, beq_eq_false_iff_ne, bne_iff_ne, bne_eq_false_iff_eq, Bool.not_eq_true', Bool.not_eq_false', ne_eq, Int.not_lt, Int.not_le, ge_iff_le, gt_iff_lt] at h5
          all_goals (
            refine HC_seq fun K6 hK6 => ?_
            refine HC_region ?_
            all_goals refine HL_r rfl rfl rfl rfl (R_assign rfl) ?_
            all_goals refine HL_nil ?_
            all_goals (
              refine HQ_then ?_
              refine hK6 _ _ _ _ ?_; clear hK6 K6
              refine HC_ret ?_
              refine HQ_thenR ?_; clear hK3 K3
              refine HQ_post rfl rfl (.cons (res_tmp rfl) .nil) (fun w1 hs1 => ?_)
              exact ⟨rfl, hs1.keep⟩
              skip)
            skip)
        · try exact Bool.noConfusion h5
          all_goals try simp only [decide_eq_true_eq, decide_eq_false_iff_not, beq_iff_eq, beq_eq_false_iff_ne, bne_iff_ne, bne_eq_false_iff_eq, Bool.not_eq_true', Bool.not_eq_false', ne_eq, Int.not_lt, Int.not_le, ge_iff_le, gt_iff_lt] at h5
          all_goals (
            refine HC_skip ?_
            refine HQ_then ?_
            refine hK3 _ _ _ _ ?_; clear hK3 K3
            refine HC_seq fun K7 hK7 => ?_
            refine HC_region ?_
            all_goals (refine HL_r rfl rfl rfl rfl (R_loadArr (n := 4) rfl (known_L (k := 2) rfl) rfl rfl (by first | (with_reducible (rw [List.length_map]; first | exact hal | exact hbl | exact hcl | exact addR_len _ _ | exact subR_len _ _ | exact unfR_len _ | exact parseR_len _)) | exact rfl)) ?_)
            all_goals (refine HL_r rfl rfl rfl rfl (R_loadArr (n := 4) rfl (known_L (k := 1) rfl) rfl rfl (by first | (with_reducible (rw [List.length_map]; first | exact hal | exact hbl | exact hcl | exact addR_len _ _ | exact subR_len _ _ | exact unfR_len _ | exact parseR_len _)) | exact rfl)) ?_)
            all_goals refine HL_callP rfl rfl rfl (enters_of Tryd.func11 (by kernel_rfl) rfl) (P_word_Add ha hb) ?_
            all_goals refine HL_r rfl rfl rfl rfl (R_move rfl) ?_
            all_goals refine HL_r rfl rfl rfl rfl (R_extract rfl rfl) ?_
            all_goals refine HL_r rfl rfl rfl rfl (R_extract rfl rfl) ?_
            all_goals refine HL_alloc (cs := #[_, _, _, _]) rfl rfl rfl rfl fun r4 => ?_
            all_goals (refine HL_storeArr (k := 0) (n := 4) rfl rfl rfl rfl rfl (by first | (with_reducible (rw [List.length_map]; first | exact hal | exact hbl | exact hcl | exact addR_len _ _ | exact subR_len _ _ | exact unfR_len _ | exact parseR_len _)) | exact rfl) (by first | (with_reducible (rw [List.length_map]; first | exact hal | exact hbl | exact hcl | exact addR_len _ _ | exact subR_len _ _ | exact unfR_len _ | exact parseR_len _)) | exact rfl) (by first | exact mapU_one _ | rfl) rfl ?_)
            all_goals refine HL_r rfl rfl rfl rfl (R_assign rfl) ?_
            all_goals refine HL_nil ?_
            all_goals (
              refine HQ_then ?_
              refine hK7 _ _ _ _ ?_; clear hK7 K7
              refine HC_seq fun K8 hK8 => ?_
              refine HC_region ?_
              all_goals (refine HL_r rfl rfl rfl rfl (R_loadArr (n := 4) rfl (known_L (k := 0) rfl) rfl rfl (by first | (with_reducible (rw [List.length_map]; first | exact hal | exact hbl | exact hcl | exact addR_len _ _ | exact subR_len _ _ | exact unfR_len _ | exact parseR_len _)) | exact rfl)) ?_)
              all_goals (refine HL_r rfl rfl rfl rfl (R_loadArr (n := 4) rfl (known_L (k := 1) rfl) rfl rfl (by first | (with_reducible (rw [List.length_map]; first | exact hal | exact hbl | exact hcl | exact addR_len _ _ | exact subR_len _ _ | exact unfR_len _ | exact parseR_len _)) | exact rfl)) ?_)
              all_goals refine HL_callP rfl rfl rfl (enters_of Tryd.func11 (by kernel_rfl) rfl) (P_word_Add (addR_ok a b) hc) ?_
              all_goals refine HL_r rfl rfl rfl rfl (R_move rfl) ?_
              all_goals refine HL_r rfl rfl rfl rfl (R_extract rfl rfl) ?_
              all_goals refine HL_r rfl rfl rfl rfl (R_extract rfl rfl) ?_
              all_goals refine HL_alloc (cs := #[_, _, _, _]) rfl rfl rfl rfl fun r5 => ?_
              all_goals (refine HL_storeArr (k := 0) (n := 4) rfl rfl rfl rfl rfl (by first | (with_reducible (rw [List.length_map]; first | exact hal | exact hbl | exact hcl | exact addR_len _ _ | exact subR_len _ _ | exact unfR_len _ | exact parseR_len _)) | exact rfl) (by first | (with_reducible (rw [List.length_map]; first | exact hal | exact hbl | exact hcl | exact addR_len _ _ | exact subR_len _ _ | exact unfR_len _ | exact parseR_len _)) | exact rfl) (by first | exact mapU_one _ | rfl) rfl ?_)
              all_goals refine HL_r rfl rfl rfl rfl (R_assign rfl) ?_
              all_goals refine HL_nil ?_
              all_goals (
                refine HQ_then ?_
                refine hK8 _ _ _ _ ?_; clear hK8 K8
                refine HC_seq fun K9 hK9 => ?_
                refine HC_region ?_
                all_goals (refine HL_r rfl rfl rfl rfl (R_loadArr (n := 4) rfl (known_L (k := 3) rfl) rfl rfl (by first | (with_reducible (rw [List.length_map]; first | exact hal | exact hbl | exact hcl | exact addR_len _ _ | exact subR_len _ _ | exact unfR_len _ | exact parseR_len _)) | exact rfl)) ?_)
                all_goals (refine HL_r rfl rfl rfl rfl (R_loadArr (n := 4) rfl (known_L (k := 2) rfl) rfl rfl (by first | (with_reducible (rw [List.length_map]; first | exact hal | exact hbl | exact hcl | exact addR_len _ _ | exact subR_len _ _ | exact unfR_len _ | exact parseR_len _)) | exact rfl)) ?_)
                all_goals refine HL_callP rfl rfl rfl (enters_of Tryd.func11 (by kernel_rfl) rfl) (P_word_Add hb hc) ?_
                all_goals refine HL_r rfl rfl rfl rfl (R_move rfl) ?_
                all_goals refine HL_r rfl rfl rfl rfl (R_extract rfl rfl) ?_
                all_goals refine HL_r rfl rfl rfl rfl (R_extract rfl rfl) ?_
                all_goals refine HL_alloc (cs := #[_, _, _, _]) rfl rfl rfl rfl fun r6 => ?_
                all_goals (refine HL_storeArr (k := 0) (n := 4) rfl rfl rfl rfl rfl (by first | (with_reducible (rw [List.length_map]; first | exact hal | exact hbl | exact hcl | exact addR_len _ _ | exact subR_len _ _ | exact unfR_len _ | exact parseR_len _)) | exact rfl) (by first | (with_reducible (rw [List.length_map]; first | exact hal | exact hbl | exact hcl | exact addR_len _ _ | exact subR_len _ _ | exact unfR_len _ | exact parseR_len _)) | exact rfl) (by first | exact mapU_one _ | rfl) rfl ?_)
                all_goals refine HL_r rfl rfl rfl rfl (R_assign rfl) ?_
                all_goals refine HL_nil ?_
                all_goals (
                  refine HQ_then ?_
                  refine hK9 _ _ _ _ ?_; clear hK9 K9
                  refine HC_seq fun K10 hK10 => ?_
                  refine HC_region ?_
                  all_goals (refine HL_r rfl rfl rfl rfl (R_loadArr (n := 4) rfl (known_L (k := 5) rfl) rfl rfl (by first | (with_reducible (rw [List.length_map]; first | exact hal | exact hbl | exact hcl | exact addR_len _ _ | exact subR_len _ _ | exact unfR_len _ | exact parseR_len _)) | exact rfl)) ?_)
                  all_goals (refine HL_r rfl rfl rfl rfl (R_loadArr (n := 4) rfl (known_L (k := 0) rfl) rfl rfl (by first | (with_reducible (rw [List.length_map]; first | exact hal | exact hbl | exact hcl | exact addR_len _ _ | exact subR_len _ _ | exact unfR_len _ | exact parseR_len _)) | exact rfl)) ?_)
                  all_goals refine HL_callP rfl rfl rfl (enters_of Tryd.func11 (by kernel_rfl) rfl) (P_word_Add ha (addR_ok b c)) ?_
                  all_goals refine HL_r rfl rfl rfl rfl (R_move rfl) ?_
                  all_goals refine HL_r rfl rfl rfl rfl (R_extract rfl rfl) ?_
                  all_goals refine HL_r rfl rfl rfl rfl (R_extract rfl rfl) ?_
                  all_goals refine HL_alloc (cs := #[_, _, _, _]) rfl rfl rfl rfl fun r7 => ?_
                  all_goals (refine HL_storeArr (k := 0) (n := 4) rfl rfl rfl rfl rfl (by first | (with_reducible (rw [List.length_map]; first | exact hal | exact hbl | exact hcl | exact addR_len _ _ | exact subR_len _ _ | exact unfR_len _ | exact parseR_len _)) | exact rfl) (by first | (with_reducible (rw [List.length_map]; first | exact hal | exact hbl | exact hcl | exact addR_len _ _ | exact subR_len _ _ | exact unfR_len _ | exact parseR_len _)) | exact rfl) (by first | exact mapU_one _ | rfl) rfl ?_)
                  all_goals refine HL_r rfl rfl rfl rfl (R_assign rfl) ?_
                  all_goals refine HL_nil ?_
                  all_goals (
                    refine HQ_then ?_
                    refine hK10 _ _ _ _ ?_; clear hK10 K10
                    refine HC_seq fun K11 hK11 => ?_
                    refine HC_region ?_
                    all_goals refine HL_r rfl rfl rfl rfl (R_move rfl) ?_
                    all_goals refine HL_r rfl rfl rfl rfl (R_pure rfl rfl rfl) ?_
                    all_goals refine HL_r rfl rfl rfl rfl (R_move rfl) ?_
                    all_goals (refine HL_case 47 rfl (fun hb12 => ?_) (fun hb12 => ?_) <;> (try simp only [decide_eq_true_eq, decide_eq_false_iff_not, beq_iff_eq, beq_eq_false_iff_ne, bne_iff_ne, bne_eq_false_iff_eq, Bool.not_eq_true', Bool.not_eq_false', ne_eq, Int.not_lt, Int.not_le, ge_iff_le, gt_iff_lt] at hb12) <;> first | (refine HL_r rfl rfl rfl rfl (R_move rfl) ?_) | (refine HL_skip rfl rfl rfl ?_))
                    all_goals first
                      | (refine HL_r rfl rfl rfl rfl (R_pure rfl rfl rfl) ?_)
                      | (refine HL_skip rfl rfl rfl ?_)
                    all_goals first
                      | (refine HL_r rfl rfl rfl rfl (R_pickT rfl rfl) ?_)
                      | (refine HL_r rfl rfl rfl rfl (R_pickF rfl rfl) ?_)
                    all_goals refine HL_as (show _ = Value.bool (okk a b c) from bool_eq' (by unfold okk; first | (simp [*] <;> fail) | (simp only [*, decide_true, Bool.true_and]; rfl))) ?_
                    all_goals refine HL_r rfl rfl rfl rfl (R_assign rfl) ?_
                    all_goals refine HL_nil ?_
                    all_goals (
                      refine HQ_then ?_
                      refine hK11 _ _ _ _ ?_; clear hK11 K11
                      refine HC_seq fun K14 hK14 => ?_
                      refine HC_region ?_
                      all_goals refine HL_r rfl rfl rfl rfl (R_move rfl) ?_
                      all_goals refine HL_r rfl rfl rfl rfl (R_pure rfl rfl rfl) ?_
                      all_goals refine HL_r rfl rfl rfl rfl (R_move rfl) ?_
                      all_goals (refine HL_case 53 rfl (fun hb15 => ?_) (fun hb15 => ?_) <;> (try simp only [decide_eq_true_eq, decide_eq_false_iff_not, beq_iff_eq, beq_eq_false_iff_ne, bne_iff_ne, bne_eq_false_iff_eq, Bool.not_eq_true', Bool.not_eq_false', ne_eq, Int.not_lt, Int.not_le, ge_iff_le, gt_iff_lt] at hb15) <;> first | (refine HL_r rfl rfl rfl rfl (R_move rfl) ?_) | (refine HL_skip rfl rfl rfl ?_))
                      all_goals first
                        | (refine HL_r rfl rfl rfl rfl (R_pure rfl rfl rfl) ?_)
                        | (refine HL_skip rfl rfl rfl ?_)
                      all_goals first
                        | (refine HL_r rfl rfl rfl rfl (R_pickT rfl rfl) ?_)
                        | (refine HL_r rfl rfl rfl rfl (R_pickF rfl rfl) ?_)
                      all_goals refine HL_as (show _ = Value.bool (okk a b c) from bool_eq' (by rw [okk_eq ha hb hc]; unfold okk'; first | (simp [*] <;> fail) | (simp only [*, decide_true, Bool.true_and]; rfl))) ?_
                      all_goals refine HL_r rfl rfl rfl rfl (R_assign rfl) ?_
                      all_goals refine HL_nil ?_
                      all_goals (
                        refine HQ_then ?_
                        refine hK14 _ _ _ _ ?_; clear hK14 K14
                        refine HC_seq fun K17 hK17 => ?_
                        refine HC_region ?_
                        all_goals refine HL_r rfl rfl rfl rfl (R_move rfl) ?_
                        all_goals refine HL_r rfl rfl rfl rfl (R_move rfl) ?_
                        all_goals (refine HL_r rfl rfl rfl rfl (R_move rfl) ?_)
                        all_goals (refine HL_r rfl rfl rfl rfl (R_move rfl) ?_)
                        all_goals (refine HL_r rfl rfl rfl rfl (R_pure rfl rfl rfl) ?_)
                        all_goals (refine HL_as (show _ = Value.bool true from bool_eq' (by first | with_reducible rfl | exact beq_self_eq_true _ | exact rfl | (rw [many ha hb hc (by with_reducible assumption)]; exact eqC_self _))) ?_)
                        all_goals (refine HL_r rfl rfl rfl rfl (R_pickT rfl rfl) ?_)
                        all_goals refine HL_r rfl rfl rfl rfl (R_move rfl) ?_
                        all_goals (refine HL_r rfl rfl rfl rfl (R_move rfl) ?_)
                        all_goals (refine HL_r rfl rfl rfl rfl (R_pure rfl rfl rfl) ?_)
                        all_goals (refine HL_r rfl rfl rfl rfl (R_move rfl) ?_)
                        all_goals (refine HL_case 66 rfl (fun hb24 => ?_) (fun hb24 => ?_) <;> (try simp only [decide_eq_true_eq, decide_eq_false_iff_not, beq_iff_eq, beq_eq_false_iff_ne, bne_iff_ne, bne_eq_false_iff_eq, Bool.not_eq_true', Bool.not_eq_false', ne_eq, Int.not_lt, Int.not_le, ge_iff_le, gt_iff_lt] at hb24) <;> first | (refine HL_r rfl rfl rfl rfl (R_loadArr (n := 4) rfl (known_L (k := 0) rfl) rfl rfl (by first | (with_reducible (rw [List.length_map]; first | exact hal | exact hbl | exact hcl | exact addR_len _ _ | exact subR_len _ _ | exact unfR_len _ | exact parseR_len _)) | exact rfl)) ?_) | (refine HL_r rfl rfl rfl rfl (R_loadArr (n := 4) rfl (known_L (k := 1) rfl) rfl rfl (by first | (with_reducible (rw [List.length_map]; first | exact hal | exact hbl | exact hcl | exact addR_len _ _ | exact subR_len _ _ | exact unfR_len _ | exact parseR_len _)) | exact rfl)) ?_) | (refine HL_r rfl rfl rfl rfl (R_loadArr (n := 4) rfl (known_L (k := 2) rfl) rfl rfl (by first | (with_reducible (rw [List.length_map]; first | exact hal | exact hbl | exact hcl | exact addR_len _ _ | exact subR_len _ _ | exact unfR_len _ | exact parseR_len _)) | exact rfl)) ?_) | (refine HL_r rfl rfl rfl rfl (R_loadArr (n := 4) rfl (known_L (k := 3) rfl) rfl rfl (by first | (with_reducible (rw [List.length_map]; first | exact hal | exact hbl | exact hcl | exact addR_len _ _ | exact subR_len _ _ | exact unfR_len _ | exact parseR_len _)) | exact rfl)) ?_) | (refine HL_r rfl rfl rfl rfl (R_loadArr (n := 4) rfl (known_L (k := 4) rfl) rfl rfl (by first | (with_reducible (rw [List.length_map]; first | exact hal | exact hbl | exact hcl | exact addR_len _ _ | exact subR_len _ _ | exact unfR_len _ | exact parseR_len _)) | exact rfl)) ?_) | (refine HL_r rfl rfl rfl rfl (R_loadArr (n := 4) rfl (known_L (k := 5) rfl) rfl rfl (by first | (with_reducible (rw [List.length_map]; first | exact hal | exact hbl | exact hcl | exact addR_len _ _ | exact subR_len _ _ | exact unfR_len _ | exact parseR_len _)) | exact rfl)) ?_) | (refine HL_r rfl rfl rfl rfl (R_loadArr (n := 4) rfl (known_L (k := 6) rfl) rfl rfl (by first | (with_reducible (rw [List.length_map]; first | exact hal | exact hbl | exact hcl | exact addR_len _ _ | exact subR_len _ _ | exact unfR_len _ | exact parseR_len _)) | exact rfl)) ?_) | (refine HL_r rfl rfl rfl rfl (R_loadArr (n := 4) rfl (known_L (k := 7) rfl) rfl rfl (by first | (with_reducible (rw [List.length_map]; first | exact hal | exact hbl | exact hcl | exact addR_len _ _ | exact subR_len _ _ | exact unfR_len _ | exact parseR_len _)) | exact rfl)) ?_) | (refine HL_r rfl rfl rfl rfl (R_loadArr (n := 4) rfl (known_L (k := 8) rfl) rfl rfl (by first | (with_reducible (rw [List.length_map]; first | exact hal | exact hbl | exact hcl | exact addR_len _ _ | exact subR_len _ _ | exact unfR_len _ | exact parseR_len _)) | exact rfl)) ?_) | (refine HL_skip rfl rfl rfl ?_))
                        all_goals first
                          | (refine HL_r rfl rfl rfl rfl (R_loadArr (n := 4) rfl (known_L (k := 0) rfl) rfl rfl (by first | (with_reducible (rw [List.length_map]; first | exact hal | exact hbl | exact hcl | exact addR_len _ _ | exact subR_len _ _ | exact unfR_len _ | exact parseR_len _)) | exact rfl)) ?_)
                          | (refine HL_skip rfl rfl rfl ?_)
                        all_goals first
                          | (refine HL_r rfl rfl rfl rfl (R_eqArr rfl rfl rfl rfl rfl (by kernel_rfl) (by first | (with_reducible (rw [List.length_map]; first | exact hal | exact hbl | exact hcl | exact addR_len _ _ | exact subR_len _ _ | exact unfR_len _ | exact parseR_len _)) | exact rfl) (by first | (with_reducible (rw [List.length_map]; first | exact hal | exact hbl | exact hcl | exact addR_len _ _ | exact subR_len _ _ | exact unfR_len _ | exact parseR_len _)) | exact rfl) (by first | exact scal_mapU rfl _ | rfl) (by first | exact scal_mapU rfl _ | rfl)) ?_)
                          | (refine HL_skip rfl rfl rfl ?_)
                        all_goals first
                          | (refine HL_as (show _ = Value.bool true from bool_eq' (by first | with_reducible rfl | exact beq_self_eq_true _ | exact rfl | (rw [many ha hb hc (by with_reducible assumption)]; exact eqC_self _))) ?_)
                          | skip
                        all_goals first
                          | (refine HL_r rfl rfl rfl rfl (R_pickT rfl rfl) ?_)
                          | (refine HL_r rfl rfl rfl rfl (R_pickF rfl rfl) ?_)
                        all_goals (refine HL_r rfl rfl rfl rfl (R_pickT rfl rfl) ?_)
                        all_goals refine HL_r rfl rfl rfl rfl (R_assign rfl) ?_
                        all_goals refine HL_nil ?_
                        all_goals (
                          refine HQ_then ?_
                          refine hK17 _ _ _ _ ?_; clear hK17 K17
                          refine HC_ret ?_
                          refine HQ_post rfl rfl (.cons (res_tmp rfl) .nil) (fun w1 hs1 => ?_)
                          exact ⟨rfl, hs1.keep⟩
                          skip)
                        skip)
                      skip)
                    skip)
                  skip)
                skip)
              skip)
            skip)
        skip)
      skip)
    skip)
end Go.Proofs.YtpognifhchikgaaDoor
