import Derived.Test.YtdadaddakcidjaaDoorWh
namespace Go.Proofs.YtdadaddakcidjaaDoor
set_option linter.all false
open Go.SL Go.RowKit Go.Shelf
def bytesW (l : List Nat) : List UInt8 := Lib.trimLeftB (beD l 32) 0
set_option maxRecDepth 10000 in
theorem P_word_Bytes {l : List Nat} (hl : WOk l) : Pure Tryd.prog 47 [wV l].toArray (.string (bs (bytesW l))) := by
  refine pure_of_HC Tryd.func47 rfl rfl fun w => ?_
  refine HC_seq fun K1 hK1 => ?_
  refine HC_region ?_
  all_goals refine HL_box (cs := (l.map uV).toArray) rfl rfl rfl rfl fun r1 => ?_
  all_goals refine HL_r rfl rfl rfl rfl (R_assign rfl) ?_
  all_goals refine HL_nil ?_
  all_goals (
    refine HQ_then ?_
    refine hK1 _ _ _ _ ?_; clear hK1 K1
    refine HC_seq fun K2 hK2 => ?_
    refine HC_region ?_
    all_goals refine HL_r rfl rfl rfl rfl (R_loadArr (xs := l.map uV) (n := 4) rfl (known_L (k := 0) rfl) rfl rfl (by rw [List.length_map, hl.1])) ?_
    all_goals refine HL_callP rfl rfl rfl (enters_of Tryd.func84 (by kernel_rfl) rfl) (P_word_Fixed hl) ?_
    all_goals refine HL_callP rfl rfl rfl (enters_of Tryd.func83 (by kernel_rfl) rfl) (P_TrimLeft0 (beD l 32)) ?_
    all_goals refine HL_r rfl rfl rfl rfl (R_assign rfl) ?_
    all_goals refine HL_nil ?_
    all_goals (
      refine HQ_then ?_
      refine hK2 _ _ _ _ ?_; clear hK2 K2
      refine HC_ret ?_
      refine HQ_post rfl rfl (.cons (res_tmp rfl) .nil) (fun w1 hs1 => ?_)
      exact ⟨rfl, hs1.keep⟩
      skip)
    skip)
theorem trim_step {t : List UInt8} (h1 : 0 < t.length) (h2 : ((t.getD 0 0).toNat : Int) = 0) : Lib.trimLeftB (t.drop 1) 0 = Lib.trimLeftB t 0 := by
  match t, h1 with
  | x :: t, _ =>
    have hx : x = 0 := by
      have : x.toNat = 0 := by simpa using h2
      exact UInt8.toNat_inj.1 this
    subst hx
    simp [Lib.trimLeftB]
theorem trim_nil {t : List UInt8} (h : ¬ 0 < t.length ∨ ((t.getD 0 0).toNat : Int) ≠ 0) : Lib.trimLeftB t 0 = t := by
  match t, h with
  | [], _ => rfl
  | x :: t, h =>
    have hx : ¬ x = 0 := by
      rintro rfl
      rcases h with h | h
      · simp at h
      · simp at h
    simp [Lib.trimLeftB, hx]
set_option maxRecDepth 10000 in
theorem P_ref_Bytes {l : List Nat} (hl : WOk l) : Pure Tryd.prog 78 [wV l].toArray (.string (bs (bytesW l))) := by
  refine pure_of_HC Tryd.func78 rfl rfl fun w => ?_
  refine HC_seq fun K1 hK1 => ?_
  refine HC_region ?_
  all_goals refine HL_box (cs := (l.map uV).toArray) rfl rfl rfl rfl fun r1 => ?_
  all_goals refine HL_r rfl rfl rfl rfl (R_assign rfl) ?_
  all_goals refine HL_nil ?_
  all_goals (
    refine HQ_then ?_
    refine hK1 _ _ _ _ ?_; clear hK1 K1
    refine HC_seq fun K2 hK2 => ?_
    refine HC_region ?_
    all_goals refine HL_r rfl rfl rfl rfl (R_loadArr (xs := l.map uV) (n := 4) rfl (known_L (k := 0) rfl) rfl rfl (by rw [List.length_map, hl.1])) ?_
    all_goals refine HL_callP rfl rfl rfl (enters_of Tryd.func89 (by kernel_rfl) rfl) (P_ref_Fixed hl) ?_
    all_goals refine HL_r rfl rfl rfl rfl (R_assign rfl) ?_
    all_goals refine HL_nil ?_
    all_goals (
      refine HQ_then ?_
      refine hK2 _ _ _ _ ?_; clear hK2 K2
      refine HC_seq fun K3 hK3 => ?_
      refine HC_block ?_
      refine HC_loop (σ := List UInt8) (fun t => Lib.trimLeftB t 0 = bytesW l) (fun t => [(3, .string (bs t))]) (fun _ => []) (fun _ _ _ => True) (fun t => t.length) (beD l 32) rfl (.cons rfl .nil) (List.nil_sublist _) (fun _ _ h => h) ?_
      intro t ht
      refine HC_seq fun K4 hK4 => ?_
      refine HC_seq fun K5 hK5 => ?_
      refine HC_region ?_
      all_goals refine HL_r rfl rfl rfl rfl (R_move rfl) ?_
      all_goals first
        | (refine HL_r rfl rfl rfl rfl (R_lenBs rfl rfl) ?_)
        | (refine HL_r rfl rfl rfl rfl (R_lenSl rfl rfl) ?_)
        | (refine HL_r rfl rfl rfl rfl (R_lenStr rfl rfl rfl) ?_)
        | (refine HL_r rfl rfl rfl rfl (R_pure rfl rfl rfl) ?_)
      all_goals refine HL_r rfl rfl rfl rfl (R_pure rfl rfl rfl) ?_
      all_goals refine HL_r rfl rfl rfl rfl (R_move rfl) ?_
      all_goals first
        | (refine HL_r rfl rfl rfl rfl (R_move rfl) ?_)
        | (refine HL_skip rfl rfl rfl ?_)
        | (refine HL_case 9 rfl (fun hb6 => ?_) (fun hb6 => ?_) <;> (try simp only [decide_eq_true_eq, decide_eq_false_iff_not, beq_iff_eq, beq_eq_false_iff_ne, bne_iff_ne, bne_eq_false_iff_eq, Bool.not_eq_true', Bool.not_eq_false', ne_eq, Int.not_lt, Int.not_le, ge_iff_le, gt_iff_lt] at hb6) <;> first | (refine HL_r rfl rfl rfl rfl (R_move rfl) ?_) | (refine HL_skip rfl rfl rfl ?_))
      all_goals first | refine HL_r rfl rfl rfl rfl (R_indexBs (j := 0) rfl rfl rfl rfl (by omega) rfl) ?_ | refine HL_skip rfl rfl rfl ?_
      all_goals first
        | (refine HL_r rfl rfl rfl rfl (R_pure rfl rfl rfl) ?_)
        | (refine HL_skip rfl rfl rfl ?_)
        | (refine HL_case 9 rfl (fun hb7 => ?_) (fun hb7 => ?_) <;> (try simp only [decide_eq_true_eq, decide_eq_false_iff_not, beq_iff_eq, beq_eq_false_iff_ne, bne_iff_ne, bne_eq_false_iff_eq, Bool.not_eq_true', Bool.not_eq_false', ne_eq, Int.not_lt, Int.not_le, ge_iff_le, gt_iff_lt] at hb7) <;> first | (refine HL_r rfl rfl rfl rfl (R_pure rfl rfl rfl) ?_) | (refine HL_skip rfl rfl rfl ?_))
      all_goals first
        | (refine HL_r rfl rfl rfl rfl (R_pickT rfl rfl) ?_)
        | (refine HL_r rfl rfl rfl rfl (R_pickF rfl rfl) ?_)
      all_goals refine HL_nil ?_
      all_goals (
        refine HQ_then ?_
        refine hK5 _ _ _ _ ?_; clear hK5 K5
        refine HC_cond rfl (fun h8 => ?_) (fun h8 => ?_)
        · try exact Bool.noConfusion h8
          all_goals try simp only [decide_eq_true_eq, decide_eq_false_iff_not, beq_iff_eq, beq_eq_false_iff_ne, bne_iff_ne, bne_eq_false_iff_eq, Bool.not_eq_true', Bool.not_eq_false', ne_eq, Int.not_lt, Int.not_le, ge_iff_le, gt_iff_lt] at h8
          all_goals (
            refine HC_skip ?_
            refine HQ_then ?_
            refine hK4 _ _ _ _ ?_; clear hK4 K4
            refine HC_block ?_
            refine HC_region ?_
            all_goals refine HL_r rfl rfl rfl rfl (R_move rfl) ?_
            all_goals refine HL_r rfl rfl rfl rfl (R_sliceBs (kl := some (.i64, 1)) (kh := none) (m := 1) (n := t.length) rfl rfl rfl rfl rfl rfl (by omega) (by omega) (show _ = t.drop 1 from by rw [List.take_length])) ?_
            all_goals refine HL_r rfl rfl rfl rfl (R_assign rfl) ?_
            all_goals refine HL_nil ?_
            all_goals (
              refine HQ_blockN ?_
              refine HQ_then ?_
              first
              | (exfalso; omega)
              | exact HQ_again (t.drop 1) ((trim_step (by omega) (by assumption)).trans ht) (by rw [List.length_drop]; omega) (.cons rfl .nil) (List.nil_sublist _) (fun _ _ h => h)
              skip)
            skip)
        · try exact Bool.noConfusion h8
          all_goals try simp only [decide_eq_true_eq, decide_eq_false_iff_not, beq_iff_eq, beq_eq_false_iff_ne, bne_iff_ne, bne_eq_false_iff_eq, Bool.not_eq_true', Bool.not_eq_false', ne_eq, Int.not_lt, Int.not_le, ge_iff_le, gt_iff_lt] at h8
          all_goals (
            refine HC_exit ?_
            refine HQ_thenE ?_; clear hK4 K4
            refine HQ_thenE ?_
            refine HQ_blockE ?_
            refine HQ_then ?_
            refine hK3 _ _ _ _ ?_; clear hK3 K3
            refine HC_seq fun K9 hK9 => ?_
            refine HC_region ?_
            all_goals refine HL_r rfl rfl rfl rfl (R_move rfl) ?_
            all_goals refine HL_r rfl rfl rfl rfl (R_assign rfl) ?_
            all_goals refine HL_nil ?_
            all_goals (
              refine HQ_then ?_
              refine hK9 _ _ _ _ ?_; clear hK9 K9
              refine HC_ret ?_
              refine HQ_post rfl rfl (.cons (res_tmp rfl) .nil) (fun w1 hs1 => ?_)
              refine ⟨?_, hs1.keep⟩
              have hh : Lib.trimLeftB t 0 = t := trim_nil (by first | (left; omega) | (right; assumption))
              rw [← ht, hh]; rfl
              skip)
            skip)
        skip)
      skip)
    skip)
end Go.Proofs.YtdadaddakcidjaaDoor
