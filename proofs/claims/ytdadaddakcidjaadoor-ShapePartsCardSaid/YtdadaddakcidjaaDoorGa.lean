import Derived.Test.YtdadaddakcidjaaDoorProg
import Derived.Test.YtdadaddakcidjaaDoorSli
namespace Go.Proofs.YtdadaddakcidjaaDoor
set_option linter.all false
open Go.SL Go.RowKit Go.Shelf
set_option maxRecDepth 10000 in
theorem S_ref_Types {R : List (Nat × Obj)} {t : Ty} (ht : t.In R) : ∀ most deep : Int, 0 ≤ most → most ≤ 1000 → -1 ≤ deep → deep ≤ 100 → PureR Tryd.prog 20 [t.val, .int .i64 most, .int .i64 deep].toArray (.int .i64 (typN t most deep)) R := by
  induction ht with
  | @mk k n p ins hk hn hl hs hi ih =>
  intro most deep hm0 hm1 hd0 hd1
  refine pureR_of_HC Tryd.func20 rfl rfl fun w => ?_
  refine HC_seq fun K1 hK1 => ?_
  refine HC_region ?_
  all_goals refine HL_box (cs := #[_, _, _]) rfl rfl rfl rfl fun r1 => ?_
  all_goals refine HL_r rfl rfl rfl rfl (R_assign rfl) ?_
  all_goals refine HL_nil ?_
  all_goals (
    refine HQ_then ?_
    refine hK1 _ _ _ _ ?_; clear hK1 K1
    refine HC_seq fun K2 hK2 => ?_
    refine HC_region ?_
    all_goals refine HL_r rfl rfl rfl rfl (R_assign rfl) ?_
    all_goals refine HL_nil ?_
    all_goals (
      refine HQ_then ?_
      refine hK2 _ _ _ _ ?_; clear hK2 K2
      refine HC_seq fun K3 hK3 => ?_
      refine HC_seq fun K4 hK4 => ?_
      refine HC_region ?_
      all_goals refine HL_r rfl rfl rfl rfl (R_move rfl) ?_
      all_goals refine HL_r rfl rfl rfl rfl (R_pure rfl rfl rfl) ?_
      all_goals refine HL_nil ?_
      all_goals (
        refine HQ_then ?_
        refine hK4 _ _ _ _ ?_; clear hK4 K4
        refine HC_cond rfl (fun h5 => ?_) (fun h5 => ?_)
        · try exact Bool.noConfusion h5
          all_goals try simp only [decide_eq_true_eq, decide_eq_false_iff_not, beq_iff_eq, beq_eq_false_iff_ne, bne_iff_ne, bne_eq_false_iff_eq, Bool.not_eq_true', Bool.not_eq_false', ne_eq, Int.not_lt, Int.not_le, ge_iff_le, gt_iff_lt] at h5
          all_goals (
            refine HC_seq fun K6 hK6 => ?_
            refine HC_region ?_
            all_goals refine HL_r rfl rfl rfl rfl (R_move rfl) ?_
            all_goals (refine HL_r rfl rfl rfl rfl (R_pure rfl rfl rfl) ?_; refine HL_wrap_i64 (by omega) (by omega) ?_)
            all_goals refine HL_r rfl rfl rfl rfl (R_assign rfl) ?_
            all_goals refine HL_nil ?_
            all_goals (
              refine HQ_then ?_
              refine hK6 _ _ _ _ ?_; clear hK6 K6
              refine HC_ret ?_
              refine HQ_thenR ?_; clear hK3 K3
              refine HQ_post rfl rfl (.cons (res_tmp rfl) .nil) (fun w1 hs1 => ?_)
              refine ⟨?_, hs1.keep⟩
              first
                | (rw [typN, if_pos (by omega)]; rfl)
                | (rw [typN, if_neg (by omega), ← hinv]; first | (rw [List.drop_of_length_le (by omega), typL]; rfl) | (obtain ⟨y, hy, _⟩ := getI (show i < ins.length by omega); rw [dropI hy, typL, if_neg (by omega)]; rfl))
              skip)
            skip)
        · try exact Bool.noConfusion h5
          all_goals try simp only [decide_eq_true_eq, decide_eq_false_iff_not, beq_iff_eq, beq_eq_false_iff_ne, bne_iff_ne, bne_eq_false_iff_eq, Bool.not_eq_true', Bool.not_eq_false', ne_eq, Int.not_lt, Int.not_le, ge_iff_le, gt_iff_lt] at h5
          all_goals (
            refine HC_skip ?_
            refine HQ_then ?_
            refine hK3 _ _ _ _ ?_; clear hK3 K3
            refine HC_seq fun K7 hK7 => ?_
            refine HC_seq fun K8 hK8 => ?_
            refine HC_region ?_
            all_goals refine HL_r rfl rfl rfl rfl (R_assign rfl) ?_
            all_goals refine HL_nil ?_
            all_goals (
              refine HQ_then ?_
              refine hK8 _ _ _ _ ?_; clear hK8 K8
              refine HC_block ?_
              refine HC_loop (σ := Nat × Int) (fun s => s.1 ≤ ins.length ∧ 1 ≤ s.2 ∧ s.2 ≤ most + 1 ∧ typL (ins.drop s.1) most deep s.2 = typL ins most deep 1) (fun s => [(1, .int .i64 most), (2, .int .i64 deep), (3, .pointer (some ⟨r1, 0, none⟩)), (7, .int .i64 s.2), (8, .int .i64 (s.1 : Int))]) (fun _ => [(r1, .cells #[.int .i64 k, .int .i64 n, plV ins.length p] 24 (0, 0))]) (fun _ _ _ => True) (fun s => ins.length - s.1) (0, 1) ⟨by omega, by omega, by omega, rfl⟩ (.cons rfl (.cons rfl (.cons rfl (.cons rfl (.cons rfl .nil))))) (List.Sublist.refl _) (fun _ _ h => h) ?_
              rintro ⟨i, m⟩ ⟨hi1, hm2, hm3, hinv⟩
              refine HC_seq fun K9 hK9 => ?_
              refine HC_seq fun K10 hK10 => ?_
              refine HC_region ?_
              all_goals refine HL_r rfl rfl rfl rfl (R_move rfl) ?_
              all_goals refine HL_r rfl rfl rfl rfl (R_fieldAddr rfl rfl (by first | (simp only [Nat.zero_add, Nat.reduceAdd, Nat.reduceMul, Nat.zero_mul, Nat.mul_one, Nat.add_zero]; exact rfl) | exact rfl)) ?_
              all_goals (refine HL_r rfl rfl rfl rfl (R_load rfl (known_L (k := 0) rfl) rfl rfl) ?_)
              all_goals refine HL_r rfl rfl rfl rfl (R_lenPl rfl hs rfl) ?_
              all_goals refine HL_r rfl rfl rfl rfl (R_pure rfl rfl rfl) ?_
              all_goals refine HL_r rfl rfl rfl rfl (R_move rfl) ?_
              all_goals (refine HL_case 18 rfl (fun hb11 => ?_) (fun hb11 => ?_) <;> (try simp only [decide_eq_true_eq, decide_eq_false_iff_not, beq_iff_eq, beq_eq_false_iff_ne, bne_iff_ne, bne_eq_false_iff_eq, Bool.not_eq_true', Bool.not_eq_false', ne_eq, Int.not_lt, Int.not_le, ge_iff_le, gt_iff_lt] at hb11) <;> first | (refine HL_r rfl rfl rfl rfl (R_move rfl) ?_) | (refine HL_skip rfl rfl rfl ?_))
              all_goals first
                | (refine HL_r rfl rfl rfl rfl (R_move rfl) ?_)
                | (refine HL_skip rfl rfl rfl ?_)
              all_goals first
                | (refine HL_r rfl rfl rfl rfl (R_pure rfl rfl rfl) ?_)
                | (refine HL_skip rfl rfl rfl ?_)
              all_goals first
                | (refine HL_r rfl rfl rfl rfl (R_pickT rfl rfl) ?_)
                | (refine HL_r rfl rfl rfl rfl (R_pickF rfl rfl) ?_)
              all_goals refine HL_nil ?_
              all_goals (
                refine HQ_then ?_
                refine hK10 _ _ _ _ ?_; clear hK10 K10
                refine HC_cond rfl (fun h14 => ?_) (fun h14 => ?_)
                · try exact Bool.noConfusion h14
                  all_goals try simp only [decide_eq_true_eq, decide_eq_false_iff_not, beq_iff_eq, beq_eq_false_iff_ne, bne_iff_ne, bne_eq_false_iff_eq, Bool.not_eq_true', Bool.not_eq_false', ne_eq, Int.not_lt, Int.not_le, ge_iff_le, gt_iff_lt] at h14
                  all_goals (
                    refine HC_skip ?_
                    refine HQ_then ?_
                    refine hK9 _ _ _ _ ?_; clear hK9 K9
                    refine HC_seq fun K15 hK15 => ?_
                    refine HC_block ?_
                    obtain ⟨y, hy, hmem⟩ := getI (show i < ins.length by omega)
                    have hyb := typN_le y (most - m) (deep - 1) (by omega)
                    rw [dropI hy, typL, if_pos (by omega)] at hinv
                    refine HC_region ?_
                    all_goals refine HL_r rfl rfl rfl rfl (R_move rfl) ?_
                    all_goals refine HL_r rfl rfl rfl rfl (R_fieldAddr rfl rfl (by first | (simp only [Nat.zero_add, Nat.reduceAdd, Nat.reduceMul, Nat.zero_mul, Nat.mul_one, Nat.add_zero]; exact rfl) | exact rfl)) ?_
                    all_goals (refine HL_r rfl rfl rfl rfl (R_load rfl (known_L (k := 0) rfl) rfl rfl) ?_)
                    all_goals refine HL_r rfl rfl rfl rfl (R_move rfl) ?_
                    all_goals refine HL_r rfl rfl rfl rfl (R_indexPl (j := i) rfl hs rfl rfl rfl rfl (by omega)) ?_
                    all_goals refine HL_r rfl rfl rfl rfl (R_loadTy (fun q hq => Or.inr hq) rfl hs hy rfl rfl) ?_
                    all_goals refine HL_r rfl rfl rfl rfl (R_move rfl) ?_
                    all_goals refine HL_r rfl rfl rfl rfl (R_move rfl) ?_
                    all_goals (refine HL_r rfl rfl rfl rfl (R_pure rfl rfl rfl) ?_; refine HL_wrap_i64 (by omega) (by omega) ?_)
                    all_goals refine HL_r rfl rfl rfl rfl (R_move rfl) ?_
                    all_goals (refine HL_r rfl rfl rfl rfl (R_pure rfl rfl rfl) ?_; refine HL_wrap_i64 (by omega) (by omega) ?_)
                    all_goals refine HL_callR rfl rfl rfl (enters_of Tryd.func20 (by kernel_rfl) rfl) (ih y hmem (most - m) (deep - 1) (by omega) (by omega) (by omega) (by omega)) (fun q hq => Or.inr hq) ?_
                    all_goals (refine HL_r rfl rfl rfl rfl (R_pure rfl rfl rfl) ?_; refine HL_wrap_i64 (by omega) (by omega) ?_)
                    all_goals refine HL_r rfl rfl rfl rfl (R_assign rfl) ?_
                    all_goals refine HL_nil ?_
                    all_goals (
                      refine HQ_blockN ?_
                      refine HQ_then ?_
                      refine hK15 _ _ _ _ ?_; clear hK15 K15
                      refine HC_region ?_
                      all_goals refine HL_r rfl rfl rfl rfl (R_move rfl) ?_
                      all_goals (refine HL_r rfl rfl rfl rfl (R_pure rfl rfl rfl) ?_; refine HL_wrap_i64 (by omega) (by omega) ?_)
                      all_goals refine HL_r rfl rfl rfl rfl (R_assign rfl) ?_
                      all_goals refine HL_nil ?_
                      all_goals (
                        refine HQ_then ?_
                        exact HQ_again (i + 1, m + typN y (most - m) (deep - 1)) ⟨by omega, by omega, by omega, hinv⟩ (by simp only; omega) (.cons rfl (.cons rfl (.cons rfl (.cons rfl (.cons rfl .nil))))) (List.Sublist.refl _) (fun _ _ h => h)
                        skip)
                      skip)
                    skip)
                · try exact Bool.noConfusion h14
                  all_goals try simp only [decide_eq_true_eq, decide_eq_false_iff_not, beq_iff_eq, beq_eq_false_iff_ne, bne_iff_ne, bne_eq_false_iff_eq, Bool.not_eq_true', Bool.not_eq_false', ne_eq, Int.not_lt, Int.not_le, ge_iff_le, gt_iff_lt] at h14
                  all_goals (
                    refine HC_exit ?_
                    refine HQ_thenE ?_; clear hK9 K9
                    refine HQ_thenE ?_
                    refine HQ_blockE ?_
                    refine HQ_then ?_
                    refine hK7 _ _ _ _ ?_; clear hK7 K7
                    refine HC_seq fun K16 hK16 => ?_
                    refine HC_region ?_
                    all_goals refine HL_r rfl rfl rfl rfl (R_move rfl) ?_
                    all_goals refine HL_r rfl rfl rfl rfl (R_assign rfl) ?_
                    all_goals refine HL_nil ?_
                    all_goals (
                      refine HQ_then ?_
                      refine hK16 _ _ _ _ ?_; clear hK16 K16
                      refine HC_ret ?_
                      refine HQ_post rfl rfl (.cons (res_tmp rfl) .nil) (fun w1 hs1 => ?_)
                      refine ⟨?_, hs1.keep⟩
                      first
                        | (rw [typN, if_pos (by omega)]; rfl)
                        | (rw [typN, if_neg (by omega), ← hinv]; first | (rw [List.drop_of_length_le (by omega), typL]; rfl) | (obtain ⟨y, hy, _⟩ := getI (show i < ins.length by omega); rw [dropI hy, typL, if_neg (by omega)]; rfl))
                      skip)
                    skip)
                skip)
              skip)
            skip)
        skip)
      skip)
    skip)
set_option maxRecDepth 10000 in
theorem S_ref_Vals {R : List (Nat × Obj)} {t : Vl} (ht : t.In R) : ∀ most deep : Int, 0 ≤ most → most ≤ 1000 → -1 ≤ deep → deep ≤ 100 → PureR Tryd.prog 21 [t.val, .int .i64 most, .int .i64 deep].toArray (.int .i64 (valN t most deep)) R := by
  induction ht with
  | @mk a b c d bits pb items pi pick ha hb hc hd hlb hsb hl hs hp hi ih =>
  intro most deep hm0 hm1 hd0 hd1
  refine pureR_of_HC Tryd.func21 rfl rfl fun w => ?_
  refine HC_seq fun K1 hK1 => ?_
  refine HC_region ?_
  all_goals refine HL_box (cs := #[_, _, _, _, _, _, _]) rfl rfl rfl rfl fun r1 => ?_
  all_goals refine HL_r rfl rfl rfl rfl (R_assign rfl) ?_
  all_goals refine HL_nil ?_
  all_goals (
    refine HQ_then ?_
    refine hK1 _ _ _ _ ?_; clear hK1 K1
    refine HC_seq fun K2 hK2 => ?_
    refine HC_region ?_
    all_goals refine HL_r rfl rfl rfl rfl (R_fieldAddr rfl rfl (by first | (simp only [Nat.zero_add, Nat.reduceAdd, Nat.reduceMul, Nat.zero_mul, Nat.mul_one, Nat.add_zero]; exact rfl) | exact rfl)) ?_
    all_goals (refine HL_r rfl rfl rfl rfl (R_load rfl (known_L (k := 0) rfl) rfl rfl) ?_)
    all_goals refine HL_r rfl rfl rfl rfl (R_lenPl rfl hsb rfl) ?_
    all_goals (refine HL_r rfl rfl rfl rfl (R_pure rfl rfl rfl) ?_; refine HL_quo (by omega) (by omega) (by omega) ?_)
    all_goals (refine HL_r rfl rfl rfl rfl (R_pure rfl rfl rfl) ?_; refine HL_wrap_i64 (by omega) (by omega) ?_)
    all_goals refine HL_r rfl rfl rfl rfl (R_assign rfl) ?_
    all_goals refine HL_nil ?_
    all_goals (
      refine HQ_then ?_
      refine hK2 _ _ _ _ ?_; clear hK2 K2
      refine HC_seq fun K3 hK3 => ?_
      refine HC_seq fun K4 hK4 => ?_
      refine HC_region ?_
      all_goals refine HL_r rfl rfl rfl rfl (R_move rfl) ?_
      all_goals refine HL_r rfl rfl rfl rfl (R_pure rfl rfl rfl) ?_
      all_goals refine HL_r rfl rfl rfl rfl (R_move rfl) ?_
      all_goals (refine HL_case 16 rfl (fun hb5 => ?_) (fun hb5 => ?_) <;> (try simp only [decide_eq_true_eq, decide_eq_false_iff_not, beq_iff_eq, beq_eq_false_iff_ne, bne_iff_ne, bne_eq_false_iff_eq, Bool.not_eq_true', Bool.not_eq_false', ne_eq, Int.not_lt, Int.not_le, ge_iff_le, gt_iff_lt] at hb5) <;> first | (refine HL_r rfl rfl rfl rfl (R_move rfl) ?_) | (refine HL_skip rfl rfl rfl ?_))
      all_goals first
        | (refine HL_r rfl rfl rfl rfl (R_move rfl) ?_)
        | (refine HL_skip rfl rfl rfl ?_)
      all_goals first
        | (refine HL_r rfl rfl rfl rfl (R_pure rfl rfl rfl) ?_)
        | (refine HL_skip rfl rfl rfl ?_)
      all_goals first
        | (refine HL_r rfl rfl rfl rfl (R_pickT rfl rfl) ?_)
        | (refine HL_r rfl rfl rfl rfl (R_pickF rfl rfl) ?_)
      all_goals refine HL_nil ?_
      all_goals (
        refine HQ_then ?_
        refine hK4 _ _ _ _ ?_; clear hK4 K4
        refine HC_cond rfl (fun h8 => ?_) (fun h8 => ?_)
        · try exact Bool.noConfusion h8
          all_goals try simp only [decide_eq_true_eq, decide_eq_false_iff_not, beq_iff_eq, beq_eq_false_iff_ne, bne_iff_ne, bne_eq_false_iff_eq, Bool.not_eq_true', Bool.not_eq_false', ne_eq, Int.not_lt, Int.not_le, ge_iff_le, gt_iff_lt] at h8
          all_goals (
            refine HC_seq fun K9 hK9 => ?_
            refine HC_region ?_
            all_goals refine HL_r rfl rfl rfl rfl (R_move rfl) ?_
            all_goals (refine HL_r rfl rfl rfl rfl (R_pure rfl rfl rfl) ?_; refine HL_wrap_i64 (by omega) (by omega) ?_)
            all_goals refine HL_r rfl rfl rfl rfl (R_assign rfl) ?_
            all_goals refine HL_nil ?_
            all_goals (
              refine HQ_then ?_
              refine hK9 _ _ _ _ ?_; clear hK9 K9
              refine HC_ret ?_
              refine HQ_thenR ?_; clear hK3 K3
              refine HQ_post rfl rfl (.cons (res_tmp rfl) .nil) (fun w1 hs1 => ?_)
              refine ⟨?_, hs1.keep⟩
              first
                | (rw [valN, if_pos (by omega)]; rfl)
                | (rw [valN, if_neg (by omega), show 1 + ((bits.length / 8 : Nat) : Int) = z by omega, ← hinv]; first | (rw [List.drop_of_length_le (by omega), valL]; rfl) | (obtain ⟨y, hy, _⟩ := getI (show i < items.length by omega); rw [dropI hy, valL, if_neg (by omega)]; rfl))
              skip)
            skip)
        · try exact Bool.noConfusion h8
          all_goals try simp only [decide_eq_true_eq, decide_eq_false_iff_not, beq_iff_eq, beq_eq_false_iff_ne, bne_iff_ne, bne_eq_false_iff_eq, Bool.not_eq_true', Bool.not_eq_false', ne_eq, Int.not_lt, Int.not_le, ge_iff_le, gt_iff_lt] at h8
          all_goals (
            refine HC_skip ?_
            refine HQ_then ?_
            refine hK3 _ _ _ _ ?_; clear hK3 K3
            refine HC_seq fun K10 hK10 => ?_
            refine HC_seq fun K11 hK11 => ?_
            refine HC_region ?_
            all_goals refine HL_r rfl rfl rfl rfl (R_assign rfl) ?_
            all_goals refine HL_nil ?_
            all_goals (
              refine HQ_then ?_
              refine hK11 _ _ _ _ ?_; clear hK11 K11
              refine HC_block ?_
              obtain ⟨z, hz⟩ : ∃ z : Int, z = 1 + (bits.length : Int) / 8 := ⟨_, rfl⟩
              refine HC_loop (σ := Nat × Int) (fun s => s.1 ≤ items.length ∧ 1 ≤ s.2 ∧ s.2 ≤ most + 1 ∧ valL (items.drop s.1) most deep s.2 = valL items most deep z) (fun s => [(1, .int .i64 most), (2, .int .i64 deep), (3, .pointer (some ⟨r1, 0, none⟩)), (7, .int .i64 s.2), (8, .int .i64 (s.1 : Int))]) (fun _ => [(r1, .cells #[uV a, uV b, uV c, uV d, plV bits.length pb, plV items.length pi, .int .i64 pick] 31 (0, 0))]) (fun _ _ _ => True) (fun s => items.length - s.1) (0, z) ⟨by omega, by omega, by omega, rfl⟩ (by rw [hz]; exact (.cons rfl (.cons rfl (.cons rfl (.cons rfl (.cons rfl .nil)))))) (List.Sublist.refl _) (fun _ _ h => h) ?_
              rintro ⟨i, m⟩ ⟨hi1, hm2, hm3, hinv⟩
              refine HC_seq fun K12 hK12 => ?_
              refine HC_seq fun K13 hK13 => ?_
              refine HC_region ?_
              all_goals refine HL_r rfl rfl rfl rfl (R_move rfl) ?_
              all_goals refine HL_r rfl rfl rfl rfl (R_fieldAddr rfl rfl (by first | (simp only [Nat.zero_add, Nat.reduceAdd, Nat.reduceMul, Nat.zero_mul, Nat.mul_one, Nat.add_zero]; exact rfl) | exact rfl)) ?_
              all_goals (refine HL_r rfl rfl rfl rfl (R_load rfl (known_L (k := 0) rfl) rfl rfl) ?_)
              all_goals refine HL_r rfl rfl rfl rfl (R_lenPl rfl hs rfl) ?_
              all_goals refine HL_r rfl rfl rfl rfl (R_pure rfl rfl rfl) ?_
              all_goals refine HL_r rfl rfl rfl rfl (R_move rfl) ?_
              all_goals (refine HL_case 28 rfl (fun hb14 => ?_) (fun hb14 => ?_) <;> (try simp only [decide_eq_true_eq, decide_eq_false_iff_not, beq_iff_eq, beq_eq_false_iff_ne, bne_iff_ne, bne_eq_false_iff_eq, Bool.not_eq_true', Bool.not_eq_false', ne_eq, Int.not_lt, Int.not_le, ge_iff_le, gt_iff_lt] at hb14) <;> first | (refine HL_r rfl rfl rfl rfl (R_move rfl) ?_) | (refine HL_skip rfl rfl rfl ?_))
              all_goals first
                | (refine HL_r rfl rfl rfl rfl (R_move rfl) ?_)
                | (refine HL_skip rfl rfl rfl ?_)
              all_goals first
                | (refine HL_r rfl rfl rfl rfl (R_pure rfl rfl rfl) ?_)
                | (refine HL_skip rfl rfl rfl ?_)
              all_goals first
                | (refine HL_r rfl rfl rfl rfl (R_pickT rfl rfl) ?_)
                | (refine HL_r rfl rfl rfl rfl (R_pickF rfl rfl) ?_)
              all_goals refine HL_nil ?_
              all_goals (
                refine HQ_then ?_
                refine hK13 _ _ _ _ ?_; clear hK13 K13
                refine HC_cond rfl (fun h17 => ?_) (fun h17 => ?_)
                · try exact Bool.noConfusion h17
                  all_goals try simp only [decide_eq_true_eq, decide_eq_false_iff_not, beq_iff_eq, beq_eq_false_iff_ne, bne_iff_ne, bne_eq_false_iff_eq, Bool.not_eq_true', Bool.not_eq_false', ne_eq, Int.not_lt, Int.not_le, ge_iff_le, gt_iff_lt] at h17
                  all_goals (
                    refine HC_skip ?_
                    refine HQ_then ?_
                    refine hK12 _ _ _ _ ?_; clear hK12 K12
                    refine HC_seq fun K18 hK18 => ?_
                    refine HC_block ?_
                    obtain ⟨y, hy, hmem⟩ := getI (show i < items.length by omega)
                    have hyb := valN_le y (most - m) (deep - 1) (by omega)
                    rw [dropI hy, valL, if_pos (by omega)] at hinv
                    refine HC_region ?_
                    all_goals refine HL_r rfl rfl rfl rfl (R_move rfl) ?_
                    all_goals refine HL_r rfl rfl rfl rfl (R_fieldAddr rfl rfl (by first | (simp only [Nat.zero_add, Nat.reduceAdd, Nat.reduceMul, Nat.zero_mul, Nat.mul_one, Nat.add_zero]; exact rfl) | exact rfl)) ?_
                    all_goals (refine HL_r rfl rfl rfl rfl (R_load rfl (known_L (k := 0) rfl) rfl rfl) ?_)
                    all_goals refine HL_r rfl rfl rfl rfl (R_move rfl) ?_
                    all_goals refine HL_r rfl rfl rfl rfl (R_indexPl (j := i) rfl hs rfl rfl rfl rfl (by omega)) ?_
                    all_goals refine HL_r rfl rfl rfl rfl (R_loadVl (fun q hq => Or.inr hq) rfl hs hy rfl rfl) ?_
                    all_goals refine HL_r rfl rfl rfl rfl (R_move rfl) ?_
                    all_goals refine HL_r rfl rfl rfl rfl (R_move rfl) ?_
                    all_goals (refine HL_r rfl rfl rfl rfl (R_pure rfl rfl rfl) ?_; refine HL_wrap_i64 (by omega) (by omega) ?_)
                    all_goals refine HL_r rfl rfl rfl rfl (R_move rfl) ?_
                    all_goals (refine HL_r rfl rfl rfl rfl (R_pure rfl rfl rfl) ?_; refine HL_wrap_i64 (by omega) (by omega) ?_)
                    all_goals refine HL_callR rfl rfl rfl (enters_of Tryd.func21 (by kernel_rfl) rfl) (ih y hmem (most - m) (deep - 1) (by omega) (by omega) (by omega) (by omega)) (fun q hq => Or.inr hq) ?_
                    all_goals (refine HL_r rfl rfl rfl rfl (R_pure rfl rfl rfl) ?_; refine HL_wrap_i64 (by omega) (by omega) ?_)
                    all_goals refine HL_r rfl rfl rfl rfl (R_assign rfl) ?_
                    all_goals refine HL_nil ?_
                    all_goals (
                      refine HQ_blockN ?_
                      refine HQ_then ?_
                      refine hK18 _ _ _ _ ?_; clear hK18 K18
                      refine HC_region ?_
                      all_goals refine HL_r rfl rfl rfl rfl (R_move rfl) ?_
                      all_goals (refine HL_r rfl rfl rfl rfl (R_pure rfl rfl rfl) ?_; refine HL_wrap_i64 (by omega) (by omega) ?_)
                      all_goals refine HL_r rfl rfl rfl rfl (R_assign rfl) ?_
                      all_goals refine HL_nil ?_
                      all_goals (
                        refine HQ_then ?_
                        exact HQ_again (i + 1, m + valN y (most - m) (deep - 1)) ⟨by omega, by omega, by omega, hinv⟩ (by simp only; omega) (.cons rfl (.cons rfl (.cons rfl (.cons rfl (.cons rfl .nil))))) (List.Sublist.refl _) (fun _ _ h => h)
                        skip)
                      skip)
                    skip)
                · try exact Bool.noConfusion h17
                  all_goals try simp only [decide_eq_true_eq, decide_eq_false_iff_not, beq_iff_eq, beq_eq_false_iff_ne, bne_iff_ne, bne_eq_false_iff_eq, Bool.not_eq_true', Bool.not_eq_false', ne_eq, Int.not_lt, Int.not_le, ge_iff_le, gt_iff_lt] at h17
                  all_goals (
                    refine HC_exit ?_
                    refine HQ_thenE ?_; clear hK12 K12
                    refine HQ_thenE ?_
                    refine HQ_blockE ?_
                    refine HQ_then ?_
                    refine hK10 _ _ _ _ ?_; clear hK10 K10
                    refine HC_seq fun K19 hK19 => ?_
                    refine HC_region ?_
                    all_goals refine HL_r rfl rfl rfl rfl (R_move rfl) ?_
                    all_goals refine HL_r rfl rfl rfl rfl (R_assign rfl) ?_
                    all_goals refine HL_nil ?_
                    all_goals (
                      refine HQ_then ?_
                      refine hK19 _ _ _ _ ?_; clear hK19 K19
                      refine HC_ret ?_
                      refine HQ_post rfl rfl (.cons (res_tmp rfl) .nil) (fun w1 hs1 => ?_)
                      refine ⟨?_, hs1.keep⟩
                      first
                        | (rw [valN, if_pos (by omega)]; rfl)
                        | (rw [valN, if_neg (by omega), show 1 + ((bits.length / 8 : Nat) : Int) = z by omega, ← hinv]; first | (rw [List.drop_of_length_le (by omega), valL]; rfl) | (obtain ⟨y, hy, _⟩ := getI (show i < items.length by omega); rw [dropI hy, valL, if_neg (by omega)]; rfl))
                      skip)
                    skip)
                skip)
              skip)
            skip)
        skip)
      skip)
    skip)
set_option maxRecDepth 10000 in
theorem S_ref_form {R : List (Nat × Obj)} {k n : Int} {p : Pl} {ins : List Ty} (ht : Ty.In R (.mk k n p ins)) : PureR Tryd.prog 33 [Ty.val (.mk k n p ins)].toArray (.bool (okForm k n ins.length)) R := by
  cases ht with
  | mk hk hn hl hs hi =>
  refine pureR_of_HC Tryd.func33 rfl rfl fun w => ?_
  refine HC_seq fun K1 hK1 => ?_
  refine HC_region ?_
  all_goals refine HL_box (cs := #[_, _, _]) rfl rfl rfl rfl fun r1 => ?_
  all_goals refine HL_r rfl rfl rfl rfl (R_assign rfl) ?_
  all_goals refine HL_nil ?_
  all_goals (
    refine HQ_then ?_
    refine hK1 _ _ _ _ ?_; clear hK1 K1
    refine HC_seq fun K2 hK2 => ?_
    refine HC_seq fun K3 hK3 => ?_
    refine HC_region ?_
    all_goals refine HL_r rfl rfl rfl rfl (R_fieldAddr rfl rfl (by first | (simp only [Nat.zero_add, Nat.reduceAdd, Nat.reduceMul, Nat.zero_mul, Nat.mul_one, Nat.add_zero]; exact rfl) | exact rfl)) ?_
    all_goals refine HL_r rfl rfl rfl rfl (R_load rfl (known_L (k := 0) rfl) rfl rfl) ?_
    all_goals refine HL_nil ?_
    all_goals (
      refine HQ_then ?_
      refine hK3 _ _ _ _ ?_; clear hK3 K3
      refine HC_block ?_
      refine HC_seq fun K4 hK4 => ?_
      refine HC_region ?_
      all_goals refine HL_r rfl rfl rfl rfl (R_pure rfl rfl rfl) ?_
      all_goals refine HL_r rfl rfl rfl rfl (R_assign rfl) ?_
      all_goals refine HL_nil ?_
      all_goals (
        refine HQ_then ?_
        refine hK4 _ _ _ _ ?_; clear hK4 K4
        refine HC_cond rfl (fun h5 => ?_) (fun h5 => ?_)
        · try exact Bool.noConfusion h5
          all_goals try simp only [decide_eq_true_eq, decide_eq_false_iff_not, beq_iff_eq, beq_eq_false_iff_ne, bne_iff_ne, bne_eq_false_iff_eq, Bool.not_eq_true', Bool.not_eq_false', ne_eq, Int.not_lt, Int.not_le, ge_iff_le, gt_iff_lt] at h5
          all_goals (
            refine HC_seq fun K6 hK6 => ?_
            refine HC_region ?_
            all_goals refine HL_r rfl rfl rfl rfl (R_fieldAddr rfl rfl (by first | (simp only [Nat.zero_add, Nat.reduceAdd, Nat.reduceMul, Nat.zero_mul, Nat.mul_one, Nat.add_zero]; exact rfl) | exact rfl)) ?_
            all_goals refine HL_r rfl rfl rfl rfl (R_load rfl (known_L (k := 0) rfl) rfl rfl) ?_
            all_goals (refine HL_r rfl rfl rfl rfl (R_lenPl rfl hs rfl) ?_)
            all_goals refine HL_r rfl rfl rfl rfl (R_pure rfl rfl rfl) ?_
            all_goals refine HL_r rfl rfl rfl rfl (R_move rfl) ?_
            all_goals (refine HL_case 11 rfl (fun hb7 => ?_) (fun hb7 => ?_) <;> (try simp only [decide_eq_true_eq, decide_eq_false_iff_not, beq_iff_eq, beq_eq_false_iff_ne, bne_iff_ne, bne_eq_false_iff_eq, Bool.not_eq_true', Bool.not_eq_false', ne_eq, Int.not_lt, Int.not_le, ge_iff_le, gt_iff_lt] at hb7) <;> first | (refine HL_r rfl rfl rfl rfl (R_fieldAddr rfl rfl (by first | (simp only [Nat.zero_add, Nat.reduceAdd, Nat.reduceMul, Nat.zero_mul, Nat.mul_one, Nat.add_zero]; exact rfl) | exact rfl)) ?_) | (refine HL_skip rfl rfl rfl ?_))
            all_goals first
              | (refine HL_r rfl rfl rfl rfl (R_load rfl (known_L (k := 0) rfl) rfl rfl) ?_)
              | (refine HL_skip rfl rfl rfl ?_)
            all_goals first
              | (refine HL_r rfl rfl rfl rfl (R_pure rfl rfl rfl) ?_)
              | (refine HL_skip rfl rfl rfl ?_)
            all_goals first
              | (refine HL_r rfl rfl rfl rfl (R_move rfl) ?_)
              | (refine HL_skip rfl rfl rfl ?_)
            all_goals first
              | (refine HL_skip rfl rfl rfl ?_)
              | (refine HL_case 15 rfl (fun hb11 => ?_) (fun hb11 => ?_) <;> (try simp only [decide_eq_true_eq, decide_eq_false_iff_not, beq_iff_eq, beq_eq_false_iff_ne, bne_iff_ne, bne_eq_false_iff_eq, Bool.not_eq_true', Bool.not_eq_false', ne_eq, Int.not_lt, Int.not_le, ge_iff_le, gt_iff_lt] at hb11) <;> first | (refine HL_r rfl rfl rfl rfl (R_fieldAddr rfl rfl (by first | (simp only [Nat.zero_add, Nat.reduceAdd, Nat.reduceMul, Nat.zero_mul, Nat.mul_one, Nat.add_zero]; exact rfl) | exact rfl)) ?_) | (refine HL_skip rfl rfl rfl ?_))
            all_goals first
              | (refine HL_r rfl rfl rfl rfl (R_load rfl (known_L (k := 0) rfl) rfl rfl) ?_)
              | (refine HL_skip rfl rfl rfl ?_)
            all_goals first
              | (refine HL_r rfl rfl rfl rfl (R_pure rfl rfl rfl) ?_)
              | (refine HL_skip rfl rfl rfl ?_)
            all_goals first
              | (refine HL_r rfl rfl rfl rfl (R_pickT rfl rfl) ?_)
              | (refine HL_r rfl rfl rfl rfl (R_pickF rfl rfl) ?_)
              | (refine HL_skip rfl rfl rfl ?_)
            all_goals first
              | (refine HL_r rfl rfl rfl rfl (R_move rfl) ?_)
              | (refine HL_skip rfl rfl rfl ?_)
            all_goals first
              | (refine HL_skip rfl rfl rfl ?_)
              | (refine HL_case 20 rfl (fun hb16 => ?_) (fun hb16 => ?_) <;> (try simp only [decide_eq_true_eq, decide_eq_false_iff_not, beq_iff_eq, beq_eq_false_iff_ne, bne_iff_ne, bne_eq_false_iff_eq, Bool.not_eq_true', Bool.not_eq_false', ne_eq, Int.not_lt, Int.not_le, ge_iff_le, gt_iff_lt] at hb16) <;> first | (refine HL_r rfl rfl rfl rfl (R_fieldAddr rfl rfl (by first | (simp only [Nat.zero_add, Nat.reduceAdd, Nat.reduceMul, Nat.zero_mul, Nat.mul_one, Nat.add_zero]; exact rfl) | exact rfl)) ?_) | (refine HL_skip rfl rfl rfl ?_))
            all_goals first
              | (refine HL_r rfl rfl rfl rfl (R_load rfl (known_L (k := 0) rfl) rfl rfl) ?_)
              | (refine HL_skip rfl rfl rfl ?_)
            all_goals first
              | (refine HL_r rfl rfl rfl rfl (R_pure rfl rfl rfl) ?_)
              | (refine HL_skip rfl rfl rfl ?_)
            all_goals first
              | (refine HL_r rfl rfl rfl rfl (R_pickT rfl rfl) ?_)
              | (refine HL_r rfl rfl rfl rfl (R_pickF rfl rfl) ?_)
              | (refine HL_skip rfl rfl rfl ?_)
            all_goals first
              | (refine HL_r rfl rfl rfl rfl (R_move rfl) ?_)
              | (refine HL_skip rfl rfl rfl ?_)
            all_goals first
              | (refine HL_skip rfl rfl rfl ?_)
              | (refine HL_case 25 rfl (fun hb21 => ?_) (fun hb21 => ?_) <;> (try simp only [decide_eq_true_eq, decide_eq_false_iff_not, beq_iff_eq, beq_eq_false_iff_ne, bne_iff_ne, bne_eq_false_iff_eq, Bool.not_eq_true', Bool.not_eq_false', ne_eq, Int.not_lt, Int.not_le, ge_iff_le, gt_iff_lt] at hb21) <;> first | (refine HL_r rfl rfl rfl rfl (R_fieldAddr rfl rfl (by first | (simp only [Nat.zero_add, Nat.reduceAdd, Nat.reduceMul, Nat.zero_mul, Nat.mul_one, Nat.add_zero]; exact rfl) | exact rfl)) ?_) | (refine HL_skip rfl rfl rfl ?_))
            all_goals first
              | (refine HL_r rfl rfl rfl rfl (R_load rfl (known_L (k := 0) rfl) rfl rfl) ?_)
              | (refine HL_skip rfl rfl rfl ?_)
            all_goals first
              | (refine HL_r rfl rfl rfl rfl (R_pure rfl rfl rfl) ?_)
              | (refine HL_skip rfl rfl rfl ?_)
            all_goals first
              | (refine HL_r rfl rfl rfl rfl (R_pickT rfl rfl) ?_)
              | (refine HL_r rfl rfl rfl rfl (R_pickF rfl rfl) ?_)
              | (refine HL_skip rfl rfl rfl ?_)
            all_goals first
              | (refine HL_r rfl rfl rfl rfl (R_move rfl) ?_)
              | (refine HL_skip rfl rfl rfl ?_)
            all_goals first
              | (refine HL_skip rfl rfl rfl ?_)
              | (refine HL_case 30 rfl (fun hb26 => ?_) (fun hb26 => ?_) <;> (try simp only [decide_eq_true_eq, decide_eq_false_iff_not, beq_iff_eq, beq_eq_false_iff_ne, bne_iff_ne, bne_eq_false_iff_eq, Bool.not_eq_true', Bool.not_eq_false', ne_eq, Int.not_lt, Int.not_le, ge_iff_le, gt_iff_lt] at hb26) <;> first | (refine HL_r rfl rfl rfl rfl (R_fieldAddr rfl rfl (by first | (simp only [Nat.zero_add, Nat.reduceAdd, Nat.reduceMul, Nat.zero_mul, Nat.mul_one, Nat.add_zero]; exact rfl) | exact rfl)) ?_) | (refine HL_skip rfl rfl rfl ?_))
            all_goals first
              | (refine HL_r rfl rfl rfl rfl (R_load rfl (known_L (k := 0) rfl) rfl rfl) ?_)
              | (refine HL_skip rfl rfl rfl ?_)
            all_goals first
              | (refine HL_r rfl rfl rfl rfl (R_pure rfl rfl rfl) ?_)
              | (refine HL_skip rfl rfl rfl ?_)
            all_goals first
              | (refine HL_r rfl rfl rfl rfl (R_pickT rfl rfl) ?_)
              | (refine HL_r rfl rfl rfl rfl (R_pickF rfl rfl) ?_)
              | (refine HL_skip rfl rfl rfl ?_)
            all_goals first
              | (refine HL_r rfl rfl rfl rfl (R_pickT rfl rfl) ?_)
              | (refine HL_r rfl rfl rfl rfl (R_pickF rfl rfl) ?_)
            all_goals refine HL_r rfl rfl rfl rfl (R_assign rfl) ?_
            all_goals refine HL_nil ?_
            all_goals (
              refine HQ_then ?_
              refine hK6 _ _ _ _ ?_; clear hK6 K6
              refine HC_ret ?_
              refine HQ_blockR ?_
              refine HQ_thenR ?_; clear hK2 K2
              refine HQ_post rfl rfl (.cons (res_tmp rfl) .nil) (fun w1 hs1 => ?_)
              refine ⟨?_, hs1.keep⟩
              unfold okForm
              simp only [resVal]
              simp_all
              all_goals first | done | rfl | omega | (rw [Bool.eq_iff_iff]; simp only [Bool.and_eq_true, decide_eq_true_eq]; omega)
              skip)
            skip)
        · try exact Bool.noConfusion h5
          all_goals try simp only [decide_eq_true_eq, decide_eq_false_iff_not, beq_iff_eq, beq_eq_false_iff_ne, bne_iff_ne, bne_eq_false_iff_eq, Bool.not_eq_true', Bool.not_eq_false', ne_eq, Int.not_lt, Int.not_le, ge_iff_le, gt_iff_lt] at h5
          all_goals (
            refine HC_seq fun K30 hK30 => ?_
            refine HC_region ?_
            all_goals refine HL_r rfl rfl rfl rfl (R_pure rfl rfl rfl) ?_
            all_goals refine HL_r rfl rfl rfl rfl (R_assign rfl) ?_
            all_goals refine HL_nil ?_
            all_goals (
              refine HQ_then ?_
              refine hK30 _ _ _ _ ?_; clear hK30 K30
              refine HC_cond rfl (fun h31 => ?_) (fun h31 => ?_)
              · try exact Bool.noConfusion h31
                all_goals try simp only [decide_eq_true_eq, decide_eq_false_iff_not, beq_iff_eq, beq_eq_false_iff_ne, bne_iff_ne, bne_eq_false_iff_eq, Bool.not_eq_true', Bool.not_eq_false', ne_eq, Int.not_lt, Int.not_le, ge_iff_le, gt_iff_lt] at h31
                all_goals (
                  refine HC_seq fun K32 hK32 => ?_
                  refine HC_region ?_
                  all_goals refine HL_r rfl rfl rfl rfl (R_fieldAddr rfl rfl (by first | (simp only [Nat.zero_add, Nat.reduceAdd, Nat.reduceMul, Nat.zero_mul, Nat.mul_one, Nat.add_zero]; exact rfl) | exact rfl)) ?_
                  all_goals refine HL_r rfl rfl rfl rfl (R_load rfl (known_L (k := 0) rfl) rfl rfl) ?_
                  all_goals (refine HL_r rfl rfl rfl rfl (R_lenPl rfl hs rfl) ?_)
                  all_goals refine HL_r rfl rfl rfl rfl (R_pure rfl rfl rfl) ?_
                  all_goals refine HL_r rfl rfl rfl rfl (R_move rfl) ?_
                  all_goals (refine HL_case 42 rfl (fun hb33 => ?_) (fun hb33 => ?_) <;> (try simp only [decide_eq_true_eq, decide_eq_false_iff_not, beq_iff_eq, beq_eq_false_iff_ne, bne_iff_ne, bne_eq_false_iff_eq, Bool.not_eq_true', Bool.not_eq_false', ne_eq, Int.not_lt, Int.not_le, ge_iff_le, gt_iff_lt] at hb33) <;> first | (refine HL_r rfl rfl rfl rfl (R_fieldAddr rfl rfl (by first | (simp only [Nat.zero_add, Nat.reduceAdd, Nat.reduceMul, Nat.zero_mul, Nat.mul_one, Nat.add_zero]; exact rfl) | exact rfl)) ?_) | (refine HL_skip rfl rfl rfl ?_))
                  all_goals first
                    | (refine HL_r rfl rfl rfl rfl (R_load rfl (known_L (k := 0) rfl) rfl rfl) ?_)
                    | (refine HL_skip rfl rfl rfl ?_)
                  all_goals first
                    | (refine HL_r rfl rfl rfl rfl (R_pure rfl rfl rfl) ?_)
                    | (refine HL_skip rfl rfl rfl ?_)
                  all_goals first
                    | (refine HL_r rfl rfl rfl rfl (R_pickT rfl rfl) ?_)
                    | (refine HL_r rfl rfl rfl rfl (R_pickF rfl rfl) ?_)
                  all_goals refine HL_r rfl rfl rfl rfl (R_assign rfl) ?_
                  all_goals refine HL_nil ?_
                  all_goals (
                    refine HQ_then ?_
                    refine hK32 _ _ _ _ ?_; clear hK32 K32
                    refine HC_ret ?_
                    refine HQ_blockR ?_
                    refine HQ_thenR ?_; clear hK2 K2
                    refine HQ_post rfl rfl (.cons (res_tmp rfl) .nil) (fun w1 hs1 => ?_)
                    refine ⟨?_, hs1.keep⟩
                    unfold okForm
                    simp only [resVal]
                    simp_all
                    all_goals first | done | rfl | omega | (rw [Bool.eq_iff_iff]; simp only [Bool.and_eq_true, decide_eq_true_eq]; omega)
                    skip)
                  skip)
              · try exact Bool.noConfusion h31
                all_goals try simp only [decide_eq_true_eq, decide_eq_false_iff_not, beq_iff_eq, beq_eq_false_iff_ne, bne_iff_ne, bne_eq_false_iff_eq, Bool.not_eq_true', Bool.not_eq_false', ne_eq, Int.not_lt, Int.not_le, ge_iff_le, gt_iff_lt] at h31
                all_goals (
                  refine HC_seq fun K36 hK36 => ?_
                  refine HC_seq fun K37 hK37 => ?_
                  refine HC_region ?_
                  all_goals refine HL_r rfl rfl rfl rfl (R_pure rfl rfl rfl) ?_
                  all_goals refine HL_r rfl rfl rfl rfl (R_assign rfl) ?_
                  all_goals refine HL_nil ?_
                  all_goals (
                    refine HQ_then ?_
                    refine hK37 _ _ _ _ ?_; clear hK37 K37
                    refine HC_cond rfl (fun h38 => ?_) (fun h38 => ?_)
                    · try exact Bool.noConfusion h38
                      all_goals try simp only [decide_eq_true_eq, decide_eq_false_iff_not, beq_iff_eq, beq_eq_false_iff_ne, bne_iff_ne, bne_eq_false_iff_eq, Bool.not_eq_true', Bool.not_eq_false', ne_eq, Int.not_lt, Int.not_le, ge_iff_le, gt_iff_lt] at h38
                      all_goals (
                        refine HC_skip ?_
                        refine HQ_then ?_
                        refine hK36 _ _ _ _ ?_; clear hK36 K36
                        refine HC_cond rfl (fun h39 => ?_) (fun h39 => ?_)
                        · try exact Bool.noConfusion h39
                          all_goals try simp only [decide_eq_true_eq, decide_eq_false_iff_not, beq_iff_eq, beq_eq_false_iff_ne, bne_iff_ne, bne_eq_false_iff_eq, Bool.not_eq_true', Bool.not_eq_false', ne_eq, Int.not_lt, Int.not_le, ge_iff_le, gt_iff_lt] at h39
                          all_goals (
                            refine HC_seq fun K40 hK40 => ?_
                            refine HC_region ?_
                            all_goals refine HL_r rfl rfl rfl rfl (R_fieldAddr rfl rfl (by first | (simp only [Nat.zero_add, Nat.reduceAdd, Nat.reduceMul, Nat.zero_mul, Nat.mul_one, Nat.add_zero]; exact rfl) | exact rfl)) ?_
                            all_goals refine HL_r rfl rfl rfl rfl (R_load rfl (known_L (k := 0) rfl) rfl rfl) ?_
                            all_goals (refine HL_r rfl rfl rfl rfl (R_lenPl rfl hs rfl) ?_)
                            all_goals refine HL_r rfl rfl rfl rfl (R_pure rfl rfl rfl) ?_
                            all_goals refine HL_r rfl rfl rfl rfl (R_move rfl) ?_
                            all_goals (refine HL_case 54 rfl (fun hb41 => ?_) (fun hb41 => ?_) <;> (try simp only [decide_eq_true_eq, decide_eq_false_iff_not, beq_iff_eq, beq_eq_false_iff_ne, bne_iff_ne, bne_eq_false_iff_eq, Bool.not_eq_true', Bool.not_eq_false', ne_eq, Int.not_lt, Int.not_le, ge_iff_le, gt_iff_lt] at hb41) <;> first | (refine HL_r rfl rfl rfl rfl (R_fieldAddr rfl rfl (by first | (simp only [Nat.zero_add, Nat.reduceAdd, Nat.reduceMul, Nat.zero_mul, Nat.mul_one, Nat.add_zero]; exact rfl) | exact rfl)) ?_) | (refine HL_skip rfl rfl rfl ?_))
                            all_goals first
                              | (refine HL_r rfl rfl rfl rfl (R_load rfl (known_L (k := 0) rfl) rfl rfl) ?_)
                              | (refine HL_skip rfl rfl rfl ?_)
                            all_goals first
                              | (refine HL_r rfl rfl rfl rfl (R_pure rfl rfl rfl) ?_)
                              | (refine HL_skip rfl rfl rfl ?_)
                            all_goals first
                              | (refine HL_r rfl rfl rfl rfl (R_pickT rfl rfl) ?_)
                              | (refine HL_r rfl rfl rfl rfl (R_pickF rfl rfl) ?_)
                            all_goals refine HL_r rfl rfl rfl rfl (R_move rfl) ?_
                            all_goals first
                              | (refine HL_skip rfl rfl rfl ?_)
                              | (refine HL_case 59 rfl (fun hb44 => ?_) (fun hb44 => ?_) <;> (try simp only [decide_eq_true_eq, decide_eq_false_iff_not, beq_iff_eq, beq_eq_false_iff_ne, bne_iff_ne, bne_eq_false_iff_eq, Bool.not_eq_true', Bool.not_eq_false', ne_eq, Int.not_lt, Int.not_le, ge_iff_le, gt_iff_lt] at hb44) <;> first | (refine HL_r rfl rfl rfl rfl (R_fieldAddr rfl rfl (by first | (simp only [Nat.zero_add, Nat.reduceAdd, Nat.reduceMul, Nat.zero_mul, Nat.mul_one, Nat.add_zero]; exact rfl) | exact rfl)) ?_) | (refine HL_skip rfl rfl rfl ?_))
                            all_goals first
                              | (refine HL_r rfl rfl rfl rfl (R_load rfl (known_L (k := 0) rfl) rfl rfl) ?_)
                              | (refine HL_skip rfl rfl rfl ?_)
                            all_goals first
                              | (refine HL_r rfl rfl rfl rfl (R_pure rfl rfl rfl) ?_)
                              | (refine HL_skip rfl rfl rfl ?_)
                            all_goals first
                              | (refine HL_r rfl rfl rfl rfl (R_pickT rfl rfl) ?_)
                              | (refine HL_r rfl rfl rfl rfl (R_pickF rfl rfl) ?_)
                            all_goals refine HL_r rfl rfl rfl rfl (R_assign rfl) ?_
                            all_goals refine HL_nil ?_
                            all_goals (
                              refine HQ_then ?_
                              refine hK40 _ _ _ _ ?_; clear hK40 K40
                              refine HC_ret ?_
                              refine HQ_blockR ?_
                              refine HQ_thenR ?_; clear hK2 K2
                              refine HQ_post rfl rfl (.cons (res_tmp rfl) .nil) (fun w1 hs1 => ?_)
                              refine ⟨?_, hs1.keep⟩
                              unfold okForm
                              simp only [resVal]
                              simp_all
                              all_goals first | done | rfl | omega | (rw [Bool.eq_iff_iff]; simp only [Bool.and_eq_true, decide_eq_true_eq]; omega)
                              skip)
                            skip)
                        · try exact Bool.noConfusion h39
                          all_goals try simp only [decide_eq_true_eq, decide_eq_false_iff_not, beq_iff_eq, beq_eq_false_iff_ne, bne_iff_ne, bne_eq_false_iff_eq, Bool.not_eq_true', Bool.not_eq_false', ne_eq, Int.not_lt, Int.not_le, ge_iff_le, gt_iff_lt] at h39
                          all_goals (
                            refine HC_seq fun K47 hK47 => ?_
                            refine HC_seq fun K48 hK48 => ?_
                            refine HC_region ?_
                            all_goals refine HL_r rfl rfl rfl rfl (R_pure rfl rfl rfl) ?_
                            all_goals refine HL_r rfl rfl rfl rfl (R_assign rfl) ?_
                            all_goals refine HL_nil ?_
                            all_goals (
                              refine HQ_then ?_
                              refine hK48 _ _ _ _ ?_; clear hK48 K48
                              refine HC_cond rfl (fun h49 => ?_) (fun h49 => ?_)
                              · try exact Bool.noConfusion h49
                                all_goals try simp only [decide_eq_true_eq, decide_eq_false_iff_not, beq_iff_eq, beq_eq_false_iff_ne, bne_iff_ne, bne_eq_false_iff_eq, Bool.not_eq_true', Bool.not_eq_false', ne_eq, Int.not_lt, Int.not_le, ge_iff_le, gt_iff_lt] at h49
                                all_goals (
                                  refine HC_skip ?_
                                  refine HQ_then ?_
                                  refine hK47 _ _ _ _ ?_; clear hK47 K47
                                  refine HC_cond rfl (fun h50 => ?_) (fun h50 => ?_)
                                  · try exact Bool.noConfusion h50
                                    all_goals try simp only [decide_eq_true_eq, decide_eq_false_iff_not, beq_iff_eq, beq_eq_false_iff_ne, bne_iff_ne, bne_eq_false_iff_eq, Bool.not_eq_true', Bool.not_eq_false', ne_eq, Int.not_lt, Int.not_le, ge_iff_le, gt_iff_lt] at h50
                                    all_goals (
                                      refine HC_seq fun K51 hK51 => ?_
                                      refine HC_region ?_
                                      all_goals refine HL_r rfl rfl rfl rfl (R_fieldAddr rfl rfl (by first | (simp only [Nat.zero_add, Nat.reduceAdd, Nat.reduceMul, Nat.zero_mul, Nat.mul_one, Nat.add_zero]; exact rfl) | exact rfl)) ?_
                                      all_goals refine HL_r rfl rfl rfl rfl (R_load rfl (known_L (k := 0) rfl) rfl rfl) ?_
                                      all_goals (refine HL_r rfl rfl rfl rfl (R_lenPl rfl hs rfl) ?_)
                                      all_goals refine HL_r rfl rfl rfl rfl (R_pure rfl rfl rfl) ?_
                                      all_goals refine HL_r rfl rfl rfl rfl (R_move rfl) ?_
                                      all_goals (refine HL_case 71 rfl (fun hb52 => ?_) (fun hb52 => ?_) <;> (try simp only [decide_eq_true_eq, decide_eq_false_iff_not, beq_iff_eq, beq_eq_false_iff_ne, bne_iff_ne, bne_eq_false_iff_eq, Bool.not_eq_true', Bool.not_eq_false', ne_eq, Int.not_lt, Int.not_le, ge_iff_le, gt_iff_lt] at hb52) <;> first | (refine HL_r rfl rfl rfl rfl (R_fieldAddr rfl rfl (by first | (simp only [Nat.zero_add, Nat.reduceAdd, Nat.reduceMul, Nat.zero_mul, Nat.mul_one, Nat.add_zero]; exact rfl) | exact rfl)) ?_) | (refine HL_skip rfl rfl rfl ?_))
                                      all_goals first
                                        | (refine HL_r rfl rfl rfl rfl (R_load rfl (known_L (k := 0) rfl) rfl rfl) ?_)
                                        | (refine HL_skip rfl rfl rfl ?_)
                                      all_goals first
                                        | (refine HL_r rfl rfl rfl rfl (R_pure rfl rfl rfl) ?_)
                                        | (refine HL_skip rfl rfl rfl ?_)
                                      all_goals first
                                        | (refine HL_r rfl rfl rfl rfl (R_pickT rfl rfl) ?_)
                                        | (refine HL_r rfl rfl rfl rfl (R_pickF rfl rfl) ?_)
                                      all_goals refine HL_r rfl rfl rfl rfl (R_move rfl) ?_
                                      all_goals first
                                        | (refine HL_skip rfl rfl rfl ?_)
                                        | (refine HL_case 76 rfl (fun hb55 => ?_) (fun hb55 => ?_) <;> (try simp only [decide_eq_true_eq, decide_eq_false_iff_not, beq_iff_eq, beq_eq_false_iff_ne, bne_iff_ne, bne_eq_false_iff_eq, Bool.not_eq_true', Bool.not_eq_false', ne_eq, Int.not_lt, Int.not_le, ge_iff_le, gt_iff_lt] at hb55) <;> first | (refine HL_r rfl rfl rfl rfl (R_fieldAddr rfl rfl (by first | (simp only [Nat.zero_add, Nat.reduceAdd, Nat.reduceMul, Nat.zero_mul, Nat.mul_one, Nat.add_zero]; exact rfl) | exact rfl)) ?_) | (refine HL_skip rfl rfl rfl ?_))
                                      all_goals first
                                        | (refine HL_r rfl rfl rfl rfl (R_load rfl (known_L (k := 0) rfl) rfl rfl) ?_)
                                        | (refine HL_skip rfl rfl rfl ?_)
                                      all_goals first
                                        | (refine HL_r rfl rfl rfl rfl (R_pure rfl rfl rfl) ?_)
                                        | (refine HL_skip rfl rfl rfl ?_)
                                      all_goals first
                                        | (refine HL_r rfl rfl rfl rfl (R_pickT rfl rfl) ?_)
                                        | (refine HL_r rfl rfl rfl rfl (R_pickF rfl rfl) ?_)
                                      all_goals refine HL_r rfl rfl rfl rfl (R_assign rfl) ?_
                                      all_goals refine HL_nil ?_
                                      all_goals (
                                        refine HQ_then ?_
                                        refine hK51 _ _ _ _ ?_; clear hK51 K51
                                        refine HC_ret ?_
                                        refine HQ_blockR ?_
                                        refine HQ_thenR ?_; clear hK2 K2
                                        refine HQ_post rfl rfl (.cons (res_tmp rfl) .nil) (fun w1 hs1 => ?_)
                                        refine ⟨?_, hs1.keep⟩
                                        unfold okForm
                                        simp only [resVal]
                                        simp_all
                                        all_goals first | done | rfl | omega | (rw [Bool.eq_iff_iff]; simp only [Bool.and_eq_true, decide_eq_true_eq]; omega)
                                        skip)
                                      skip)
                                  · try exact Bool.noConfusion h50
                                    all_goals try simp only [decide_eq_true_eq, decide_eq_false_iff_not, beq_iff_eq, beq_eq_false_iff_ne, bne_iff_ne, bne_eq_false_iff_eq, Bool.not_eq_true', Bool.not_eq_false', ne_eq, Int.not_lt, Int.not_le, ge_iff_le, gt_iff_lt] at h50
                                    all_goals (
                                      refine HC_seq fun K58 hK58 => ?_
                                      refine HC_region ?_
                                      all_goals refine HL_r rfl rfl rfl rfl (R_pure rfl rfl rfl) ?_
                                      all_goals refine HL_r rfl rfl rfl rfl (R_assign rfl) ?_
                                      all_goals refine HL_nil ?_
                                      all_goals (
                                        refine HQ_then ?_
                                        refine hK58 _ _ _ _ ?_; clear hK58 K58
                                        refine HC_cond rfl (fun h59 => ?_) (fun h59 => ?_)
                                        · try exact Bool.noConfusion h59
                                          all_goals try simp only [decide_eq_true_eq, decide_eq_false_iff_not, beq_iff_eq, beq_eq_false_iff_ne, bne_iff_ne, bne_eq_false_iff_eq, Bool.not_eq_true', Bool.not_eq_false', ne_eq, Int.not_lt, Int.not_le, ge_iff_le, gt_iff_lt] at h59
                                          all_goals (
                                            refine HC_seq fun K60 hK60 => ?_
                                            refine HC_region ?_
                                            all_goals refine HL_r rfl rfl rfl rfl (R_fieldAddr rfl rfl (by first | (simp only [Nat.zero_add, Nat.reduceAdd, Nat.reduceMul, Nat.zero_mul, Nat.mul_one, Nat.add_zero]; exact rfl) | exact rfl)) ?_
                                            all_goals refine HL_r rfl rfl rfl rfl (R_load rfl (known_L (k := 0) rfl) rfl rfl) ?_
                                            all_goals refine HL_r rfl rfl rfl rfl (R_pure rfl rfl rfl) ?_
                                            all_goals refine HL_r rfl rfl rfl rfl (R_move rfl) ?_
                                            all_goals (refine HL_case 86 rfl (fun hb61 => ?_) (fun hb61 => ?_) <;> (try simp only [decide_eq_true_eq, decide_eq_false_iff_not, beq_iff_eq, beq_eq_false_iff_ne, bne_iff_ne, bne_eq_false_iff_eq, Bool.not_eq_true', Bool.not_eq_false', ne_eq, Int.not_lt, Int.not_le, ge_iff_le, gt_iff_lt] at hb61) <;> first | (refine HL_r rfl rfl rfl rfl (R_fieldAddr rfl rfl (by first | (simp only [Nat.zero_add, Nat.reduceAdd, Nat.reduceMul, Nat.zero_mul, Nat.mul_one, Nat.add_zero]; exact rfl) | exact rfl)) ?_) | (refine HL_skip rfl rfl rfl ?_))
                                            all_goals first
                                              | (refine HL_r rfl rfl rfl rfl (R_load rfl (known_L (k := 0) rfl) rfl rfl) ?_)
                                              | (refine HL_skip rfl rfl rfl ?_)
                                            all_goals first
                                              | (refine HL_r rfl rfl rfl rfl (R_lenPl rfl hs rfl) ?_)
                                              | (refine HL_skip rfl rfl rfl ?_)
                                            all_goals first
                                              | (refine HL_r rfl rfl rfl rfl (R_pure rfl rfl rfl) ?_)
                                              | (refine HL_skip rfl rfl rfl ?_)
                                            all_goals first
                                              | (refine HL_r rfl rfl rfl rfl (R_pickT rfl rfl) ?_)
                                              | (refine HL_r rfl rfl rfl rfl (R_pickF rfl rfl) ?_)
                                            all_goals refine HL_r rfl rfl rfl rfl (R_move rfl) ?_
                                            all_goals first
                                              | (refine HL_skip rfl rfl rfl ?_)
                                              | (refine HL_case 92 rfl (fun hb65 => ?_) (fun hb65 => ?_) <;> (try simp only [decide_eq_true_eq, decide_eq_false_iff_not, beq_iff_eq, beq_eq_false_iff_ne, bne_iff_ne, bne_eq_false_iff_eq, Bool.not_eq_true', Bool.not_eq_false', ne_eq, Int.not_lt, Int.not_le, ge_iff_le, gt_iff_lt] at hb65) <;> first | (refine HL_r rfl rfl rfl rfl (R_fieldAddr rfl rfl (by first | (simp only [Nat.zero_add, Nat.reduceAdd, Nat.reduceMul, Nat.zero_mul, Nat.mul_one, Nat.add_zero]; exact rfl) | exact rfl)) ?_) | (refine HL_skip rfl rfl rfl ?_))
                                            all_goals first
                                              | (refine HL_r rfl rfl rfl rfl (R_load rfl (known_L (k := 0) rfl) rfl rfl) ?_)
                                              | (refine HL_skip rfl rfl rfl ?_)
                                            all_goals first
                                              | (refine HL_r rfl rfl rfl rfl (R_lenPl rfl hs rfl) ?_)
                                              | (refine HL_skip rfl rfl rfl ?_)
                                            all_goals first
                                              | (refine HL_r rfl rfl rfl rfl (R_pure rfl rfl rfl) ?_)
                                              | (refine HL_skip rfl rfl rfl ?_)
                                            all_goals first
                                              | (refine HL_r rfl rfl rfl rfl (R_pickT rfl rfl) ?_)
                                              | (refine HL_r rfl rfl rfl rfl (R_pickF rfl rfl) ?_)
                                            all_goals refine HL_r rfl rfl rfl rfl (R_assign rfl) ?_
                                            all_goals refine HL_nil ?_
                                            all_goals (
                                              refine HQ_then ?_
                                              refine hK60 _ _ _ _ ?_; clear hK60 K60
                                              refine HC_ret ?_
                                              refine HQ_blockR ?_
                                              refine HQ_thenR ?_; clear hK2 K2
                                              refine HQ_post rfl rfl (.cons (res_tmp rfl) .nil) (fun w1 hs1 => ?_)
                                              refine ⟨?_, hs1.keep⟩
                                              unfold okForm
                                              simp only [resVal]
                                              simp_all
                                              all_goals first | done | rfl | omega | (rw [Bool.eq_iff_iff]; simp only [Bool.and_eq_true, decide_eq_true_eq]; omega)
                                              skip)
                                            skip)
                                        · try exact Bool.noConfusion h59
                                          all_goals try simp only [decide_eq_true_eq, decide_eq_false_iff_not, beq_iff_eq, beq_eq_false_iff_ne, bne_iff_ne, bne_eq_false_iff_eq, Bool.not_eq_true', Bool.not_eq_false', ne_eq, Int.not_lt, Int.not_le, ge_iff_le, gt_iff_lt] at h59
                                          all_goals (
                                            refine HC_skip ?_
                                            refine HQ_blockN ?_
                                            refine HQ_then ?_
                                            refine hK2 _ _ _ _ ?_; clear hK2 K2
                                            refine HC_seq fun K69 hK69 => ?_
                                            refine HC_region ?_
                                            all_goals refine HL_r rfl rfl rfl rfl (R_fieldAddr rfl rfl (by first | (simp only [Nat.zero_add, Nat.reduceAdd, Nat.reduceMul, Nat.zero_mul, Nat.mul_one, Nat.add_zero]; exact rfl) | exact rfl)) ?_
                                            all_goals refine HL_r rfl rfl rfl rfl (R_load rfl (known_L (k := 0) rfl) rfl rfl) ?_
                                            all_goals refine HL_r rfl rfl rfl rfl (R_pure rfl rfl rfl) ?_
                                            all_goals refine HL_r rfl rfl rfl rfl (R_move rfl) ?_
                                            all_goals (refine HL_case 101 rfl (fun hb70 => ?_) (fun hb70 => ?_) <;> (try simp only [decide_eq_true_eq, decide_eq_false_iff_not, beq_iff_eq, beq_eq_false_iff_ne, bne_iff_ne, bne_eq_false_iff_eq, Bool.not_eq_true', Bool.not_eq_false', ne_eq, Int.not_lt, Int.not_le, ge_iff_le, gt_iff_lt] at hb70) <;> first | (refine HL_r rfl rfl rfl rfl (R_fieldAddr rfl rfl (by first | (simp only [Nat.zero_add, Nat.reduceAdd, Nat.reduceMul, Nat.zero_mul, Nat.mul_one, Nat.add_zero]; exact rfl) | exact rfl)) ?_) | (refine HL_skip rfl rfl rfl ?_))
                                            all_goals first
                                              | (refine HL_r rfl rfl rfl rfl (R_load rfl (known_L (k := 0) rfl) rfl rfl) ?_)
                                              | (refine HL_skip rfl rfl rfl ?_)
                                            all_goals first
                                              | (refine HL_r rfl rfl rfl rfl (R_lenPl rfl hs rfl) ?_)
                                              | (refine HL_skip rfl rfl rfl ?_)
                                            all_goals first
                                              | (refine HL_r rfl rfl rfl rfl (R_pure rfl rfl rfl) ?_)
                                              | (refine HL_skip rfl rfl rfl ?_)
                                            all_goals first
                                              | (refine HL_r rfl rfl rfl rfl (R_pickT rfl rfl) ?_)
                                              | (refine HL_r rfl rfl rfl rfl (R_pickF rfl rfl) ?_)
                                            all_goals refine HL_r rfl rfl rfl rfl (R_move rfl) ?_
                                            all_goals first
                                              | (refine HL_skip rfl rfl rfl ?_)
                                              | (refine HL_case 107 rfl (fun hb74 => ?_) (fun hb74 => ?_) <;> (try simp only [decide_eq_true_eq, decide_eq_false_iff_not, beq_iff_eq, beq_eq_false_iff_ne, bne_iff_ne, bne_eq_false_iff_eq, Bool.not_eq_true', Bool.not_eq_false', ne_eq, Int.not_lt, Int.not_le, ge_iff_le, gt_iff_lt] at hb74) <;> first | (refine HL_r rfl rfl rfl rfl (R_fieldAddr rfl rfl (by first | (simp only [Nat.zero_add, Nat.reduceAdd, Nat.reduceMul, Nat.zero_mul, Nat.mul_one, Nat.add_zero]; exact rfl) | exact rfl)) ?_) | (refine HL_skip rfl rfl rfl ?_))
                                            all_goals first
                                              | (refine HL_r rfl rfl rfl rfl (R_load rfl (known_L (k := 0) rfl) rfl rfl) ?_)
                                              | (refine HL_skip rfl rfl rfl ?_)
                                            all_goals first
                                              | (refine HL_r rfl rfl rfl rfl (R_lenPl rfl hs rfl) ?_)
                                              | (refine HL_skip rfl rfl rfl ?_)
                                            all_goals first
                                              | (refine HL_r rfl rfl rfl rfl (R_pure rfl rfl rfl) ?_)
                                              | (refine HL_skip rfl rfl rfl ?_)
                                            all_goals first
                                              | (refine HL_r rfl rfl rfl rfl (R_pickT rfl rfl) ?_)
                                              | (refine HL_r rfl rfl rfl rfl (R_pickF rfl rfl) ?_)
                                            all_goals refine HL_r rfl rfl rfl rfl (R_assign rfl) ?_
                                            all_goals refine HL_nil ?_
                                            all_goals (
                                              refine HQ_then ?_
                                              refine hK69 _ _ _ _ ?_; clear hK69 K69
                                              refine HC_ret ?_
                                              refine HQ_post rfl rfl (.cons (res_tmp rfl) .nil) (fun w1 hs1 => ?_)
                                              refine ⟨?_, hs1.keep⟩
                                              unfold okForm
                                              simp only [resVal]
                                              simp_all
                                              all_goals first | done | rfl | omega | (rw [Bool.eq_iff_iff]; simp only [Bool.and_eq_true, decide_eq_true_eq]; omega)
                                              skip)
                                            skip)
                                        skip)
                                      skip)
                                  skip)
                              · try exact Bool.noConfusion h49
                                all_goals try simp only [decide_eq_true_eq, decide_eq_false_iff_not, beq_iff_eq, beq_eq_false_iff_ne, bne_iff_ne, bne_eq_false_iff_eq, Bool.not_eq_true', Bool.not_eq_false', ne_eq, Int.not_lt, Int.not_le, ge_iff_le, gt_iff_lt] at h49
                                all_goals (
                                  refine HC_region ?_
                                  all_goals refine HL_r rfl rfl rfl rfl (R_pure rfl rfl rfl) ?_
                                  all_goals refine HL_r rfl rfl rfl rfl (R_assign rfl) ?_
                                  all_goals refine HL_nil ?_
                                  all_goals (
                                    refine HQ_then ?_
                                    refine hK47 _ _ _ _ ?_; clear hK47 K47
                                    refine HC_cond rfl (fun h78 => ?_) (fun h78 => ?_)
                                    · try exact Bool.noConfusion h78
                                      all_goals try simp only [decide_eq_true_eq, decide_eq_false_iff_not, beq_iff_eq, beq_eq_false_iff_ne, bne_iff_ne, bne_eq_false_iff_eq, Bool.not_eq_true', Bool.not_eq_false', ne_eq, Int.not_lt, Int.not_le, ge_iff_le, gt_iff_lt] at h78
                                      all_goals (
                                        refine HC_seq fun K79 hK79 => ?_
                                        refine HC_region ?_
                                        all_goals refine HL_r rfl rfl rfl rfl (R_fieldAddr rfl rfl (by first | (simp only [Nat.zero_add, Nat.reduceAdd, Nat.reduceMul, Nat.zero_mul, Nat.mul_one, Nat.add_zero]; exact rfl) | exact rfl)) ?_
                                        all_goals refine HL_r rfl rfl rfl rfl (R_load rfl (known_L (k := 0) rfl) rfl rfl) ?_
                                        all_goals (refine HL_r rfl rfl rfl rfl (R_lenPl rfl hs rfl) ?_)
                                        all_goals refine HL_r rfl rfl rfl rfl (R_pure rfl rfl rfl) ?_
                                        all_goals refine HL_r rfl rfl rfl rfl (R_move rfl) ?_
                                        all_goals (refine HL_case 71 rfl (fun hb80 => ?_) (fun hb80 => ?_) <;> (try simp only [decide_eq_true_eq, decide_eq_false_iff_not, beq_iff_eq, beq_eq_false_iff_ne, bne_iff_ne, bne_eq_false_iff_eq, Bool.not_eq_true', Bool.not_eq_false', ne_eq, Int.not_lt, Int.not_le, ge_iff_le, gt_iff_lt] at hb80) <;> first | (refine HL_r rfl rfl rfl rfl (R_fieldAddr rfl rfl (by first | (simp only [Nat.zero_add, Nat.reduceAdd, Nat.reduceMul, Nat.zero_mul, Nat.mul_one, Nat.add_zero]; exact rfl) | exact rfl)) ?_) | (refine HL_skip rfl rfl rfl ?_))
                                        all_goals first
                                          | (refine HL_r rfl rfl rfl rfl (R_load rfl (known_L (k := 0) rfl) rfl rfl) ?_)
                                          | (refine HL_skip rfl rfl rfl ?_)
                                        all_goals first
                                          | (refine HL_r rfl rfl rfl rfl (R_pure rfl rfl rfl) ?_)
                                          | (refine HL_skip rfl rfl rfl ?_)
                                        all_goals first
                                          | (refine HL_r rfl rfl rfl rfl (R_pickT rfl rfl) ?_)
                                          | (refine HL_r rfl rfl rfl rfl (R_pickF rfl rfl) ?_)
                                        all_goals refine HL_r rfl rfl rfl rfl (R_move rfl) ?_
                                        all_goals first
                                          | (refine HL_skip rfl rfl rfl ?_)
                                          | (refine HL_case 76 rfl (fun hb83 => ?_) (fun hb83 => ?_) <;> (try simp only [decide_eq_true_eq, decide_eq_false_iff_not, beq_iff_eq, beq_eq_false_iff_ne, bne_iff_ne, bne_eq_false_iff_eq, Bool.not_eq_true', Bool.not_eq_false', ne_eq, Int.not_lt, Int.not_le, ge_iff_le, gt_iff_lt] at hb83) <;> first | (refine HL_r rfl rfl rfl rfl (R_fieldAddr rfl rfl (by first | (simp only [Nat.zero_add, Nat.reduceAdd, Nat.reduceMul, Nat.zero_mul, Nat.mul_one, Nat.add_zero]; exact rfl) | exact rfl)) ?_) | (refine HL_skip rfl rfl rfl ?_))
                                        all_goals first
                                          | (refine HL_r rfl rfl rfl rfl (R_load rfl (known_L (k := 0) rfl) rfl rfl) ?_)
                                          | (refine HL_skip rfl rfl rfl ?_)
                                        all_goals first
                                          | (refine HL_r rfl rfl rfl rfl (R_pure rfl rfl rfl) ?_)
                                          | (refine HL_skip rfl rfl rfl ?_)
                                        all_goals first
                                          | (refine HL_r rfl rfl rfl rfl (R_pickT rfl rfl) ?_)
                                          | (refine HL_r rfl rfl rfl rfl (R_pickF rfl rfl) ?_)
                                        all_goals refine HL_r rfl rfl rfl rfl (R_assign rfl) ?_
                                        all_goals refine HL_nil ?_
                                        all_goals (
                                          refine HQ_then ?_
                                          refine hK79 _ _ _ _ ?_; clear hK79 K79
                                          refine HC_ret ?_
                                          refine HQ_blockR ?_
                                          refine HQ_thenR ?_; clear hK2 K2
                                          refine HQ_post rfl rfl (.cons (res_tmp rfl) .nil) (fun w1 hs1 => ?_)
                                          refine ⟨?_, hs1.keep⟩
                                          unfold okForm
                                          simp only [resVal]
                                          simp_all
                                          all_goals first | done | rfl | omega | (rw [Bool.eq_iff_iff]; simp only [Bool.and_eq_true, decide_eq_true_eq]; omega)
                                          skip)
                                        skip)
                                    · try exact Bool.noConfusion h78
                                      all_goals try simp only [decide_eq_true_eq, decide_eq_false_iff_not, beq_iff_eq, beq_eq_false_iff_ne, bne_iff_ne, bne_eq_false_iff_eq, Bool.not_eq_true', Bool.not_eq_false', ne_eq, Int.not_lt, Int.not_le, ge_iff_le, gt_iff_lt] at h78
                                      all_goals (
                                        refine HC_seq fun K86 hK86 => ?_
                                        refine HC_region ?_
                                        all_goals refine HL_r rfl rfl rfl rfl (R_pure rfl rfl rfl) ?_
                                        all_goals refine HL_r rfl rfl rfl rfl (R_assign rfl) ?_
                                        all_goals refine HL_nil ?_
                                        all_goals (
                                          refine HQ_then ?_
                                          refine hK86 _ _ _ _ ?_; clear hK86 K86
                                          refine HC_cond rfl (fun h87 => ?_) (fun h87 => ?_)
                                          · try exact Bool.noConfusion h87
                                            all_goals try simp only [decide_eq_true_eq, decide_eq_false_iff_not, beq_iff_eq, beq_eq_false_iff_ne, bne_iff_ne, bne_eq_false_iff_eq, Bool.not_eq_true', Bool.not_eq_false', ne_eq, Int.not_lt, Int.not_le, ge_iff_le, gt_iff_lt] at h87
                                            all_goals (
                                              refine HC_seq fun K88 hK88 => ?_
                                              refine HC_region ?_
                                              all_goals refine HL_r rfl rfl rfl rfl (R_fieldAddr rfl rfl (by first | (simp only [Nat.zero_add, Nat.reduceAdd, Nat.reduceMul, Nat.zero_mul, Nat.mul_one, Nat.add_zero]; exact rfl) | exact rfl)) ?_
                                              all_goals refine HL_r rfl rfl rfl rfl (R_load rfl (known_L (k := 0) rfl) rfl rfl) ?_
                                              all_goals refine HL_r rfl rfl rfl rfl (R_pure rfl rfl rfl) ?_
                                              all_goals refine HL_r rfl rfl rfl rfl (R_move rfl) ?_
                                              all_goals (refine HL_case 86 rfl (fun hb89 => ?_) (fun hb89 => ?_) <;> (try simp only [decide_eq_true_eq, decide_eq_false_iff_not, beq_iff_eq, beq_eq_false_iff_ne, bne_iff_ne, bne_eq_false_iff_eq, Bool.not_eq_true', Bool.not_eq_false', ne_eq, Int.not_lt, Int.not_le, ge_iff_le, gt_iff_lt] at hb89) <;> first | (refine HL_r rfl rfl rfl rfl (R_fieldAddr rfl rfl (by first | (simp only [Nat.zero_add, Nat.reduceAdd, Nat.reduceMul, Nat.zero_mul, Nat.mul_one, Nat.add_zero]; exact rfl) | exact rfl)) ?_) | (refine HL_skip rfl rfl rfl ?_))
                                              all_goals first
                                                | (refine HL_r rfl rfl rfl rfl (R_load rfl (known_L (k := 0) rfl) rfl rfl) ?_)
                                                | (refine HL_skip rfl rfl rfl ?_)
                                              all_goals first
                                                | (refine HL_r rfl rfl rfl rfl (R_lenPl rfl hs rfl) ?_)
                                                | (refine HL_skip rfl rfl rfl ?_)
                                              all_goals first
                                                | (refine HL_r rfl rfl rfl rfl (R_pure rfl rfl rfl) ?_)
                                                | (refine HL_skip rfl rfl rfl ?_)
                                              all_goals first
                                                | (refine HL_r rfl rfl rfl rfl (R_pickT rfl rfl) ?_)
                                                | (refine HL_r rfl rfl rfl rfl (R_pickF rfl rfl) ?_)
                                              all_goals refine HL_r rfl rfl rfl rfl (R_move rfl) ?_
                                              all_goals first
                                                | (refine HL_skip rfl rfl rfl ?_)
                                                | (refine HL_case 92 rfl (fun hb93 => ?_) (fun hb93 => ?_) <;> (try simp only [decide_eq_true_eq, decide_eq_false_iff_not, beq_iff_eq, beq_eq_false_iff_ne, bne_iff_ne, bne_eq_false_iff_eq, Bool.not_eq_true', Bool.not_eq_false', ne_eq, Int.not_lt, Int.not_le, ge_iff_le, gt_iff_lt] at hb93) <;> first | (refine HL_r rfl rfl rfl rfl (R_fieldAddr rfl rfl (by first | (simp only [Nat.zero_add, Nat.reduceAdd, Nat.reduceMul, Nat.zero_mul, Nat.mul_one, Nat.add_zero]; exact rfl) | exact rfl)) ?_) | (refine HL_skip rfl rfl rfl ?_))
                                              all_goals first
                                                | (refine HL_r rfl rfl rfl rfl (R_load rfl (known_L (k := 0) rfl) rfl rfl) ?_)
                                                | (refine HL_skip rfl rfl rfl ?_)
                                              all_goals first
                                                | (refine HL_r rfl rfl rfl rfl (R_lenPl rfl hs rfl) ?_)
                                                | (refine HL_skip rfl rfl rfl ?_)
                                              all_goals first
                                                | (refine HL_r rfl rfl rfl rfl (R_pure rfl rfl rfl) ?_)
                                                | (refine HL_skip rfl rfl rfl ?_)
                                              all_goals first
                                                | (refine HL_r rfl rfl rfl rfl (R_pickT rfl rfl) ?_)
                                                | (refine HL_r rfl rfl rfl rfl (R_pickF rfl rfl) ?_)
                                              all_goals refine HL_r rfl rfl rfl rfl (R_assign rfl) ?_
                                              all_goals refine HL_nil ?_
                                              all_goals (
                                                refine HQ_then ?_
                                                refine hK88 _ _ _ _ ?_; clear hK88 K88
                                                refine HC_ret ?_
                                                refine HQ_blockR ?_
                                                refine HQ_thenR ?_; clear hK2 K2
                                                refine HQ_post rfl rfl (.cons (res_tmp rfl) .nil) (fun w1 hs1 => ?_)
                                                refine ⟨?_, hs1.keep⟩
                                                unfold okForm
                                                simp only [resVal]
                                                simp_all
                                                all_goals first | done | rfl | omega | (rw [Bool.eq_iff_iff]; simp only [Bool.and_eq_true, decide_eq_true_eq]; omega)
                                                skip)
                                              skip)
                                          · try exact Bool.noConfusion h87
                                            all_goals try simp only [decide_eq_true_eq, decide_eq_false_iff_not, beq_iff_eq, beq_eq_false_iff_ne, bne_iff_ne, bne_eq_false_iff_eq, Bool.not_eq_true', Bool.not_eq_false', ne_eq, Int.not_lt, Int.not_le, ge_iff_le, gt_iff_lt] at h87
                                            all_goals (
                                              refine HC_skip ?_
                                              refine HQ_blockN ?_
                                              refine HQ_then ?_
                                              refine hK2 _ _ _ _ ?_; clear hK2 K2
                                              refine HC_seq fun K97 hK97 => ?_
                                              refine HC_region ?_
                                              all_goals refine HL_r rfl rfl rfl rfl (R_fieldAddr rfl rfl (by first | (simp only [Nat.zero_add, Nat.reduceAdd, Nat.reduceMul, Nat.zero_mul, Nat.mul_one, Nat.add_zero]; exact rfl) | exact rfl)) ?_
                                              all_goals refine HL_r rfl rfl rfl rfl (R_load rfl (known_L (k := 0) rfl) rfl rfl) ?_
                                              all_goals refine HL_r rfl rfl rfl rfl (R_pure rfl rfl rfl) ?_
                                              all_goals refine HL_r rfl rfl rfl rfl (R_move rfl) ?_
                                              all_goals (refine HL_case 101 rfl (fun hb98 => ?_) (fun hb98 => ?_) <;> (try simp only [decide_eq_true_eq, decide_eq_false_iff_not, beq_iff_eq, beq_eq_false_iff_ne, bne_iff_ne, bne_eq_false_iff_eq, Bool.not_eq_true', Bool.not_eq_false', ne_eq, Int.not_lt, Int.not_le, ge_iff_le, gt_iff_lt] at hb98) <;> first | (refine HL_r rfl rfl rfl rfl (R_fieldAddr rfl rfl (by first | (simp only [Nat.zero_add, Nat.reduceAdd, Nat.reduceMul, Nat.zero_mul, Nat.mul_one, Nat.add_zero]; exact rfl) | exact rfl)) ?_) | (refine HL_skip rfl rfl rfl ?_))
                                              all_goals first
                                                | (refine HL_r rfl rfl rfl rfl (R_load rfl (known_L (k := 0) rfl) rfl rfl) ?_)
                                                | (refine HL_skip rfl rfl rfl ?_)
                                              all_goals first
                                                | (refine HL_r rfl rfl rfl rfl (R_lenPl rfl hs rfl) ?_)
                                                | (refine HL_skip rfl rfl rfl ?_)
                                              all_goals first
                                                | (refine HL_r rfl rfl rfl rfl (R_pure rfl rfl rfl) ?_)
                                                | (refine HL_skip rfl rfl rfl ?_)
                                              all_goals first
                                                | (refine HL_r rfl rfl rfl rfl (R_pickT rfl rfl) ?_)
                                                | (refine HL_r rfl rfl rfl rfl (R_pickF rfl rfl) ?_)
                                              all_goals refine HL_r rfl rfl rfl rfl (R_move rfl) ?_
                                              all_goals first
                                                | (refine HL_skip rfl rfl rfl ?_)
                                                | (refine HL_case 107 rfl (fun hb102 => ?_) (fun hb102 => ?_) <;> (try simp only [decide_eq_true_eq, decide_eq_false_iff_not, beq_iff_eq, beq_eq_false_iff_ne, bne_iff_ne, bne_eq_false_iff_eq, Bool.not_eq_true', Bool.not_eq_false', ne_eq, Int.not_lt, Int.not_le, ge_iff_le, gt_iff_lt] at hb102) <;> first | (refine HL_r rfl rfl rfl rfl (R_fieldAddr rfl rfl (by first | (simp only [Nat.zero_add, Nat.reduceAdd, Nat.reduceMul, Nat.zero_mul, Nat.mul_one, Nat.add_zero]; exact rfl) | exact rfl)) ?_) | (refine HL_skip rfl rfl rfl ?_))
                                              all_goals first
                                                | (refine HL_r rfl rfl rfl rfl (R_load rfl (known_L (k := 0) rfl) rfl rfl) ?_)
                                                | (refine HL_skip rfl rfl rfl ?_)
                                              all_goals first
                                                | (refine HL_r rfl rfl rfl rfl (R_lenPl rfl hs rfl) ?_)
                                                | (refine HL_skip rfl rfl rfl ?_)
                                              all_goals first
                                                | (refine HL_r rfl rfl rfl rfl (R_pure rfl rfl rfl) ?_)
                                                | (refine HL_skip rfl rfl rfl ?_)
                                              all_goals first
                                                | (refine HL_r rfl rfl rfl rfl (R_pickT rfl rfl) ?_)
                                                | (refine HL_r rfl rfl rfl rfl (R_pickF rfl rfl) ?_)
                                              all_goals refine HL_r rfl rfl rfl rfl (R_assign rfl) ?_
                                              all_goals refine HL_nil ?_
                                              all_goals (
                                                refine HQ_then ?_
                                                refine hK97 _ _ _ _ ?_; clear hK97 K97
                                                refine HC_ret ?_
                                                refine HQ_post rfl rfl (.cons (res_tmp rfl) .nil) (fun w1 hs1 => ?_)
                                                refine ⟨?_, hs1.keep⟩
                                                unfold okForm
                                                simp only [resVal]
                                                simp_all
                                                all_goals first | done | rfl | omega | (rw [Bool.eq_iff_iff]; simp only [Bool.and_eq_true, decide_eq_true_eq]; omega)
                                                skip)
                                              skip)
                                          skip)
                                        skip)
                                    skip)
                                  skip)
                              skip)
                            skip)
                        skip)
                    · try exact Bool.noConfusion h38
                      all_goals try simp only [decide_eq_true_eq, decide_eq_false_iff_not, beq_iff_eq, beq_eq_false_iff_ne, bne_iff_ne, bne_eq_false_iff_eq, Bool.not_eq_true', Bool.not_eq_false', ne_eq, Int.not_lt, Int.not_le, ge_iff_le, gt_iff_lt] at h38
                      all_goals (
                        refine HC_region ?_
                        all_goals refine HL_r rfl rfl rfl rfl (R_pure rfl rfl rfl) ?_
                        all_goals refine HL_r rfl rfl rfl rfl (R_assign rfl) ?_
                        all_goals refine HL_nil ?_
                        all_goals (
                          refine HQ_then ?_
                          refine hK36 _ _ _ _ ?_; clear hK36 K36
                          refine HC_cond rfl (fun h106 => ?_) (fun h106 => ?_)
                          · try exact Bool.noConfusion h106
                            all_goals try simp only [decide_eq_true_eq, decide_eq_false_iff_not, beq_iff_eq, beq_eq_false_iff_ne, bne_iff_ne, bne_eq_false_iff_eq, Bool.not_eq_true', Bool.not_eq_false', ne_eq, Int.not_lt, Int.not_le, ge_iff_le, gt_iff_lt] at h106
                            all_goals (
                              refine HC_seq fun K107 hK107 => ?_
                              refine HC_region ?_
                              all_goals refine HL_r rfl rfl rfl rfl (R_fieldAddr rfl rfl (by first | (simp only [Nat.zero_add, Nat.reduceAdd, Nat.reduceMul, Nat.zero_mul, Nat.mul_one, Nat.add_zero]; exact rfl) | exact rfl)) ?_
                              all_goals refine HL_r rfl rfl rfl rfl (R_load rfl (known_L (k := 0) rfl) rfl rfl) ?_
                              all_goals (refine HL_r rfl rfl rfl rfl (R_lenPl rfl hs rfl) ?_)
                              all_goals refine HL_r rfl rfl rfl rfl (R_pure rfl rfl rfl) ?_
                              all_goals refine HL_r rfl rfl rfl rfl (R_move rfl) ?_
                              all_goals (refine HL_case 54 rfl (fun hb108 => ?_) (fun hb108 => ?_) <;> (try simp only [decide_eq_true_eq, decide_eq_false_iff_not, beq_iff_eq, beq_eq_false_iff_ne, bne_iff_ne, bne_eq_false_iff_eq, Bool.not_eq_true', Bool.not_eq_false', ne_eq, Int.not_lt, Int.not_le, ge_iff_le, gt_iff_lt] at hb108) <;> first | (refine HL_r rfl rfl rfl rfl (R_fieldAddr rfl rfl (by first | (simp only [Nat.zero_add, Nat.reduceAdd, Nat.reduceMul, Nat.zero_mul, Nat.mul_one, Nat.add_zero]; exact rfl) | exact rfl)) ?_) | (refine HL_skip rfl rfl rfl ?_))
                              all_goals first
                                | (refine HL_r rfl rfl rfl rfl (R_load rfl (known_L (k := 0) rfl) rfl rfl) ?_)
                                | (refine HL_skip rfl rfl rfl ?_)
                              all_goals first
                                | (refine HL_r rfl rfl rfl rfl (R_pure rfl rfl rfl) ?_)
                                | (refine HL_skip rfl rfl rfl ?_)
                              all_goals first
                                | (refine HL_r rfl rfl rfl rfl (R_pickT rfl rfl) ?_)
                                | (refine HL_r rfl rfl rfl rfl (R_pickF rfl rfl) ?_)
                              all_goals refine HL_r rfl rfl rfl rfl (R_move rfl) ?_
                              all_goals first
                                | (refine HL_skip rfl rfl rfl ?_)
                                | (refine HL_case 59 rfl (fun hb111 => ?_) (fun hb111 => ?_) <;> (try simp only [decide_eq_true_eq, decide_eq_false_iff_not, beq_iff_eq, beq_eq_false_iff_ne, bne_iff_ne, bne_eq_false_iff_eq, Bool.not_eq_true', Bool.not_eq_false', ne_eq, Int.not_lt, Int.not_le, ge_iff_le, gt_iff_lt] at hb111) <;> first | (refine HL_r rfl rfl rfl rfl (R_fieldAddr rfl rfl (by first | (simp only [Nat.zero_add, Nat.reduceAdd, Nat.reduceMul, Nat.zero_mul, Nat.mul_one, Nat.add_zero]; exact rfl) | exact rfl)) ?_) | (refine HL_skip rfl rfl rfl ?_))
                              all_goals first
                                | (refine HL_r rfl rfl rfl rfl (R_load rfl (known_L (k := 0) rfl) rfl rfl) ?_)
                                | (refine HL_skip rfl rfl rfl ?_)
                              all_goals first
                                | (refine HL_r rfl rfl rfl rfl (R_pure rfl rfl rfl) ?_)
                                | (refine HL_skip rfl rfl rfl ?_)
                              all_goals first
                                | (refine HL_r rfl rfl rfl rfl (R_pickT rfl rfl) ?_)
                                | (refine HL_r rfl rfl rfl rfl (R_pickF rfl rfl) ?_)
                              all_goals refine HL_r rfl rfl rfl rfl (R_assign rfl) ?_
                              all_goals refine HL_nil ?_
                              all_goals (
                                refine HQ_then ?_
                                refine hK107 _ _ _ _ ?_; clear hK107 K107
                                refine HC_ret ?_
                                refine HQ_blockR ?_
                                refine HQ_thenR ?_; clear hK2 K2
                                refine HQ_post rfl rfl (.cons (res_tmp rfl) .nil) (fun w1 hs1 => ?_)
                                refine ⟨?_, hs1.keep⟩
                                unfold okForm
                                simp only [resVal]
                                simp_all
                                all_goals first | done | rfl | omega | (rw [Bool.eq_iff_iff]; simp only [Bool.and_eq_true, decide_eq_true_eq]; omega)
                                skip)
                              skip)
                          · try exact Bool.noConfusion h106
                            all_goals try simp only [decide_eq_true_eq, decide_eq_false_iff_not, beq_iff_eq, beq_eq_false_iff_ne, bne_iff_ne, bne_eq_false_iff_eq, Bool.not_eq_true', Bool.not_eq_false', ne_eq, Int.not_lt, Int.not_le, ge_iff_le, gt_iff_lt] at h106
                            all_goals (
                              refine HC_seq fun K114 hK114 => ?_
                              refine HC_seq fun K115 hK115 => ?_
                              refine HC_region ?_
                              all_goals refine HL_r rfl rfl rfl rfl (R_pure rfl rfl rfl) ?_
                              all_goals refine HL_r rfl rfl rfl rfl (R_assign rfl) ?_
                              all_goals refine HL_nil ?_
                              all_goals (
                                refine HQ_then ?_
                                refine hK115 _ _ _ _ ?_; clear hK115 K115
                                refine HC_cond rfl (fun h116 => ?_) (fun h116 => ?_)
                                · try exact Bool.noConfusion h116
                                  all_goals try simp only [decide_eq_true_eq, decide_eq_false_iff_not, beq_iff_eq, beq_eq_false_iff_ne, bne_iff_ne, bne_eq_false_iff_eq, Bool.not_eq_true', Bool.not_eq_false', ne_eq, Int.not_lt, Int.not_le, ge_iff_le, gt_iff_lt] at h116
                                  all_goals (
                                    refine HC_skip ?_
                                    refine HQ_then ?_
                                    refine hK114 _ _ _ _ ?_; clear hK114 K114
                                    refine HC_cond rfl (fun h117 => ?_) (fun h117 => ?_)
                                    · try exact Bool.noConfusion h117
                                      all_goals try simp only [decide_eq_true_eq, decide_eq_false_iff_not, beq_iff_eq, beq_eq_false_iff_ne, bne_iff_ne, bne_eq_false_iff_eq, Bool.not_eq_true', Bool.not_eq_false', ne_eq, Int.not_lt, Int.not_le, ge_iff_le, gt_iff_lt] at h117
                                      all_goals (
                                        refine HC_seq fun K118 hK118 => ?_
                                        refine HC_region ?_
                                        all_goals refine HL_r rfl rfl rfl rfl (R_fieldAddr rfl rfl (by first | (simp only [Nat.zero_add, Nat.reduceAdd, Nat.reduceMul, Nat.zero_mul, Nat.mul_one, Nat.add_zero]; exact rfl) | exact rfl)) ?_
                                        all_goals refine HL_r rfl rfl rfl rfl (R_load rfl (known_L (k := 0) rfl) rfl rfl) ?_
                                        all_goals (refine HL_r rfl rfl rfl rfl (R_lenPl rfl hs rfl) ?_)
                                        all_goals refine HL_r rfl rfl rfl rfl (R_pure rfl rfl rfl) ?_
                                        all_goals refine HL_r rfl rfl rfl rfl (R_move rfl) ?_
                                        all_goals (refine HL_case 71 rfl (fun hb119 => ?_) (fun hb119 => ?_) <;> (try simp only [decide_eq_true_eq, decide_eq_false_iff_not, beq_iff_eq, beq_eq_false_iff_ne, bne_iff_ne, bne_eq_false_iff_eq, Bool.not_eq_true', Bool.not_eq_false', ne_eq, Int.not_lt, Int.not_le, ge_iff_le, gt_iff_lt] at hb119) <;> first | (refine HL_r rfl rfl rfl rfl (R_fieldAddr rfl rfl (by first | (simp only [Nat.zero_add, Nat.reduceAdd, Nat.reduceMul, Nat.zero_mul, Nat.mul_one, Nat.add_zero]; exact rfl) | exact rfl)) ?_) | (refine HL_skip rfl rfl rfl ?_))
                                        all_goals first
                                          | (refine HL_r rfl rfl rfl rfl (R_load rfl (known_L (k := 0) rfl) rfl rfl) ?_)
                                          | (refine HL_skip rfl rfl rfl ?_)
                                        all_goals first
                                          | (refine HL_r rfl rfl rfl rfl (R_pure rfl rfl rfl) ?_)
                                          | (refine HL_skip rfl rfl rfl ?_)
                                        all_goals first
                                          | (refine HL_r rfl rfl rfl rfl (R_pickT rfl rfl) ?_)
                                          | (refine HL_r rfl rfl rfl rfl (R_pickF rfl rfl) ?_)
                                        all_goals refine HL_r rfl rfl rfl rfl (R_move rfl) ?_
                                        all_goals first
                                          | (refine HL_skip rfl rfl rfl ?_)
                                          | (refine HL_case 76 rfl (fun hb122 => ?_) (fun hb122 => ?_) <;> (try simp only [decide_eq_true_eq, decide_eq_false_iff_not, beq_iff_eq, beq_eq_false_iff_ne, bne_iff_ne, bne_eq_false_iff_eq, Bool.not_eq_true', Bool.not_eq_false', ne_eq, Int.not_lt, Int.not_le, ge_iff_le, gt_iff_lt] at hb122) <;> first | (refine HL_r rfl rfl rfl rfl (R_fieldAddr rfl rfl (by first | (simp only [Nat.zero_add, Nat.reduceAdd, Nat.reduceMul, Nat.zero_mul, Nat.mul_one, Nat.add_zero]; exact rfl) | exact rfl)) ?_) | (refine HL_skip rfl rfl rfl ?_))
                                        all_goals first
                                          | (refine HL_r rfl rfl rfl rfl (R_load rfl (known_L (k := 0) rfl) rfl rfl) ?_)
                                          | (refine HL_skip rfl rfl rfl ?_)
                                        all_goals first
                                          | (refine HL_r rfl rfl rfl rfl (R_pure rfl rfl rfl) ?_)
                                          | (refine HL_skip rfl rfl rfl ?_)
                                        all_goals first
                                          | (refine HL_r rfl rfl rfl rfl (R_pickT rfl rfl) ?_)
                                          | (refine HL_r rfl rfl rfl rfl (R_pickF rfl rfl) ?_)
                                        all_goals refine HL_r rfl rfl rfl rfl (R_assign rfl) ?_
                                        all_goals refine HL_nil ?_
                                        all_goals (
                                          refine HQ_then ?_
                                          refine hK118 _ _ _ _ ?_; clear hK118 K118
                                          refine HC_ret ?_
                                          refine HQ_blockR ?_
                                          refine HQ_thenR ?_; clear hK2 K2
                                          refine HQ_post rfl rfl (.cons (res_tmp rfl) .nil) (fun w1 hs1 => ?_)
                                          refine ⟨?_, hs1.keep⟩
                                          unfold okForm
                                          simp only [resVal]
                                          simp_all
                                          all_goals first | done | rfl | omega | (rw [Bool.eq_iff_iff]; simp only [Bool.and_eq_true, decide_eq_true_eq]; omega)
                                          skip)
                                        skip)
                                    · try exact Bool.noConfusion h117
                                      all_goals try simp only [decide_eq_true_eq, decide_eq_false_iff_not, beq_iff_eq, beq_eq_false_iff_ne, bne_iff_ne, bne_eq_false_iff_eq, Bool.not_eq_true', Bool.not_eq_false', ne_eq, Int.not_lt, Int.not_le, ge_iff_le, gt_iff_lt] at h117
                                      all_goals (
                                        refine HC_seq fun K125 hK125 => ?_
                                        refine HC_region ?_
                                        all_goals refine HL_r rfl rfl rfl rfl (R_pure rfl rfl rfl) ?_
                                        all_goals refine HL_r rfl rfl rfl rfl (R_assign rfl) ?_
                                        all_goals refine HL_nil ?_
                                        all_goals (
                                          refine HQ_then ?_
                                          refine hK125 _ _ _ _ ?_; clear hK125 K125
                                          refine HC_cond rfl (fun h126 => ?_) (fun h126 => ?_)
                                          · try exact Bool.noConfusion h126
                                            all_goals try simp only [decide_eq_true_eq, decide_eq_false_iff_not, beq_iff_eq, beq_eq_false_iff_ne, bne_iff_ne, bne_eq_false_iff_eq, Bool.not_eq_true', Bool.not_eq_false', ne_eq, Int.not_lt, Int.not_le, ge_iff_le, gt_iff_lt] at h126
                                            all_goals (
                                              refine HC_seq fun K127 hK127 => ?_
                                              refine HC_region ?_
                                              all_goals refine HL_r rfl rfl rfl rfl (R_fieldAddr rfl rfl (by first | (simp only [Nat.zero_add, Nat.reduceAdd, Nat.reduceMul, Nat.zero_mul, Nat.mul_one, Nat.add_zero]; exact rfl) | exact rfl)) ?_
                                              all_goals refine HL_r rfl rfl rfl rfl (R_load rfl (known_L (k := 0) rfl) rfl rfl) ?_
                                              all_goals refine HL_r rfl rfl rfl rfl (R_pure rfl rfl rfl) ?_
                                              all_goals refine HL_r rfl rfl rfl rfl (R_move rfl) ?_
                                              all_goals (refine HL_case 86 rfl (fun hb128 => ?_) (fun hb128 => ?_) <;> (try simp only [decide_eq_true_eq, decide_eq_false_iff_not, beq_iff_eq, beq_eq_false_iff_ne, bne_iff_ne, bne_eq_false_iff_eq, Bool.not_eq_true', Bool.not_eq_false', ne_eq, Int.not_lt, Int.not_le, ge_iff_le, gt_iff_lt] at hb128) <;> first | (refine HL_r rfl rfl rfl rfl (R_fieldAddr rfl rfl (by first | (simp only [Nat.zero_add, Nat.reduceAdd, Nat.reduceMul, Nat.zero_mul, Nat.mul_one, Nat.add_zero]; exact rfl) | exact rfl)) ?_) | (refine HL_skip rfl rfl rfl ?_))
                                              all_goals first
                                                | (refine HL_r rfl rfl rfl rfl (R_load rfl (known_L (k := 0) rfl) rfl rfl) ?_)
                                                | (refine HL_skip rfl rfl rfl ?_)
                                              all_goals first
                                                | (refine HL_r rfl rfl rfl rfl (R_lenPl rfl hs rfl) ?_)
                                                | (refine HL_skip rfl rfl rfl ?_)
                                              all_goals first
                                                | (refine HL_r rfl rfl rfl rfl (R_pure rfl rfl rfl) ?_)
                                                | (refine HL_skip rfl rfl rfl ?_)
                                              all_goals first
                                                | (refine HL_r rfl rfl rfl rfl (R_pickT rfl rfl) ?_)
                                                | (refine HL_r rfl rfl rfl rfl (R_pickF rfl rfl) ?_)
                                              all_goals refine HL_r rfl rfl rfl rfl (R_move rfl) ?_
                                              all_goals first
                                                | (refine HL_skip rfl rfl rfl ?_)
                                                | (refine HL_case 92 rfl (fun hb132 => ?_) (fun hb132 => ?_) <;> (try simp only [decide_eq_true_eq, decide_eq_false_iff_not, beq_iff_eq, beq_eq_false_iff_ne, bne_iff_ne, bne_eq_false_iff_eq, Bool.not_eq_true', Bool.not_eq_false', ne_eq, Int.not_lt, Int.not_le, ge_iff_le, gt_iff_lt] at hb132) <;> first | (refine HL_r rfl rfl rfl rfl (R_fieldAddr rfl rfl (by first | (simp only [Nat.zero_add, Nat.reduceAdd, Nat.reduceMul, Nat.zero_mul, Nat.mul_one, Nat.add_zero]; exact rfl) | exact rfl)) ?_) | (refine HL_skip rfl rfl rfl ?_))
                                              all_goals first
                                                | (refine HL_r rfl rfl rfl rfl (R_load rfl (known_L (k := 0) rfl) rfl rfl) ?_)
                                                | (refine HL_skip rfl rfl rfl ?_)
                                              all_goals first
                                                | (refine HL_r rfl rfl rfl rfl (R_lenPl rfl hs rfl) ?_)
                                                | (refine HL_skip rfl rfl rfl ?_)
                                              all_goals first
                                                | (refine HL_r rfl rfl rfl rfl (R_pure rfl rfl rfl) ?_)
                                                | (refine HL_skip rfl rfl rfl ?_)
                                              all_goals first
                                                | (refine HL_r rfl rfl rfl rfl (R_pickT rfl rfl) ?_)
                                                | (refine HL_r rfl rfl rfl rfl (R_pickF rfl rfl) ?_)
                                              all_goals refine HL_r rfl rfl rfl rfl (R_assign rfl) ?_
                                              all_goals refine HL_nil ?_
                                              all_goals (
                                                refine HQ_then ?_
                                                refine hK127 _ _ _ _ ?_; clear hK127 K127
                                                refine HC_ret ?_
                                                refine HQ_blockR ?_
                                                refine HQ_thenR ?_; clear hK2 K2
                                                refine HQ_post rfl rfl (.cons (res_tmp rfl) .nil) (fun w1 hs1 => ?_)
                                                refine ⟨?_, hs1.keep⟩
                                                unfold okForm
                                                simp only [resVal]
                                                simp_all
                                                all_goals first | done | rfl | omega | (rw [Bool.eq_iff_iff]; simp only [Bool.and_eq_true, decide_eq_true_eq]; omega)
                                                skip)
                                              skip)
                                          · try exact Bool.noConfusion h126
                                            all_goals try simp only [decide_eq_true_eq, decide_eq_false_iff_not, beq_iff_eq, beq_eq_false_iff_ne, bne_iff_ne, bne_eq_false_iff_eq, Bool.not_eq_true', Bool.not_eq_false', ne_eq, Int.not_lt, Int.not_le, ge_iff_le, gt_iff_lt] at h126
                                            all_goals (
                                              refine HC_skip ?_
                                              refine HQ_blockN ?_
                                              refine HQ_then ?_
                                              refine hK2 _ _ _ _ ?_; clear hK2 K2
                                              refine HC_seq fun K136 hK136 => ?_
                                              refine HC_region ?_
                                              all_goals refine HL_r rfl rfl rfl rfl (R_fieldAddr rfl rfl (by first | (simp only [Nat.zero_add, Nat.reduceAdd, Nat.reduceMul, Nat.zero_mul, Nat.mul_one, Nat.add_zero]; exact rfl) | exact rfl)) ?_
                                              all_goals refine HL_r rfl rfl rfl rfl (R_load rfl (known_L (k := 0) rfl) rfl rfl) ?_
                                              all_goals refine HL_r rfl rfl rfl rfl (R_pure rfl rfl rfl) ?_
                                              all_goals refine HL_r rfl rfl rfl rfl (R_move rfl) ?_
                                              all_goals (refine HL_case 101 rfl (fun hb137 => ?_) (fun hb137 => ?_) <;> (try simp only [decide_eq_true_eq, decide_eq_false_iff_not, beq_iff_eq, beq_eq_false_iff_ne, bne_iff_ne, bne_eq_false_iff_eq, Bool.not_eq_true', Bool.not_eq_false', ne_eq, Int.not_lt, Int.not_le, ge_iff_le, gt_iff_lt] at hb137) <;> first | (refine HL_r rfl rfl rfl rfl (R_fieldAddr rfl rfl (by first | (simp only [Nat.zero_add, Nat.reduceAdd, Nat.reduceMul, Nat.zero_mul, Nat.mul_one, Nat.add_zero]; exact rfl) | exact rfl)) ?_) | (refine HL_skip rfl rfl rfl ?_))
                                              all_goals first
                                                | (refine HL_r rfl rfl rfl rfl (R_load rfl (known_L (k := 0) rfl) rfl rfl) ?_)
                                                | (refine HL_skip rfl rfl rfl ?_)
                                              all_goals first
                                                | (refine HL_r rfl rfl rfl rfl (R_lenPl rfl hs rfl) ?_)
                                                | (refine HL_skip rfl rfl rfl ?_)
                                              all_goals first
                                                | (refine HL_r rfl rfl rfl rfl (R_pure rfl rfl rfl) ?_)
                                                | (refine HL_skip rfl rfl rfl ?_)
                                              all_goals first
                                                | (refine HL_r rfl rfl rfl rfl (R_pickT rfl rfl) ?_)
                                                | (refine HL_r rfl rfl rfl rfl (R_pickF rfl rfl) ?_)
                                              all_goals refine HL_r rfl rfl rfl rfl (R_move rfl) ?_
                                              all_goals first
                                                | (refine HL_skip rfl rfl rfl ?_)
                                                | (refine HL_case 107 rfl (fun hb141 => ?_) (fun hb141 => ?_) <;> (try simp only [decide_eq_true_eq, decide_eq_false_iff_not, beq_iff_eq, beq_eq_false_iff_ne, bne_iff_ne, bne_eq_false_iff_eq, Bool.not_eq_true', Bool.not_eq_false', ne_eq, Int.not_lt, Int.not_le, ge_iff_le, gt_iff_lt] at hb141) <;> first | (refine HL_r rfl rfl rfl rfl (R_fieldAddr rfl rfl (by first | (simp only [Nat.zero_add, Nat.reduceAdd, Nat.reduceMul, Nat.zero_mul, Nat.mul_one, Nat.add_zero]; exact rfl) | exact rfl)) ?_) | (refine HL_skip rfl rfl rfl ?_))
                                              all_goals first
                                                | (refine HL_r rfl rfl rfl rfl (R_load rfl (known_L (k := 0) rfl) rfl rfl) ?_)
                                                | (refine HL_skip rfl rfl rfl ?_)
                                              all_goals first
                                                | (refine HL_r rfl rfl rfl rfl (R_lenPl rfl hs rfl) ?_)
                                                | (refine HL_skip rfl rfl rfl ?_)
                                              all_goals first
                                                | (refine HL_r rfl rfl rfl rfl (R_pure rfl rfl rfl) ?_)
                                                | (refine HL_skip rfl rfl rfl ?_)
                                              all_goals first
                                                | (refine HL_r rfl rfl rfl rfl (R_pickT rfl rfl) ?_)
                                                | (refine HL_r rfl rfl rfl rfl (R_pickF rfl rfl) ?_)
                                              all_goals refine HL_r rfl rfl rfl rfl (R_assign rfl) ?_
                                              all_goals refine HL_nil ?_
                                              all_goals (
                                                refine HQ_then ?_
                                                refine hK136 _ _ _ _ ?_; clear hK136 K136
                                                refine HC_ret ?_
                                                refine HQ_post rfl rfl (.cons (res_tmp rfl) .nil) (fun w1 hs1 => ?_)
                                                refine ⟨?_, hs1.keep⟩
                                                unfold okForm
                                                simp only [resVal]
                                                simp_all
                                                all_goals first | done | rfl | omega | (rw [Bool.eq_iff_iff]; simp only [Bool.and_eq_true, decide_eq_true_eq]; omega)
                                                skip)
                                              skip)
                                          skip)
                                        skip)
                                    skip)
                                · try exact Bool.noConfusion h116
                                  all_goals try simp only [decide_eq_true_eq, decide_eq_false_iff_not, beq_iff_eq, beq_eq_false_iff_ne, bne_iff_ne, bne_eq_false_iff_eq, Bool.not_eq_true', Bool.not_eq_false', ne_eq, Int.not_lt, Int.not_le, ge_iff_le, gt_iff_lt] at h116
                                  all_goals (
                                    refine HC_region ?_
                                    all_goals refine HL_r rfl rfl rfl rfl (R_pure rfl rfl rfl) ?_
                                    all_goals refine HL_r rfl rfl rfl rfl (R_assign rfl) ?_
                                    all_goals refine HL_nil ?_
                                    all_goals (
                                      refine HQ_then ?_
                                      refine hK114 _ _ _ _ ?_; clear hK114 K114
                                      refine HC_cond rfl (fun h145 => ?_) (fun h145 => ?_)
                                      · try exact Bool.noConfusion h145
                                        all_goals try simp only [decide_eq_true_eq, decide_eq_false_iff_not, beq_iff_eq, beq_eq_false_iff_ne, bne_iff_ne, bne_eq_false_iff_eq, Bool.not_eq_true', Bool.not_eq_false', ne_eq, Int.not_lt, Int.not_le, ge_iff_le, gt_iff_lt] at h145
                                        all_goals (
                                          refine HC_seq fun K146 hK146 => ?_
                                          refine HC_region ?_
                                          all_goals refine HL_r rfl rfl rfl rfl (R_fieldAddr rfl rfl (by first | (simp only [Nat.zero_add, Nat.reduceAdd, Nat.reduceMul, Nat.zero_mul, Nat.mul_one, Nat.add_zero]; exact rfl) | exact rfl)) ?_
                                          all_goals refine HL_r rfl rfl rfl rfl (R_load rfl (known_L (k := 0) rfl) rfl rfl) ?_
                                          all_goals (refine HL_r rfl rfl rfl rfl (R_lenPl rfl hs rfl) ?_)
                                          all_goals refine HL_r rfl rfl rfl rfl (R_pure rfl rfl rfl) ?_
                                          all_goals refine HL_r rfl rfl rfl rfl (R_move rfl) ?_
                                          all_goals (refine HL_case 71 rfl (fun hb147 => ?_) (fun hb147 => ?_) <;> (try simp only [decide_eq_true_eq, decide_eq_false_iff_not, beq_iff_eq, beq_eq_false_iff_ne, bne_iff_ne, bne_eq_false_iff_eq, Bool.not_eq_true', Bool.not_eq_false', ne_eq, Int.not_lt, Int.not_le, ge_iff_le, gt_iff_lt] at hb147) <;> first | (refine HL_r rfl rfl rfl rfl (R_fieldAddr rfl rfl (by first | (simp only [Nat.zero_add, Nat.reduceAdd, Nat.reduceMul, Nat.zero_mul, Nat.mul_one, Nat.add_zero]; exact rfl) | exact rfl)) ?_) | (refine HL_skip rfl rfl rfl ?_))
                                          all_goals first
                                            | (refine HL_r rfl rfl rfl rfl (R_load rfl (known_L (k := 0) rfl) rfl rfl) ?_)
                                            | (refine HL_skip rfl rfl rfl ?_)
                                          all_goals first
                                            | (refine HL_r rfl rfl rfl rfl (R_pure rfl rfl rfl) ?_)
                                            | (refine HL_skip rfl rfl rfl ?_)
                                          all_goals first
                                            | (refine HL_r rfl rfl rfl rfl (R_pickT rfl rfl) ?_)
                                            | (refine HL_r rfl rfl rfl rfl (R_pickF rfl rfl) ?_)
                                          all_goals refine HL_r rfl rfl rfl rfl (R_move rfl) ?_
                                          all_goals first
                                            | (refine HL_skip rfl rfl rfl ?_)
                                            | (refine HL_case 76 rfl (fun hb150 => ?_) (fun hb150 => ?_) <;> (try simp only [decide_eq_true_eq, decide_eq_false_iff_not, beq_iff_eq, beq_eq_false_iff_ne, bne_iff_ne, bne_eq_false_iff_eq, Bool.not_eq_true', Bool.not_eq_false', ne_eq, Int.not_lt, Int.not_le, ge_iff_le, gt_iff_lt] at hb150) <;> first | (refine HL_r rfl rfl rfl rfl (R_fieldAddr rfl rfl (by first | (simp only [Nat.zero_add, Nat.reduceAdd, Nat.reduceMul, Nat.zero_mul, Nat.mul_one, Nat.add_zero]; exact rfl) | exact rfl)) ?_) | (refine HL_skip rfl rfl rfl ?_))
                                          all_goals first
                                            | (refine HL_r rfl rfl rfl rfl (R_load rfl (known_L (k := 0) rfl) rfl rfl) ?_)
                                            | (refine HL_skip rfl rfl rfl ?_)
                                          all_goals first
                                            | (refine HL_r rfl rfl rfl rfl (R_pure rfl rfl rfl) ?_)
                                            | (refine HL_skip rfl rfl rfl ?_)
                                          all_goals first
                                            | (refine HL_r rfl rfl rfl rfl (R_pickT rfl rfl) ?_)
                                            | (refine HL_r rfl rfl rfl rfl (R_pickF rfl rfl) ?_)
                                          all_goals refine HL_r rfl rfl rfl rfl (R_assign rfl) ?_
                                          all_goals refine HL_nil ?_
                                          all_goals (
                                            refine HQ_then ?_
                                            refine hK146 _ _ _ _ ?_; clear hK146 K146
                                            refine HC_ret ?_
                                            refine HQ_blockR ?_
                                            refine HQ_thenR ?_; clear hK2 K2
                                            refine HQ_post rfl rfl (.cons (res_tmp rfl) .nil) (fun w1 hs1 => ?_)
                                            refine ⟨?_, hs1.keep⟩
                                            unfold okForm
                                            simp only [resVal]
                                            simp_all
                                            all_goals first | done | rfl | omega | (rw [Bool.eq_iff_iff]; simp only [Bool.and_eq_true, decide_eq_true_eq]; omega)
                                            skip)
                                          skip)
                                      · try exact Bool.noConfusion h145
                                        all_goals try simp only [decide_eq_true_eq, decide_eq_false_iff_not, beq_iff_eq, beq_eq_false_iff_ne, bne_iff_ne, bne_eq_false_iff_eq, Bool.not_eq_true', Bool.not_eq_false', ne_eq, Int.not_lt, Int.not_le, ge_iff_le, gt_iff_lt] at h145
                                        all_goals (
                                          refine HC_seq fun K153 hK153 => ?_
                                          refine HC_region ?_
                                          all_goals refine HL_r rfl rfl rfl rfl (R_pure rfl rfl rfl) ?_
                                          all_goals refine HL_r rfl rfl rfl rfl (R_assign rfl) ?_
                                          all_goals refine HL_nil ?_
                                          all_goals (
                                            refine HQ_then ?_
                                            refine hK153 _ _ _ _ ?_; clear hK153 K153
                                            refine HC_cond rfl (fun h154 => ?_) (fun h154 => ?_)
                                            · try exact Bool.noConfusion h154
                                              all_goals try simp only [decide_eq_true_eq, decide_eq_false_iff_not, beq_iff_eq, beq_eq_false_iff_ne, bne_iff_ne, bne_eq_false_iff_eq, Bool.not_eq_true', Bool.not_eq_false', ne_eq, Int.not_lt, Int.not_le, ge_iff_le, gt_iff_lt] at h154
                                              all_goals (
                                                refine HC_seq fun K155 hK155 => ?_
                                                refine HC_region ?_
                                                all_goals refine HL_r rfl rfl rfl rfl (R_fieldAddr rfl rfl (by first | (simp only [Nat.zero_add, Nat.reduceAdd, Nat.reduceMul, Nat.zero_mul, Nat.mul_one, Nat.add_zero]; exact rfl) | exact rfl)) ?_
                                                all_goals refine HL_r rfl rfl rfl rfl (R_load rfl (known_L (k := 0) rfl) rfl rfl) ?_
                                                all_goals refine HL_r rfl rfl rfl rfl (R_pure rfl rfl rfl) ?_
                                                all_goals refine HL_r rfl rfl rfl rfl (R_move rfl) ?_
                                                all_goals (refine HL_case 86 rfl (fun hb156 => ?_) (fun hb156 => ?_) <;> (try simp only [decide_eq_true_eq, decide_eq_false_iff_not, beq_iff_eq, beq_eq_false_iff_ne, bne_iff_ne, bne_eq_false_iff_eq, Bool.not_eq_true', Bool.not_eq_false', ne_eq, Int.not_lt, Int.not_le, ge_iff_le, gt_iff_lt] at hb156) <;> first | (refine HL_r rfl rfl rfl rfl (R_fieldAddr rfl rfl (by first | (simp only [Nat.zero_add, Nat.reduceAdd, Nat.reduceMul, Nat.zero_mul, Nat.mul_one, Nat.add_zero]; exact rfl) | exact rfl)) ?_) | (refine HL_skip rfl rfl rfl ?_))
                                                all_goals first
                                                  | (refine HL_r rfl rfl rfl rfl (R_load rfl (known_L (k := 0) rfl) rfl rfl) ?_)
                                                  | (refine HL_skip rfl rfl rfl ?_)
                                                all_goals first
                                                  | (refine HL_r rfl rfl rfl rfl (R_lenPl rfl hs rfl) ?_)
                                                  | (refine HL_skip rfl rfl rfl ?_)
                                                all_goals first
                                                  | (refine HL_r rfl rfl rfl rfl (R_pure rfl rfl rfl) ?_)
                                                  | (refine HL_skip rfl rfl rfl ?_)
                                                all_goals first
                                                  | (refine HL_r rfl rfl rfl rfl (R_pickT rfl rfl) ?_)
                                                  | (refine HL_r rfl rfl rfl rfl (R_pickF rfl rfl) ?_)
                                                all_goals refine HL_r rfl rfl rfl rfl (R_move rfl) ?_
                                                all_goals first
                                                  | (refine HL_skip rfl rfl rfl ?_)
                                                  | (refine HL_case 92 rfl (fun hb160 => ?_) (fun hb160 => ?_) <;> (try simp only [decide_eq_true_eq, decide_eq_false_iff_not, beq_iff_eq, beq_eq_false_iff_ne, bne_iff_ne, bne_eq_false_iff_eq, Bool.not_eq_true', Bool.not_eq_false', ne_eq, Int.not_lt, Int.not_le, ge_iff_le, gt_iff_lt] at hb160) <;> first | (refine HL_r rfl rfl rfl rfl (R_fieldAddr rfl rfl (by first | (simp only [Nat.zero_add, Nat.reduceAdd, Nat.reduceMul, Nat.zero_mul, Nat.mul_one, Nat.add_zero]; exact rfl) | exact rfl)) ?_) | (refine HL_skip rfl rfl rfl ?_))
                                                all_goals first
                                                  | (refine HL_r rfl rfl rfl rfl (R_load rfl (known_L (k := 0) rfl) rfl rfl) ?_)
                                                  | (refine HL_skip rfl rfl rfl ?_)
                                                all_goals first
                                                  | (refine HL_r rfl rfl rfl rfl (R_lenPl rfl hs rfl) ?_)
                                                  | (refine HL_skip rfl rfl rfl ?_)
                                                all_goals first
                                                  | (refine HL_r rfl rfl rfl rfl (R_pure rfl rfl rfl) ?_)
                                                  | (refine HL_skip rfl rfl rfl ?_)
                                                all_goals first
                                                  | (refine HL_r rfl rfl rfl rfl (R_pickT rfl rfl) ?_)
                                                  | (refine HL_r rfl rfl rfl rfl (R_pickF rfl rfl) ?_)
                                                all_goals refine HL_r rfl rfl rfl rfl (R_assign rfl) ?_
                                                all_goals refine HL_nil ?_
                                                all_goals (
                                                  refine HQ_then ?_
                                                  refine hK155 _ _ _ _ ?_; clear hK155 K155
                                                  refine HC_ret ?_
                                                  refine HQ_blockR ?_
                                                  refine HQ_thenR ?_; clear hK2 K2
                                                  refine HQ_post rfl rfl (.cons (res_tmp rfl) .nil) (fun w1 hs1 => ?_)
                                                  refine ⟨?_, hs1.keep⟩
                                                  unfold okForm
                                                  simp only [resVal]
                                                  simp_all
                                                  all_goals first | done | rfl | omega | (rw [Bool.eq_iff_iff]; simp only [Bool.and_eq_true, decide_eq_true_eq]; omega)
                                                  skip)
                                                skip)
                                            · try exact Bool.noConfusion h154
                                              all_goals try simp only [decide_eq_true_eq, decide_eq_false_iff_not, beq_iff_eq, beq_eq_false_iff_ne, bne_iff_ne, bne_eq_false_iff_eq, Bool.not_eq_true', Bool.not_eq_false', ne_eq, Int.not_lt, Int.not_le, ge_iff_le, gt_iff_lt] at h154
                                              all_goals (
                                                refine HC_skip ?_
                                                refine HQ_blockN ?_
                                                refine HQ_then ?_
                                                refine hK2 _ _ _ _ ?_; clear hK2 K2
                                                refine HC_seq fun K164 hK164 => ?_
                                                refine HC_region ?_
                                                all_goals refine HL_r rfl rfl rfl rfl (R_fieldAddr rfl rfl (by first | (simp only [Nat.zero_add, Nat.reduceAdd, Nat.reduceMul, Nat.zero_mul, Nat.mul_one, Nat.add_zero]; exact rfl) | exact rfl)) ?_
                                                all_goals refine HL_r rfl rfl rfl rfl (R_load rfl (known_L (k := 0) rfl) rfl rfl) ?_
                                                all_goals refine HL_r rfl rfl rfl rfl (R_pure rfl rfl rfl) ?_
                                                all_goals refine HL_r rfl rfl rfl rfl (R_move rfl) ?_
                                                all_goals (refine HL_case 101 rfl (fun hb165 => ?_) (fun hb165 => ?_) <;> (try simp only [decide_eq_true_eq, decide_eq_false_iff_not, beq_iff_eq, beq_eq_false_iff_ne, bne_iff_ne, bne_eq_false_iff_eq, Bool.not_eq_true', Bool.not_eq_false', ne_eq, Int.not_lt, Int.not_le, ge_iff_le, gt_iff_lt] at hb165) <;> first | (refine HL_r rfl rfl rfl rfl (R_fieldAddr rfl rfl (by first | (simp only [Nat.zero_add, Nat.reduceAdd, Nat.reduceMul, Nat.zero_mul, Nat.mul_one, Nat.add_zero]; exact rfl) | exact rfl)) ?_) | (refine HL_skip rfl rfl rfl ?_))
                                                all_goals first
                                                  | (refine HL_r rfl rfl rfl rfl (R_load rfl (known_L (k := 0) rfl) rfl rfl) ?_)
                                                  | (refine HL_skip rfl rfl rfl ?_)
                                                all_goals first
                                                  | (refine HL_r rfl rfl rfl rfl (R_lenPl rfl hs rfl) ?_)
                                                  | (refine HL_skip rfl rfl rfl ?_)
                                                all_goals first
                                                  | (refine HL_r rfl rfl rfl rfl (R_pure rfl rfl rfl) ?_)
                                                  | (refine HL_skip rfl rfl rfl ?_)
                                                all_goals first
                                                  | (refine HL_r rfl rfl rfl rfl (R_pickT rfl rfl) ?_)
                                                  | (refine HL_r rfl rfl rfl rfl (R_pickF rfl rfl) ?_)
                                                all_goals refine HL_r rfl rfl rfl rfl (R_move rfl) ?_
                                                all_goals first
                                                  | (refine HL_skip rfl rfl rfl ?_)
                                                  | (refine HL_case 107 rfl (fun hb169 => ?_) (fun hb169 => ?_) <;> (try simp only [decide_eq_true_eq, decide_eq_false_iff_not, beq_iff_eq, beq_eq_false_iff_ne, bne_iff_ne, bne_eq_false_iff_eq, Bool.not_eq_true', Bool.not_eq_false', ne_eq, Int.not_lt, Int.not_le, ge_iff_le, gt_iff_lt] at hb169) <;> first | (refine HL_r rfl rfl rfl rfl (R_fieldAddr rfl rfl (by first | (simp only [Nat.zero_add, Nat.reduceAdd, Nat.reduceMul, Nat.zero_mul, Nat.mul_one, Nat.add_zero]; exact rfl) | exact rfl)) ?_) | (refine HL_skip rfl rfl rfl ?_))
                                                all_goals first
                                                  | (refine HL_r rfl rfl rfl rfl (R_load rfl (known_L (k := 0) rfl) rfl rfl) ?_)
                                                  | (refine HL_skip rfl rfl rfl ?_)
                                                all_goals first
                                                  | (refine HL_r rfl rfl rfl rfl (R_lenPl rfl hs rfl) ?_)
                                                  | (refine HL_skip rfl rfl rfl ?_)
                                                all_goals first
                                                  | (refine HL_r rfl rfl rfl rfl (R_pure rfl rfl rfl) ?_)
                                                  | (refine HL_skip rfl rfl rfl ?_)
                                                all_goals first
                                                  | (refine HL_r rfl rfl rfl rfl (R_pickT rfl rfl) ?_)
                                                  | (refine HL_r rfl rfl rfl rfl (R_pickF rfl rfl) ?_)
                                                all_goals refine HL_r rfl rfl rfl rfl (R_assign rfl) ?_
                                                all_goals refine HL_nil ?_
                                                all_goals (
                                                  refine HQ_then ?_
                                                  refine hK164 _ _ _ _ ?_; clear hK164 K164
                                                  refine HC_ret ?_
                                                  refine HQ_post rfl rfl (.cons (res_tmp rfl) .nil) (fun w1 hs1 => ?_)
                                                  refine ⟨?_, hs1.keep⟩
                                                  unfold okForm
                                                  simp only [resVal]
                                                  simp_all
                                                  all_goals first | done | rfl | omega | (rw [Bool.eq_iff_iff]; simp only [Bool.and_eq_true, decide_eq_true_eq]; omega)
                                                  skip)
                                                skip)
                                            skip)
                                          skip)
                                      skip)
                                    skip)
                                skip)
                              skip)
                          skip)
                        skip)
                    skip)
                  skip)
              skip)
            skip)
        skip)
      skip)
    skip)
end Go.Proofs.YtdadaddakcidjaaDoor
