import Derived.Test.YtlcbfphioeppaaaGreatDoorQga
import Derived.Test.YtlcbfphioeppaaaGreatDoorProg
import Derived.Laws.Externs
import Derived.Shelf.Spec.BitsCarry
import Derived.Test.YtlcbfphioeppaaaGreatDoorShelf
namespace Go.Proofs.YtlcbfphioeppaaaGreatDoor
set_option linter.all false
open Go.SL Go.RowKit Go.Shelf
set_option maxRecDepth 10000 in
theorem S_ref_Types {R : List (Nat × Obj)} {t : Ty} (ht : t.In R) : ∀ most deep : Int, 0 ≤ most → most ≤ 1000 → -1 ≤ deep → deep ≤ 100 → PureR Tryz.prog 65 [t.val, .int .i64 most, .int .i64 deep].toArray (.int .i64 (typN t most deep)) R := by
  induction ht with
  | @mk k n p ins hk hn hl hs hi ih =>
  intro most deep hm0 hm1 hd0 hd1; refine pureR_of_HC Tryz.func65 rfl rfl fun w => ?_; refine HC_seq fun K1 hK1 => HC_region ?_; refine HL_box (cs := #[_, _, _]) rfl rfl rfl rfl fun r1 => ?_; refine HLm rfl ?_; refine HL_nil (hK1 _ _ _ _ ?_); refine HC_seq fun K2 hK2 => HC_region ?_; refine HLm rfl ?_; refine HL_nil (hK2 _ _ _ _ ?_); refine HC_seq fun K3 hK3 => ?_; refine HC_seq fun K4 hK4 => HC_region ?_; refine HLm rfl (HLp rfl ?_); refine HL_nil (hK4 _ _ _ _ ?_); refine HC_cond rfl (fun h5 => ?_) (fun h5 => ?_)
  · try exact Bool.noConfusion h5
    try simp only [ZZ] at h5
    refine HC_seq fun K6 hK6 => HC_region ?_; refine HLm rfl (HLp rfl (HL_wrap_i64 (by omega) (by omega) ?_)); refine HLm rfl ?_; refine HL_nil (hK6 _ _ _ _ ?_); refine HC_ret (HQ_thenR ?_); refine HQ_post rfl rfl (.cons (res_tmp rfl) .nil) (fun w1 hs1 => ?_); refine ⟨?_, hs1.keep⟩; rw [typN, if_pos (by omega)]; rfl
  · try exact Bool.noConfusion h5
    try simp only [ZZ] at h5
    refine HC_skip (hK3 _ _ _ _ ?_); refine HC_seq fun K7 hK7 => ?_; refine HC_seq fun K8 hK8 => HC_region ?_; refine HLm rfl ?_; refine HL_nil (hK8 _ _ _ _ ?_); refine HC_block (HC_loop (σ := Nat × Int) (fun s => s.1 ≤ ins.length ∧ 1 ≤ s.2 ∧ s.2 ≤ most + 1 ∧ typL (ins.drop s.1) most deep s.2 = typL ins most deep 1) (fun s => [(1, .int .i64 most), (2, .int .i64 deep), (3, .pointer (some ⟨r1, 0, none⟩)), (7, .int .i64 s.2), (8, .int .i64 (s.1 : Int))]) (fun _ => [(r1, .cells #[.int .i64 k, .int .i64 n, plV ins.length p] 24 (0, 0))]) (fun _ _ _ => True) (fun s => ins.length - s.1) (0, 1) ⟨by omega, by omega, by omega, rfl⟩ (.cons rfl (.cons rfl (.cons rfl (.cons rfl (.cons rfl .nil))))) (List.Sublist.refl _) (fun _ _ h => h) ?_); rintro ⟨i, m⟩ ⟨hi1, hm2, hm3, hinv⟩; refine HC_seq fun K9 hK9 => ?_; refine HC_seq fun K10 hK10 => HC_region ?_; refine HLm rfl ?_
    refine HL_r rfl rfl rfl rfl (R_fieldAddr rfl rfl (by first | (simp only [Nat.zero_add, Nat.reduceAdd, Nat.reduceMul, Nat.zero_mul, Nat.mul_one, Nat.add_zero]; exact rfl) | exact rfl)) ?_; refine HL_r rfl rfl rfl rfl (R_load rfl (known_L (k := 0) rfl) rfl rfl) ?_; refine HL_r rfl rfl rfl rfl (R_lenPl rfl hs rfl) ?_; refine HLp rfl (HLm rfl ?_)
    refine HL_case 18 rfl (fun hb11 => ?_) (fun hb11 => ?_) <;> (try simp only [ZZ] at hb11) <;> first | (refine HLm rfl ?_) | (refine HL_skip rfl rfl rfl ?_)
    all_goals first
      | (refine HLm rfl ?_)
      | (refine HL_skip rfl rfl rfl ?_)
    all_goals first
      | (refine HLp rfl ?_)
      | (refine HL_skip rfl rfl rfl ?_)
    all_goals first
      | (refine HL_r rfl rfl rfl rfl (R_pickT rfl rfl) ?_)
      | (refine HL_r rfl rfl rfl rfl (R_pickF rfl rfl) ?_)
    all_goals refine HL_nil ?_
    all_goals (
     refine hK10 _ _ _ _ ?_; refine HC_cond rfl (fun h14 => ?_) (fun h14 => ?_)
     · try exact Bool.noConfusion h14
       all_goals try simp only [ZZ] at h14
       all_goals (
        refine HC_skip (hK9 _ _ _ _ ?_); refine HC_seq fun K15 hK15 => HC_block ?_
        obtain ⟨y, hy, hmem⟩ := getI (show i < ins.length by omega)
        have hyb := typN_le y (most - m) (deep - 1) (by omega)
        rw [dropI hy, typL, if_pos (by omega)] at hinv; refine HC_region (HLm rfl ?_)
        refine HL_r rfl rfl rfl rfl (R_fieldAddr rfl rfl (by first | (simp only [Nat.zero_add, Nat.reduceAdd, Nat.reduceMul, Nat.zero_mul, Nat.mul_one, Nat.add_zero]; exact rfl) | exact rfl)) ?_; refine HL_r rfl rfl rfl rfl (R_load rfl (known_L (k := 0) rfl) rfl rfl) ?_; refine HLm rfl (HL_r rfl rfl rfl rfl (R_indexPl (j := i) rfl hs rfl rfl rfl rfl (by omega)) (HL_r rfl rfl rfl rfl (R_loadTy (fun q hq => Or.inr hq) rfl hs hy rfl rfl) ?_)); refine HLm rfl (HLm rfl ?_); refine HLp rfl (HL_wrap_i64 (by omega) (by omega) ?_); refine HLm rfl (HLp rfl (HL_wrap_i64 (by omega) (by omega) ?_)); refine HL_callR rfl rfl rfl (enters_of Tryz.func65 (by kernel_rfl) rfl) (ih y hmem (most - m) (deep - 1) (by omega) (by omega) (by omega) (by omega)) (fun q hq => Or.inr hq) ?_; refine HLp rfl (HL_wrap_i64 (by omega) (by omega) ?_); refine HLm rfl (HL_nil ?_); refine HQ_blockN (hK15 _ _ _ _ ?_); refine HC_region (HLm rfl ?_); refine HLp rfl (HL_wrap_i64 (by omega) (by omega) ?_); refine HLm rfl (HL_nil (HQ_then ?_)); exact HQ_again (i + 1, m + typN y (most - m) (deep - 1)) ⟨by omega, by omega, by omega, hinv⟩ (by simp only; omega) (.cons rfl (.cons rfl (.cons rfl (.cons rfl (.cons rfl .nil))))) (List.Sublist.refl _) (fun _ _ h => h)
        skip)
     · try exact Bool.noConfusion h14
       try simp only [ZZ] at h14
       refine HC_exit (HQ_thenE ?_); refine HQ_thenE (HQ_blockE (hK7 _ _ _ _ ?_)); refine HC_seq fun K16 hK16 => HC_region ?_; refine HLm rfl (HLm rfl ?_); refine HL_nil (hK16 _ _ _ _ ?_); refine HC_ret ?_; refine HQ_post rfl rfl (.cons (res_tmp rfl) .nil) (fun w1 hs1 => ?_); refine ⟨?_, hs1.keep⟩
       rw [typN, if_neg (by omega), ← hinv]; first | (rw [List.drop_of_length_le (by omega), typL]; rfl) | (obtain ⟨y, hy, _⟩ := getI (show i < ins.length by omega); rw [dropI hy, typL, if_neg (by omega)]; rfl)
     skip)
set_option maxRecDepth 10000 in
theorem S_ref_Vals {R : List (Nat × Obj)} {t : Vl} (ht : t.In R) : ∀ most deep : Int, 0 ≤ most → most ≤ 1000 → -1 ≤ deep → deep ≤ 100 → PureR Tryz.prog 66 [t.val, .int .i64 most, .int .i64 deep].toArray (.int .i64 (valN t most deep)) R := by
  induction ht with
  | @mk a b c d bits pb items pi pick ha hb hc hd hlb hsb hl hs hp hi ih =>
  intro most deep hm0 hm1 hd0 hd1; refine pureR_of_HC Tryz.func66 rfl rfl fun w => ?_; refine HC_seq fun K1 hK1 => HC_region ?_; refine HL_box (cs := #[_, _, _, _, _, _, _]) rfl rfl rfl rfl fun r1 => ?_; refine HLm rfl ?_; refine HL_nil (hK1 _ _ _ _ ?_); refine HC_seq fun K2 hK2 => HC_region ?_
  refine HL_r rfl rfl rfl rfl (R_fieldAddr rfl rfl (by first | (simp only [Nat.zero_add, Nat.reduceAdd, Nat.reduceMul, Nat.zero_mul, Nat.mul_one, Nat.add_zero]; exact rfl) | exact rfl)) ?_; refine HL_r rfl rfl rfl rfl (R_load rfl (known_L (k := 0) rfl) rfl rfl) ?_; refine HL_r rfl rfl rfl rfl (R_lenPl rfl hsb rfl) ?_; refine HLp rfl (HL_quo (by omega) (by omega) (by omega) ?_); refine HLp rfl (HL_wrap_i64 (by omega) (by omega) (HLm rfl ?_)); refine HL_nil (hK2 _ _ _ _ ?_); refine HC_seq fun K3 hK3 => ?_; refine HC_seq fun K4 hK4 => HC_region ?_; refine HLm rfl (HLp rfl (HLm rfl ?_))
  refine HL_case 16 rfl (fun hb5 => ?_) (fun hb5 => ?_) <;> (try simp only [ZZ] at hb5) <;> first | (refine HLm rfl ?_) | (refine HL_skip rfl rfl rfl ?_)
  all_goals first
    | (refine HLm rfl ?_)
    | (refine HL_skip rfl rfl rfl ?_)
  all_goals first
    | (refine HLp rfl ?_)
    | (refine HL_skip rfl rfl rfl ?_)
  all_goals first
    | (refine HL_r rfl rfl rfl rfl (R_pickT rfl rfl) ?_)
    | (refine HL_r rfl rfl rfl rfl (R_pickF rfl rfl) ?_)
  all_goals refine HL_nil ?_
  all_goals (
   refine hK4 _ _ _ _ ?_; refine HC_cond rfl (fun h8 => ?_) (fun h8 => ?_)
   · try exact Bool.noConfusion h8
     try simp only [ZZ] at h8
     refine HC_seq fun K9 hK9 => HC_region ?_; refine HLm rfl (HLp rfl (HL_wrap_i64 (by omega) (by omega) ?_)); refine HLm rfl ?_; refine HL_nil (hK9 _ _ _ _ ?_); refine HC_ret (HQ_thenR ?_); refine HQ_post rfl rfl (.cons (res_tmp rfl) .nil) (fun w1 hs1 => ?_); refine ⟨?_, hs1.keep⟩; rw [valN, if_pos (by omega)]; rfl
   · try exact Bool.noConfusion h8
     all_goals try simp only [ZZ] at h8
     all_goals (
      refine HC_skip (hK3 _ _ _ _ ?_); refine HC_seq fun K10 hK10 => ?_; refine HC_seq fun K11 hK11 => HC_region ?_; refine HLm rfl ?_; refine HL_nil (hK11 _ _ _ _ ?_); refine HC_block ?_
      obtain ⟨z, hz⟩ : ∃ z : Int, z = 1 + (bits.length : Int) / 8 := ⟨_, rfl⟩
      refine HC_loop (σ := Nat × Int) (fun s => s.1 ≤ items.length ∧ 1 ≤ s.2 ∧ s.2 ≤ most + 1 ∧ valL (items.drop s.1) most deep s.2 = valL items most deep z) (fun s => [(1, .int .i64 most), (2, .int .i64 deep), (3, .pointer (some ⟨r1, 0, none⟩)), (7, .int .i64 s.2), (8, .int .i64 (s.1 : Int))]) (fun _ => [(r1, .cells #[uV a, uV b, uV c, uV d, plV bits.length pb, plV items.length pi, .int .i64 pick] 31 (0, 0))]) (fun _ _ _ => True) (fun s => items.length - s.1) (0, z) ⟨by omega, by omega, by omega, rfl⟩ (by rw [hz]; exact (.cons rfl (.cons rfl (.cons rfl (.cons rfl (.cons rfl .nil)))))) (List.Sublist.refl _) (fun _ _ h => h) ?_; rintro ⟨i, m⟩ ⟨hi1, hm2, hm3, hinv⟩; refine HC_seq fun K12 hK12 => ?_; refine HC_seq fun K13 hK13 => HC_region ?_; refine HLm rfl ?_
      refine HL_r rfl rfl rfl rfl (R_fieldAddr rfl rfl (by first | (simp only [Nat.zero_add, Nat.reduceAdd, Nat.reduceMul, Nat.zero_mul, Nat.mul_one, Nat.add_zero]; exact rfl) | exact rfl)) ?_; refine HL_r rfl rfl rfl rfl (R_load rfl (known_L (k := 0) rfl) rfl rfl) ?_; refine HL_r rfl rfl rfl rfl (R_lenPl rfl hs rfl) ?_; refine HLp rfl (HLm rfl ?_)
      refine HL_case 28 rfl (fun hb14 => ?_) (fun hb14 => ?_) <;> (try simp only [ZZ] at hb14) <;> first | (refine HLm rfl ?_) | (refine HL_skip rfl rfl rfl ?_)
      all_goals first
        | (refine HLm rfl ?_)
        | (refine HL_skip rfl rfl rfl ?_)
      all_goals first
        | (refine HLp rfl ?_)
        | (refine HL_skip rfl rfl rfl ?_)
      all_goals first
        | (refine HL_r rfl rfl rfl rfl (R_pickT rfl rfl) ?_)
        | (refine HL_r rfl rfl rfl rfl (R_pickF rfl rfl) ?_)
      all_goals refine HL_nil ?_
      all_goals (
       refine hK13 _ _ _ _ ?_; refine HC_cond rfl (fun h17 => ?_) (fun h17 => ?_)
       · try exact Bool.noConfusion h17
         all_goals try simp only [ZZ] at h17
         all_goals (
          refine HC_skip (hK12 _ _ _ _ ?_); refine HC_seq fun K18 hK18 => HC_block ?_
          obtain ⟨y, hy, hmem⟩ := getI (show i < items.length by omega)
          have hyb := valN_le y (most - m) (deep - 1) (by omega)
          rw [dropI hy, valL, if_pos (by omega)] at hinv; refine HC_region (HLm rfl ?_)
          refine HL_r rfl rfl rfl rfl (R_fieldAddr rfl rfl (by first | (simp only [Nat.zero_add, Nat.reduceAdd, Nat.reduceMul, Nat.zero_mul, Nat.mul_one, Nat.add_zero]; exact rfl) | exact rfl)) ?_; refine HL_r rfl rfl rfl rfl (R_load rfl (known_L (k := 0) rfl) rfl rfl) ?_; refine HLm rfl (HL_r rfl rfl rfl rfl (R_indexPl (j := i) rfl hs rfl rfl rfl rfl (by omega)) (HL_r rfl rfl rfl rfl (R_loadVl (fun q hq => Or.inr hq) rfl hs hy rfl rfl) ?_)); refine HLm rfl (HLm rfl ?_); refine HLp rfl (HL_wrap_i64 (by omega) (by omega) ?_); refine HLm rfl (HLp rfl (HL_wrap_i64 (by omega) (by omega) ?_)); refine HL_callR rfl rfl rfl (enters_of Tryz.func66 (by kernel_rfl) rfl) (ih y hmem (most - m) (deep - 1) (by omega) (by omega) (by omega) (by omega)) (fun q hq => Or.inr hq) ?_; refine HLp rfl (HL_wrap_i64 (by omega) (by omega) ?_); refine HLm rfl (HL_nil ?_); refine HQ_blockN (hK18 _ _ _ _ ?_); refine HC_region (HLm rfl ?_); refine HLp rfl (HL_wrap_i64 (by omega) (by omega) ?_); refine HLm rfl (HL_nil (HQ_then ?_)); exact HQ_again (i + 1, m + valN y (most - m) (deep - 1)) ⟨by omega, by omega, by omega, hinv⟩ (by simp only; omega) (.cons rfl (.cons rfl (.cons rfl (.cons rfl (.cons rfl .nil))))) (List.Sublist.refl _) (fun _ _ h => h)
          skip)
       · try exact Bool.noConfusion h17
         try simp only [ZZ] at h17
         refine HC_exit (HQ_thenE ?_); refine HQ_thenE (HQ_blockE (hK10 _ _ _ _ ?_)); refine HC_seq fun K19 hK19 => HC_region ?_; refine HLm rfl (HLm rfl ?_); refine HL_nil (hK19 _ _ _ _ ?_); refine HC_ret ?_; refine HQ_post rfl rfl (.cons (res_tmp rfl) .nil) (fun w1 hs1 => ?_); refine ⟨?_, hs1.keep⟩
         rw [valN, if_neg (by omega), show 1 + ((bits.length / 8 : Nat) : Int) = z by omega, ← hinv]; first | (rw [List.drop_of_length_le (by omega), valL]; rfl) | (obtain ⟨y, hy, _⟩ := getI (show i < items.length by omega); rw [dropI hy, valL, if_neg (by omega)]; rfl)
       skip)
      skip)
   skip)
set_option maxRecDepth 10000 in
theorem S_ref_form {R : List (Nat × Obj)} {k n : Int} {p : Pl} {ins : List Ty} (ht : Ty.In R (.mk k n p ins)) : PureR Tryz.prog 133 [Ty.val (.mk k n p ins)].toArray (.bool (okForm k n ins.length)) R := by
  cases ht with
  | mk hk hn hl hs hi =>
  refine pureR_of_HC Tryz.func133 rfl rfl fun w => ?_; refine HC_seq fun K1 hK1 => HC_region ?_; refine HL_box (cs := #[_, _, _]) rfl rfl rfl rfl fun r1 => ?_; refine HLm rfl ?_; refine HL_nil (hK1 _ _ _ _ ?_); clear hK1 K1; refine HC_seq fun K2 hK2 => ?_; refine HC_seq fun K3 hK3 => HC_region ?_
  refine HL_r rfl rfl rfl rfl (R_fieldAddr rfl rfl (by first | (simp only [Nat.zero_add, Nat.reduceAdd, Nat.reduceMul, Nat.zero_mul, Nat.mul_one, Nat.add_zero]; exact rfl) | exact rfl)) ?_; refine HL_r rfl rfl rfl rfl (R_load rfl (known_L (k := 0) rfl) rfl rfl) ?_; refine HL_nil (hK3 _ _ _ _ ?_); clear hK3 K3; refine HC_block (HC_seq fun K4 hK4 => HC_region ?_); refine HLp rfl (HLm rfl ?_); refine HL_nil (hK4 _ _ _ _ ?_); clear hK4 K4; refine HC_cond rfl (fun h5 => ?_) (fun h5 => ?_)
  · try exact Bool.noConfusion h5
    try simp only [ZZ] at h5
    refine HC_seq fun K6 hK6 => HC_region ?_
    refine HL_r rfl rfl rfl rfl (R_fieldAddr rfl rfl (by first | (simp only [Nat.zero_add, Nat.reduceAdd, Nat.reduceMul, Nat.zero_mul, Nat.mul_one, Nat.add_zero]; exact rfl) | exact rfl)) ?_; refine HL_r rfl rfl rfl rfl (R_load rfl (known_L (k := 0) rfl) rfl rfl) ?_; refine HL_r rfl rfl rfl rfl (R_lenPl rfl hs rfl) ?_; refine HLp rfl (HLm rfl ?_)
    refine HL_case 11 rfl (fun hb7 => ?_) (fun hb7 => ?_) <;> (try simp only [ZZ] at hb7) <;> first | (refine HL_r rfl rfl rfl rfl (R_fieldAddr rfl rfl (by first | (simp only [Nat.zero_add, Nat.reduceAdd, Nat.reduceMul, Nat.zero_mul, Nat.mul_one, Nat.add_zero]; exact rfl) | exact rfl)) ?_) | (refine HL_skip rfl rfl rfl ?_)
    all_goals first
      | (refine HL_r rfl rfl rfl rfl (R_load rfl (known_L (k := 0) rfl) rfl rfl) ?_)
      | (refine HL_skip rfl rfl rfl ?_)
    all_goals first
      | (refine HLp rfl ?_)
      | (refine HL_skip rfl rfl rfl ?_)
    all_goals first
      | (refine HLm rfl ?_)
      | (refine HL_skip rfl rfl rfl ?_)
    all_goals first
      | (refine HL_skip rfl rfl rfl ?_)
      | (refine HL_case 15 rfl (fun hb11 => ?_) (fun hb11 => ?_) <;> (try simp only [ZZ] at hb11) <;> first | (refine HL_r rfl rfl rfl rfl (R_fieldAddr rfl rfl (by first | (simp only [Nat.zero_add, Nat.reduceAdd, Nat.reduceMul, Nat.zero_mul, Nat.mul_one, Nat.add_zero]; exact rfl) | exact rfl)) ?_) | (refine HL_skip rfl rfl rfl ?_))
    all_goals first
      | (refine HL_r rfl rfl rfl rfl (R_load rfl (known_L (k := 0) rfl) rfl rfl) ?_)
      | (refine HL_skip rfl rfl rfl ?_)
    all_goals first
      | (refine HLp rfl ?_)
      | (refine HL_skip rfl rfl rfl ?_)
    all_goals first
      | (refine HL_r rfl rfl rfl rfl (R_pickT rfl rfl) ?_)
      | (refine HL_r rfl rfl rfl rfl (R_pickF rfl rfl) ?_)
      | (refine HL_skip rfl rfl rfl ?_)
    all_goals first
      | (refine HLm rfl ?_)
      | (refine HL_skip rfl rfl rfl ?_)
    all_goals first
      | (refine HL_skip rfl rfl rfl ?_)
      | (refine HL_case 20 rfl (fun hb16 => ?_) (fun hb16 => ?_) <;> (try simp only [ZZ] at hb16) <;> first | (refine HL_r rfl rfl rfl rfl (R_fieldAddr rfl rfl (by first | (simp only [Nat.zero_add, Nat.reduceAdd, Nat.reduceMul, Nat.zero_mul, Nat.mul_one, Nat.add_zero]; exact rfl) | exact rfl)) ?_) | (refine HL_skip rfl rfl rfl ?_))
    all_goals first
      | (refine HL_r rfl rfl rfl rfl (R_load rfl (known_L (k := 0) rfl) rfl rfl) ?_)
      | (refine HL_skip rfl rfl rfl ?_)
    all_goals first
      | (refine HLp rfl ?_)
      | (refine HL_skip rfl rfl rfl ?_)
    all_goals first
      | (refine HL_r rfl rfl rfl rfl (R_pickT rfl rfl) ?_)
      | (refine HL_r rfl rfl rfl rfl (R_pickF rfl rfl) ?_)
      | (refine HL_skip rfl rfl rfl ?_)
    all_goals first
      | (refine HLm rfl ?_)
      | (refine HL_skip rfl rfl rfl ?_)
    all_goals first
      | (refine HL_skip rfl rfl rfl ?_)
      | (refine HL_case 25 rfl (fun hb21 => ?_) (fun hb21 => ?_) <;> (try simp only [ZZ] at hb21) <;> first | (refine HL_r rfl rfl rfl rfl (R_fieldAddr rfl rfl (by first | (simp only [Nat.zero_add, Nat.reduceAdd, Nat.reduceMul, Nat.zero_mul, Nat.mul_one, Nat.add_zero]; exact rfl) | exact rfl)) ?_) | (refine HL_skip rfl rfl rfl ?_))
    all_goals first
      | (refine HL_r rfl rfl rfl rfl (R_load rfl (known_L (k := 0) rfl) rfl rfl) ?_)
      | (refine HL_skip rfl rfl rfl ?_)
    all_goals first
      | (refine HLp rfl ?_)
      | (refine HL_skip rfl rfl rfl ?_)
    all_goals first
      | (refine HL_r rfl rfl rfl rfl (R_pickT rfl rfl) ?_)
      | (refine HL_r rfl rfl rfl rfl (R_pickF rfl rfl) ?_)
      | (refine HL_skip rfl rfl rfl ?_)
    all_goals first
      | (refine HLm rfl ?_)
      | (refine HL_skip rfl rfl rfl ?_)
    all_goals first
      | (refine HL_skip rfl rfl rfl ?_)
      | (refine HL_case 30 rfl (fun hb26 => ?_) (fun hb26 => ?_) <;> (try simp only [ZZ] at hb26) <;> first | (refine HL_r rfl rfl rfl rfl (R_fieldAddr rfl rfl (by first | (simp only [Nat.zero_add, Nat.reduceAdd, Nat.reduceMul, Nat.zero_mul, Nat.mul_one, Nat.add_zero]; exact rfl) | exact rfl)) ?_) | (refine HL_skip rfl rfl rfl ?_))
    all_goals first
      | (refine HL_r rfl rfl rfl rfl (R_load rfl (known_L (k := 0) rfl) rfl rfl) ?_)
      | (refine HL_skip rfl rfl rfl ?_)
    all_goals first
      | (refine HLp rfl ?_)
      | (refine HL_skip rfl rfl rfl ?_)
    all_goals first
      | (refine HL_r rfl rfl rfl rfl (R_pickT rfl rfl) ?_)
      | (refine HL_r rfl rfl rfl rfl (R_pickF rfl rfl) ?_)
      | (refine HL_skip rfl rfl rfl ?_)
    all_goals first
      | (refine HL_r rfl rfl rfl rfl (R_pickT rfl rfl) ?_)
      | (refine HL_r rfl rfl rfl rfl (R_pickF rfl rfl) ?_)
    all_goals refine HLm rfl ?_
    all_goals refine HL_nil ?_
    all_goals (
     refine hK6 _ _ _ _ ?_; clear hK6 K6; refine HC_ret (HQ_blockR (HQ_thenR ?_)); clear hK2 K2; refine HQ_post rfl rfl (.cons (res_tmp rfl) .nil) (fun w1 hs1 => ?_); refine ⟨?_, hs1.keep⟩
     unfold okForm
     simp only [resVal]
     simp_all
     all_goals first | done | rfl | omega | (rw [Bool.eq_iff_iff]; simp only [Bool.and_eq_true, decide_eq_true_eq]; omega)
     skip)
  · try exact Bool.noConfusion h5
    try simp only [ZZ] at h5
    refine HC_seq fun K30 hK30 => HC_region ?_; refine HLp rfl (HLm rfl ?_); refine HL_nil (hK30 _ _ _ _ ?_); clear hK30 K30; refine HC_cond rfl (fun h31 => ?_) (fun h31 => ?_)
    · try exact Bool.noConfusion h31
      try simp only [ZZ] at h31
      refine HC_seq fun K32 hK32 => HC_region ?_
      refine HL_r rfl rfl rfl rfl (R_fieldAddr rfl rfl (by first | (simp only [Nat.zero_add, Nat.reduceAdd, Nat.reduceMul, Nat.zero_mul, Nat.mul_one, Nat.add_zero]; exact rfl) | exact rfl)) ?_; refine HL_r rfl rfl rfl rfl (R_load rfl (known_L (k := 0) rfl) rfl rfl) ?_; refine HL_r rfl rfl rfl rfl (R_lenPl rfl hs rfl) ?_; refine HLp rfl (HLm rfl ?_)
      refine HL_case 42 rfl (fun hb33 => ?_) (fun hb33 => ?_) <;> (try simp only [ZZ] at hb33) <;> first | (refine HL_r rfl rfl rfl rfl (R_fieldAddr rfl rfl (by first | (simp only [Nat.zero_add, Nat.reduceAdd, Nat.reduceMul, Nat.zero_mul, Nat.mul_one, Nat.add_zero]; exact rfl) | exact rfl)) ?_) | (refine HL_skip rfl rfl rfl ?_)
      all_goals first
        | (refine HL_r rfl rfl rfl rfl (R_load rfl (known_L (k := 0) rfl) rfl rfl) ?_)
        | (refine HL_skip rfl rfl rfl ?_)
      all_goals first
        | (refine HLp rfl ?_)
        | (refine HL_skip rfl rfl rfl ?_)
      all_goals first
        | (refine HL_r rfl rfl rfl rfl (R_pickT rfl rfl) ?_)
        | (refine HL_r rfl rfl rfl rfl (R_pickF rfl rfl) ?_)
      all_goals refine HLm rfl ?_
      all_goals refine HL_nil ?_
      all_goals (
       refine hK32 _ _ _ _ ?_; clear hK32 K32; refine HC_ret (HQ_blockR (HQ_thenR ?_)); clear hK2 K2; refine HQ_post rfl rfl (.cons (res_tmp rfl) .nil) (fun w1 hs1 => ?_); refine ⟨?_, hs1.keep⟩
       unfold okForm
       simp only [resVal]
       simp_all
       all_goals first | done | rfl | omega | (rw [Bool.eq_iff_iff]; simp only [Bool.and_eq_true, decide_eq_true_eq]; omega)
       skip)
    · try exact Bool.noConfusion h31
      try simp only [ZZ] at h31
      refine HC_seq fun K36 hK36 => ?_; refine HC_seq fun K37 hK37 => HC_region ?_; refine HLp rfl (HLm rfl ?_); refine HL_nil (hK37 _ _ _ _ ?_); clear hK37 K37; refine HC_cond rfl (fun h38 => ?_) (fun h38 => ?_)
      · try exact Bool.noConfusion h38
        try simp only [ZZ] at h38
        refine HC_skip (hK36 _ _ _ _ ?_); clear hK36 K36; refine HC_cond rfl (fun h39 => ?_) (fun h39 => ?_)
        · try exact Bool.noConfusion h39
          try simp only [ZZ] at h39
          refine HC_seq fun K40 hK40 => HC_region ?_
          refine HL_r rfl rfl rfl rfl (R_fieldAddr rfl rfl (by first | (simp only [Nat.zero_add, Nat.reduceAdd, Nat.reduceMul, Nat.zero_mul, Nat.mul_one, Nat.add_zero]; exact rfl) | exact rfl)) ?_; refine HL_r rfl rfl rfl rfl (R_load rfl (known_L (k := 0) rfl) rfl rfl) ?_; refine HL_r rfl rfl rfl rfl (R_lenPl rfl hs rfl) ?_; refine HLp rfl (HLm rfl ?_)
          refine HL_case 54 rfl (fun hb41 => ?_) (fun hb41 => ?_) <;> (try simp only [ZZ] at hb41) <;> first | (refine HL_r rfl rfl rfl rfl (R_fieldAddr rfl rfl (by first | (simp only [Nat.zero_add, Nat.reduceAdd, Nat.reduceMul, Nat.zero_mul, Nat.mul_one, Nat.add_zero]; exact rfl) | exact rfl)) ?_) | (refine HL_skip rfl rfl rfl ?_)
          all_goals first
            | (refine HL_r rfl rfl rfl rfl (R_load rfl (known_L (k := 0) rfl) rfl rfl) ?_)
            | (refine HL_skip rfl rfl rfl ?_)
          all_goals first
            | (refine HLp rfl ?_)
            | (refine HL_skip rfl rfl rfl ?_)
          all_goals first
            | (refine HL_r rfl rfl rfl rfl (R_pickT rfl rfl) ?_)
            | (refine HL_r rfl rfl rfl rfl (R_pickF rfl rfl) ?_)
          all_goals refine HLm rfl ?_
          all_goals first
            | (refine HL_skip rfl rfl rfl ?_)
            | (refine HL_case 59 rfl (fun hb44 => ?_) (fun hb44 => ?_) <;> (try simp only [ZZ] at hb44) <;> first | (refine HL_r rfl rfl rfl rfl (R_fieldAddr rfl rfl (by first | (simp only [Nat.zero_add, Nat.reduceAdd, Nat.reduceMul, Nat.zero_mul, Nat.mul_one, Nat.add_zero]; exact rfl) | exact rfl)) ?_) | (refine HL_skip rfl rfl rfl ?_))
          all_goals first
            | (refine HL_r rfl rfl rfl rfl (R_load rfl (known_L (k := 0) rfl) rfl rfl) ?_)
            | (refine HL_skip rfl rfl rfl ?_)
          all_goals first
            | (refine HLp rfl ?_)
            | (refine HL_skip rfl rfl rfl ?_)
          all_goals first
            | (refine HL_r rfl rfl rfl rfl (R_pickT rfl rfl) ?_)
            | (refine HL_r rfl rfl rfl rfl (R_pickF rfl rfl) ?_)
          all_goals refine HLm rfl ?_
          all_goals refine HL_nil ?_
          all_goals (
           refine hK40 _ _ _ _ ?_; clear hK40 K40; refine HC_ret (HQ_blockR (HQ_thenR ?_)); clear hK2 K2; refine HQ_post rfl rfl (.cons (res_tmp rfl) .nil) (fun w1 hs1 => ?_); refine ⟨?_, hs1.keep⟩
           unfold okForm
           simp only [resVal]
           simp_all
           first | done | rfl | omega | (rw [Bool.eq_iff_iff]; simp only [Bool.and_eq_true, decide_eq_true_eq]; omega)
           skip)
        · try exact Bool.noConfusion h39
          try simp only [ZZ] at h39
          refine HC_seq fun K47 hK47 => ?_; refine HC_seq fun K48 hK48 => HC_region ?_; refine HLp rfl (HLm rfl ?_); refine HL_nil (hK48 _ _ _ _ ?_); clear hK48 K48; refine HC_cond rfl (fun h49 => ?_) (fun h49 => ?_)
          · try exact Bool.noConfusion h49
            try simp only [ZZ] at h49
            refine HC_skip (hK47 _ _ _ _ ?_); clear hK47 K47; refine HC_cond rfl (fun h50 => ?_) (fun h50 => ?_)
            · try exact Bool.noConfusion h50
              try simp only [ZZ] at h50
              refine HC_seq fun K51 hK51 => HC_region ?_
              refine HL_r rfl rfl rfl rfl (R_fieldAddr rfl rfl (by first | (simp only [Nat.zero_add, Nat.reduceAdd, Nat.reduceMul, Nat.zero_mul, Nat.mul_one, Nat.add_zero]; exact rfl) | exact rfl)) ?_; refine HL_r rfl rfl rfl rfl (R_load rfl (known_L (k := 0) rfl) rfl rfl) ?_; refine HL_r rfl rfl rfl rfl (R_lenPl rfl hs rfl) ?_; refine HLp rfl (HLm rfl ?_)
              refine HL_case 71 rfl (fun hb52 => ?_) (fun hb52 => ?_) <;> (try simp only [ZZ] at hb52) <;> first | (refine HL_r rfl rfl rfl rfl (R_fieldAddr rfl rfl (by first | (simp only [Nat.zero_add, Nat.reduceAdd, Nat.reduceMul, Nat.zero_mul, Nat.mul_one, Nat.add_zero]; exact rfl) | exact rfl)) ?_) | (refine HL_skip rfl rfl rfl ?_)
              all_goals first
                | (refine HL_r rfl rfl rfl rfl (R_load rfl (known_L (k := 0) rfl) rfl rfl) ?_)
                | (refine HL_skip rfl rfl rfl ?_)
              all_goals first
                | (refine HLp rfl ?_)
                | (refine HL_skip rfl rfl rfl ?_)
              all_goals first
                | (refine HL_r rfl rfl rfl rfl (R_pickT rfl rfl) ?_)
                | (refine HL_r rfl rfl rfl rfl (R_pickF rfl rfl) ?_)
              all_goals refine HLm rfl ?_
              all_goals first
                | (refine HL_skip rfl rfl rfl ?_)
                | (refine HL_case 76 rfl (fun hb55 => ?_) (fun hb55 => ?_) <;> (try simp only [ZZ] at hb55) <;> first | (refine HL_r rfl rfl rfl rfl (R_fieldAddr rfl rfl (by first | (simp only [Nat.zero_add, Nat.reduceAdd, Nat.reduceMul, Nat.zero_mul, Nat.mul_one, Nat.add_zero]; exact rfl) | exact rfl)) ?_) | (refine HL_skip rfl rfl rfl ?_))
              all_goals first
                | (refine HL_r rfl rfl rfl rfl (R_load rfl (known_L (k := 0) rfl) rfl rfl) ?_)
                | (refine HL_skip rfl rfl rfl ?_)
              all_goals first
                | (refine HLp rfl ?_)
                | (refine HL_skip rfl rfl rfl ?_)
              all_goals first
                | (refine HL_r rfl rfl rfl rfl (R_pickT rfl rfl) ?_)
                | (refine HL_r rfl rfl rfl rfl (R_pickF rfl rfl) ?_)
              all_goals refine HLm rfl ?_
              all_goals refine HL_nil ?_
              all_goals (
               refine hK51 _ _ _ _ ?_; clear hK51 K51; refine HC_ret (HQ_blockR (HQ_thenR ?_)); clear hK2 K2; refine HQ_post rfl rfl (.cons (res_tmp rfl) .nil) (fun w1 hs1 => ?_); refine ⟨?_, hs1.keep⟩
               unfold okForm
               simp only [resVal]
               simp_all
               skip)
            · try exact Bool.noConfusion h50
              try simp only [ZZ] at h50
              refine HC_seq fun K58 hK58 => HC_region ?_; refine HLp rfl (HLm rfl ?_); refine HL_nil (hK58 _ _ _ _ ?_); clear hK58 K58; refine HC_cond rfl (fun h59 => ?_) (fun h59 => ?_)
              · try exact Bool.noConfusion h59
                try simp only [ZZ] at h59
                refine HC_seq fun K60 hK60 => HC_region ?_
                refine HL_r rfl rfl rfl rfl (R_fieldAddr rfl rfl (by first | (simp only [Nat.zero_add, Nat.reduceAdd, Nat.reduceMul, Nat.zero_mul, Nat.mul_one, Nat.add_zero]; exact rfl) | exact rfl)) ?_; refine HL_r rfl rfl rfl rfl (R_load rfl (known_L (k := 0) rfl) rfl rfl) ?_; refine HLp rfl (HLm rfl ?_)
                refine HL_case 86 rfl (fun hb61 => ?_) (fun hb61 => ?_) <;> (try simp only [ZZ] at hb61) <;> first | (refine HL_r rfl rfl rfl rfl (R_fieldAddr rfl rfl (by first | (simp only [Nat.zero_add, Nat.reduceAdd, Nat.reduceMul, Nat.zero_mul, Nat.mul_one, Nat.add_zero]; exact rfl) | exact rfl)) ?_) | (refine HL_skip rfl rfl rfl ?_)
                all_goals first
                  | (refine HL_r rfl rfl rfl rfl (R_load rfl (known_L (k := 0) rfl) rfl rfl) ?_)
                  | (refine HL_skip rfl rfl rfl ?_)
                all_goals first
                  | (refine HL_r rfl rfl rfl rfl (R_lenPl rfl hs rfl) ?_)
                  | (refine HL_skip rfl rfl rfl ?_)
                all_goals first
                  | (refine HLp rfl ?_)
                  | (refine HL_skip rfl rfl rfl ?_)
                all_goals first
                  | (refine HL_r rfl rfl rfl rfl (R_pickT rfl rfl) ?_)
                  | (refine HL_r rfl rfl rfl rfl (R_pickF rfl rfl) ?_)
                all_goals refine HLm rfl ?_
                all_goals first
                  | (refine HL_skip rfl rfl rfl ?_)
                  | (refine HL_case 92 rfl (fun hb65 => ?_) (fun hb65 => ?_) <;> (try simp only [ZZ] at hb65) <;> first | (refine HL_r rfl rfl rfl rfl (R_fieldAddr rfl rfl (by first | (simp only [Nat.zero_add, Nat.reduceAdd, Nat.reduceMul, Nat.zero_mul, Nat.mul_one, Nat.add_zero]; exact rfl) | exact rfl)) ?_) | (refine HL_skip rfl rfl rfl ?_))
                all_goals first
                  | (refine HL_r rfl rfl rfl rfl (R_load rfl (known_L (k := 0) rfl) rfl rfl) ?_)
                  | (refine HL_skip rfl rfl rfl ?_)
                all_goals first
                  | (refine HL_r rfl rfl rfl rfl (R_lenPl rfl hs rfl) ?_)
                  | (refine HL_skip rfl rfl rfl ?_)
                all_goals first
                  | (refine HLp rfl ?_)
                  | (refine HL_skip rfl rfl rfl ?_)
                all_goals first
                  | (refine HL_r rfl rfl rfl rfl (R_pickT rfl rfl) ?_)
                  | (refine HL_r rfl rfl rfl rfl (R_pickF rfl rfl) ?_)
                all_goals refine HLm rfl ?_
                all_goals refine HL_nil ?_
                all_goals (
                 refine hK60 _ _ _ _ ?_; clear hK60 K60; refine HC_ret (HQ_blockR (HQ_thenR ?_)); clear hK2 K2; refine HQ_post rfl rfl (.cons (res_tmp rfl) .nil) (fun w1 hs1 => ?_); refine ⟨?_, hs1.keep⟩
                 unfold okForm
                 simp only [resVal]
                 simp_all
                 skip)
              · try exact Bool.noConfusion h59
                try simp only [ZZ] at h59
                refine HC_skip (HQ_blockN (hK2 _ _ _ _ ?_)); clear hK2 K2; refine HC_seq fun K69 hK69 => HC_region ?_
                refine HL_r rfl rfl rfl rfl (R_fieldAddr rfl rfl (by first | (simp only [Nat.zero_add, Nat.reduceAdd, Nat.reduceMul, Nat.zero_mul, Nat.mul_one, Nat.add_zero]; exact rfl) | exact rfl)) ?_; refine HL_r rfl rfl rfl rfl (R_load rfl (known_L (k := 0) rfl) rfl rfl) ?_; refine HLp rfl (HLm rfl ?_)
                refine HL_case 101 rfl (fun hb70 => ?_) (fun hb70 => ?_) <;> (try simp only [ZZ] at hb70) <;> first | (refine HL_r rfl rfl rfl rfl (R_fieldAddr rfl rfl (by first | (simp only [Nat.zero_add, Nat.reduceAdd, Nat.reduceMul, Nat.zero_mul, Nat.mul_one, Nat.add_zero]; exact rfl) | exact rfl)) ?_) | (refine HL_skip rfl rfl rfl ?_)
                all_goals first
                  | (refine HL_r rfl rfl rfl rfl (R_load rfl (known_L (k := 0) rfl) rfl rfl) ?_)
                  | (refine HL_skip rfl rfl rfl ?_)
                all_goals first
                  | (refine HL_r rfl rfl rfl rfl (R_lenPl rfl hs rfl) ?_)
                  | (refine HL_skip rfl rfl rfl ?_)
                all_goals first
                  | (refine HLp rfl ?_)
                  | (refine HL_skip rfl rfl rfl ?_)
                all_goals first
                  | (refine HL_r rfl rfl rfl rfl (R_pickT rfl rfl) ?_)
                  | (refine HL_r rfl rfl rfl rfl (R_pickF rfl rfl) ?_)
                all_goals refine HLm rfl ?_
                all_goals first
                  | (refine HL_skip rfl rfl rfl ?_)
                  | (refine HL_case 107 rfl (fun hb74 => ?_) (fun hb74 => ?_) <;> (try simp only [ZZ] at hb74) <;> first | (refine HL_r rfl rfl rfl rfl (R_fieldAddr rfl rfl (by first | (simp only [Nat.zero_add, Nat.reduceAdd, Nat.reduceMul, Nat.zero_mul, Nat.mul_one, Nat.add_zero]; exact rfl) | exact rfl)) ?_) | (refine HL_skip rfl rfl rfl ?_))
                all_goals first
                  | (refine HL_r rfl rfl rfl rfl (R_load rfl (known_L (k := 0) rfl) rfl rfl) ?_)
                  | (refine HL_skip rfl rfl rfl ?_)
                all_goals first
                  | (refine HL_r rfl rfl rfl rfl (R_lenPl rfl hs rfl) ?_)
                  | (refine HL_skip rfl rfl rfl ?_)
                all_goals first
                  | (refine HLp rfl ?_)
                  | (refine HL_skip rfl rfl rfl ?_)
                all_goals first
                  | (refine HL_r rfl rfl rfl rfl (R_pickT rfl rfl) ?_)
                  | (refine HL_r rfl rfl rfl rfl (R_pickF rfl rfl) ?_)
                all_goals refine HLm rfl ?_
                all_goals refine HL_nil ?_
                all_goals (
                 refine hK69 _ _ _ _ ?_; clear hK69 K69; refine HC_ret ?_; refine HQ_post rfl rfl (.cons (res_tmp rfl) .nil) (fun w1 hs1 => ?_); refine ⟨?_, hs1.keep⟩
                 unfold okForm
                 simp only [resVal]
                 simp_all
                 skip)
          · try exact Bool.noConfusion h49
            try simp only [ZZ] at h49
            refine HC_region (HLp rfl (HLm rfl ?_)); refine HL_nil (hK47 _ _ _ _ ?_); clear hK47 K47; refine HC_cond rfl (fun h78 => ?_) (fun h78 => ?_)
            · try exact Bool.noConfusion h78
              try simp only [ZZ] at h78
              refine HC_seq fun K79 hK79 => HC_region ?_
              refine HL_r rfl rfl rfl rfl (R_fieldAddr rfl rfl (by first | (simp only [Nat.zero_add, Nat.reduceAdd, Nat.reduceMul, Nat.zero_mul, Nat.mul_one, Nat.add_zero]; exact rfl) | exact rfl)) ?_; refine HL_r rfl rfl rfl rfl (R_load rfl (known_L (k := 0) rfl) rfl rfl) ?_; refine HL_r rfl rfl rfl rfl (R_lenPl rfl hs rfl) ?_; refine HLp rfl (HLm rfl ?_)
              refine HL_case 71 rfl (fun hb80 => ?_) (fun hb80 => ?_) <;> (try simp only [ZZ] at hb80) <;> first | (refine HL_r rfl rfl rfl rfl (R_fieldAddr rfl rfl (by first | (simp only [Nat.zero_add, Nat.reduceAdd, Nat.reduceMul, Nat.zero_mul, Nat.mul_one, Nat.add_zero]; exact rfl) | exact rfl)) ?_) | (refine HL_skip rfl rfl rfl ?_)
              all_goals first
                | (refine HL_r rfl rfl rfl rfl (R_load rfl (known_L (k := 0) rfl) rfl rfl) ?_)
                | (refine HL_skip rfl rfl rfl ?_)
              all_goals first
                | (refine HLp rfl ?_)
                | (refine HL_skip rfl rfl rfl ?_)
              all_goals first
                | (refine HL_r rfl rfl rfl rfl (R_pickT rfl rfl) ?_)
                | (refine HL_r rfl rfl rfl rfl (R_pickF rfl rfl) ?_)
              all_goals refine HLm rfl ?_
              all_goals first
                | (refine HL_skip rfl rfl rfl ?_)
                | (refine HL_case 76 rfl (fun hb83 => ?_) (fun hb83 => ?_) <;> (try simp only [ZZ] at hb83) <;> first | (refine HL_r rfl rfl rfl rfl (R_fieldAddr rfl rfl (by first | (simp only [Nat.zero_add, Nat.reduceAdd, Nat.reduceMul, Nat.zero_mul, Nat.mul_one, Nat.add_zero]; exact rfl) | exact rfl)) ?_) | (refine HL_skip rfl rfl rfl ?_))
              all_goals first
                | (refine HL_r rfl rfl rfl rfl (R_load rfl (known_L (k := 0) rfl) rfl rfl) ?_)
                | (refine HL_skip rfl rfl rfl ?_)
              all_goals first
                | (refine HLp rfl ?_)
                | (refine HL_skip rfl rfl rfl ?_)
              all_goals first
                | (refine HL_r rfl rfl rfl rfl (R_pickT rfl rfl) ?_)
                | (refine HL_r rfl rfl rfl rfl (R_pickF rfl rfl) ?_)
              all_goals refine HLm rfl ?_
              all_goals refine HL_nil ?_
              all_goals (
               refine hK79 _ _ _ _ ?_; clear hK79 K79; refine HC_ret (HQ_blockR (HQ_thenR ?_)); clear hK2 K2; refine HQ_post rfl rfl (.cons (res_tmp rfl) .nil) (fun w1 hs1 => ?_); refine ⟨?_, hs1.keep⟩
               unfold okForm
               simp only [resVal]
               simp_all
               skip)
            · try exact Bool.noConfusion h78
              try simp only [ZZ] at h78
              refine HC_seq fun K86 hK86 => HC_region ?_; refine HLp rfl (HLm rfl ?_); refine HL_nil (hK86 _ _ _ _ ?_); clear hK86 K86; refine HC_cond rfl (fun h87 => ?_) (fun h87 => ?_)
              · try exact Bool.noConfusion h87
                try simp only [ZZ] at h87
                refine HC_seq fun K88 hK88 => HC_region ?_
                refine HL_r rfl rfl rfl rfl (R_fieldAddr rfl rfl (by first | (simp only [Nat.zero_add, Nat.reduceAdd, Nat.reduceMul, Nat.zero_mul, Nat.mul_one, Nat.add_zero]; exact rfl) | exact rfl)) ?_; refine HL_r rfl rfl rfl rfl (R_load rfl (known_L (k := 0) rfl) rfl rfl) ?_; refine HLp rfl (HLm rfl ?_)
                refine HL_case 86 rfl (fun hb89 => ?_) (fun hb89 => ?_) <;> (try simp only [ZZ] at hb89) <;> first | (refine HL_r rfl rfl rfl rfl (R_fieldAddr rfl rfl (by first | (simp only [Nat.zero_add, Nat.reduceAdd, Nat.reduceMul, Nat.zero_mul, Nat.mul_one, Nat.add_zero]; exact rfl) | exact rfl)) ?_) | (refine HL_skip rfl rfl rfl ?_)
                all_goals first
                  | (refine HL_r rfl rfl rfl rfl (R_load rfl (known_L (k := 0) rfl) rfl rfl) ?_)
                  | (refine HL_skip rfl rfl rfl ?_)
                all_goals first
                  | (refine HL_r rfl rfl rfl rfl (R_lenPl rfl hs rfl) ?_)
                  | (refine HL_skip rfl rfl rfl ?_)
                all_goals first
                  | (refine HLp rfl ?_)
                  | (refine HL_skip rfl rfl rfl ?_)
                all_goals first
                  | (refine HL_r rfl rfl rfl rfl (R_pickT rfl rfl) ?_)
                  | (refine HL_r rfl rfl rfl rfl (R_pickF rfl rfl) ?_)
                all_goals refine HLm rfl ?_
                all_goals first
                  | (refine HL_skip rfl rfl rfl ?_)
                  | (refine HL_case 92 rfl (fun hb93 => ?_) (fun hb93 => ?_) <;> (try simp only [ZZ] at hb93) <;> first | (refine HL_r rfl rfl rfl rfl (R_fieldAddr rfl rfl (by first | (simp only [Nat.zero_add, Nat.reduceAdd, Nat.reduceMul, Nat.zero_mul, Nat.mul_one, Nat.add_zero]; exact rfl) | exact rfl)) ?_) | (refine HL_skip rfl rfl rfl ?_))
                all_goals first
                  | (refine HL_r rfl rfl rfl rfl (R_load rfl (known_L (k := 0) rfl) rfl rfl) ?_)
                  | (refine HL_skip rfl rfl rfl ?_)
                all_goals first
                  | (refine HL_r rfl rfl rfl rfl (R_lenPl rfl hs rfl) ?_)
                  | (refine HL_skip rfl rfl rfl ?_)
                all_goals first
                  | (refine HLp rfl ?_)
                  | (refine HL_skip rfl rfl rfl ?_)
                all_goals first
                  | (refine HL_r rfl rfl rfl rfl (R_pickT rfl rfl) ?_)
                  | (refine HL_r rfl rfl rfl rfl (R_pickF rfl rfl) ?_)
                all_goals refine HLm rfl ?_
                all_goals refine HL_nil ?_
                all_goals (
                 refine hK88 _ _ _ _ ?_; clear hK88 K88; refine HC_ret (HQ_blockR (HQ_thenR ?_)); clear hK2 K2; refine HQ_post rfl rfl (.cons (res_tmp rfl) .nil) (fun w1 hs1 => ?_); refine ⟨?_, hs1.keep⟩
                 unfold okForm
                 simp only [resVal]
                 simp_all
                 skip)
              · try exact Bool.noConfusion h87
                try simp only [ZZ] at h87
                refine HC_skip (HQ_blockN (hK2 _ _ _ _ ?_)); clear hK2 K2; refine HC_seq fun K97 hK97 => HC_region ?_
                refine HL_r rfl rfl rfl rfl (R_fieldAddr rfl rfl (by first | (simp only [Nat.zero_add, Nat.reduceAdd, Nat.reduceMul, Nat.zero_mul, Nat.mul_one, Nat.add_zero]; exact rfl) | exact rfl)) ?_; refine HL_r rfl rfl rfl rfl (R_load rfl (known_L (k := 0) rfl) rfl rfl) ?_; refine HLp rfl (HLm rfl ?_)
                refine HL_case 101 rfl (fun hb98 => ?_) (fun hb98 => ?_) <;> (try simp only [ZZ] at hb98) <;> first | (refine HL_r rfl rfl rfl rfl (R_fieldAddr rfl rfl (by first | (simp only [Nat.zero_add, Nat.reduceAdd, Nat.reduceMul, Nat.zero_mul, Nat.mul_one, Nat.add_zero]; exact rfl) | exact rfl)) ?_) | (refine HL_skip rfl rfl rfl ?_)
                all_goals first
                  | (refine HL_r rfl rfl rfl rfl (R_load rfl (known_L (k := 0) rfl) rfl rfl) ?_)
                  | (refine HL_skip rfl rfl rfl ?_)
                all_goals first
                  | (refine HL_r rfl rfl rfl rfl (R_lenPl rfl hs rfl) ?_)
                  | (refine HL_skip rfl rfl rfl ?_)
                all_goals first
                  | (refine HLp rfl ?_)
                  | (refine HL_skip rfl rfl rfl ?_)
                all_goals first
                  | (refine HL_r rfl rfl rfl rfl (R_pickT rfl rfl) ?_)
                  | (refine HL_r rfl rfl rfl rfl (R_pickF rfl rfl) ?_)
                all_goals refine HLm rfl ?_
                all_goals first
                  | (refine HL_skip rfl rfl rfl ?_)
                  | (refine HL_case 107 rfl (fun hb102 => ?_) (fun hb102 => ?_) <;> (try simp only [ZZ] at hb102) <;> first | (refine HL_r rfl rfl rfl rfl (R_fieldAddr rfl rfl (by first | (simp only [Nat.zero_add, Nat.reduceAdd, Nat.reduceMul, Nat.zero_mul, Nat.mul_one, Nat.add_zero]; exact rfl) | exact rfl)) ?_) | (refine HL_skip rfl rfl rfl ?_))
                all_goals first
                  | (refine HL_r rfl rfl rfl rfl (R_load rfl (known_L (k := 0) rfl) rfl rfl) ?_)
                  | (refine HL_skip rfl rfl rfl ?_)
                all_goals first
                  | (refine HL_r rfl rfl rfl rfl (R_lenPl rfl hs rfl) ?_)
                  | (refine HL_skip rfl rfl rfl ?_)
                all_goals first
                  | (refine HLp rfl ?_)
                  | (refine HL_skip rfl rfl rfl ?_)
                all_goals first
                  | (refine HL_r rfl rfl rfl rfl (R_pickT rfl rfl) ?_)
                  | (refine HL_r rfl rfl rfl rfl (R_pickF rfl rfl) ?_)
                all_goals refine HLm rfl ?_
                all_goals refine HL_nil ?_
                all_goals (
                 refine hK97 _ _ _ _ ?_; clear hK97 K97; refine HC_ret ?_; refine HQ_post rfl rfl (.cons (res_tmp rfl) .nil) (fun w1 hs1 => ?_); refine ⟨?_, hs1.keep⟩
                 unfold okForm
                 simp only [resVal]
                 simp_all
                 skip)
      · try exact Bool.noConfusion h38
        try simp only [ZZ] at h38
        refine HC_region (HLp rfl (HLm rfl ?_)); refine HL_nil (hK36 _ _ _ _ ?_); clear hK36 K36; refine HC_cond rfl (fun h106 => ?_) (fun h106 => ?_)
        · try exact Bool.noConfusion h106
          try simp only [ZZ] at h106
          refine HC_seq fun K107 hK107 => HC_region ?_
          refine HL_r rfl rfl rfl rfl (R_fieldAddr rfl rfl (by first | (simp only [Nat.zero_add, Nat.reduceAdd, Nat.reduceMul, Nat.zero_mul, Nat.mul_one, Nat.add_zero]; exact rfl) | exact rfl)) ?_; refine HL_r rfl rfl rfl rfl (R_load rfl (known_L (k := 0) rfl) rfl rfl) ?_; refine HL_r rfl rfl rfl rfl (R_lenPl rfl hs rfl) ?_; refine HLp rfl (HLm rfl ?_)
          refine HL_case 54 rfl (fun hb108 => ?_) (fun hb108 => ?_) <;> (try simp only [ZZ] at hb108) <;> first | (refine HL_r rfl rfl rfl rfl (R_fieldAddr rfl rfl (by first | (simp only [Nat.zero_add, Nat.reduceAdd, Nat.reduceMul, Nat.zero_mul, Nat.mul_one, Nat.add_zero]; exact rfl) | exact rfl)) ?_) | (refine HL_skip rfl rfl rfl ?_)
          all_goals first
            | (refine HL_r rfl rfl rfl rfl (R_load rfl (known_L (k := 0) rfl) rfl rfl) ?_)
            | (refine HL_skip rfl rfl rfl ?_)
          all_goals first
            | (refine HLp rfl ?_)
            | (refine HL_skip rfl rfl rfl ?_)
          all_goals first
            | (refine HL_r rfl rfl rfl rfl (R_pickT rfl rfl) ?_)
            | (refine HL_r rfl rfl rfl rfl (R_pickF rfl rfl) ?_)
          all_goals refine HLm rfl ?_
          all_goals first
            | (refine HL_skip rfl rfl rfl ?_)
            | (refine HL_case 59 rfl (fun hb111 => ?_) (fun hb111 => ?_) <;> (try simp only [ZZ] at hb111) <;> first | (refine HL_r rfl rfl rfl rfl (R_fieldAddr rfl rfl (by first | (simp only [Nat.zero_add, Nat.reduceAdd, Nat.reduceMul, Nat.zero_mul, Nat.mul_one, Nat.add_zero]; exact rfl) | exact rfl)) ?_) | (refine HL_skip rfl rfl rfl ?_))
          all_goals first
            | (refine HL_r rfl rfl rfl rfl (R_load rfl (known_L (k := 0) rfl) rfl rfl) ?_)
            | (refine HL_skip rfl rfl rfl ?_)
          all_goals first
            | (refine HLp rfl ?_)
            | (refine HL_skip rfl rfl rfl ?_)
          all_goals first
            | (refine HL_r rfl rfl rfl rfl (R_pickT rfl rfl) ?_)
            | (refine HL_r rfl rfl rfl rfl (R_pickF rfl rfl) ?_)
          all_goals refine HLm rfl ?_
          all_goals refine HL_nil ?_
          all_goals (
           refine hK107 _ _ _ _ ?_; clear hK107 K107; refine HC_ret (HQ_blockR (HQ_thenR ?_)); clear hK2 K2; refine HQ_post rfl rfl (.cons (res_tmp rfl) .nil) (fun w1 hs1 => ?_); refine ⟨?_, hs1.keep⟩
           unfold okForm
           simp only [resVal]
           simp_all
           first | done | rfl | omega | (rw [Bool.eq_iff_iff]; simp only [Bool.and_eq_true, decide_eq_true_eq]; omega)
           skip)
        · try exact Bool.noConfusion h106
          try simp only [ZZ] at h106
          refine HC_seq fun K114 hK114 => ?_; refine HC_seq fun K115 hK115 => HC_region ?_; refine HLp rfl (HLm rfl ?_); refine HL_nil (hK115 _ _ _ _ ?_); clear hK115 K115; refine HC_cond rfl (fun h116 => ?_) (fun h116 => ?_)
          · try exact Bool.noConfusion h116
            try simp only [ZZ] at h116
            refine HC_skip (hK114 _ _ _ _ ?_); clear hK114 K114; refine HC_cond rfl (fun h117 => ?_) (fun h117 => ?_)
            · try exact Bool.noConfusion h117
              try simp only [ZZ] at h117
              refine HC_seq fun K118 hK118 => HC_region ?_
              refine HL_r rfl rfl rfl rfl (R_fieldAddr rfl rfl (by first | (simp only [Nat.zero_add, Nat.reduceAdd, Nat.reduceMul, Nat.zero_mul, Nat.mul_one, Nat.add_zero]; exact rfl) | exact rfl)) ?_; refine HL_r rfl rfl rfl rfl (R_load rfl (known_L (k := 0) rfl) rfl rfl) ?_; refine HL_r rfl rfl rfl rfl (R_lenPl rfl hs rfl) ?_; refine HLp rfl (HLm rfl ?_)
              refine HL_case 71 rfl (fun hb119 => ?_) (fun hb119 => ?_) <;> (try simp only [ZZ] at hb119) <;> first | (refine HL_r rfl rfl rfl rfl (R_fieldAddr rfl rfl (by first | (simp only [Nat.zero_add, Nat.reduceAdd, Nat.reduceMul, Nat.zero_mul, Nat.mul_one, Nat.add_zero]; exact rfl) | exact rfl)) ?_) | (refine HL_skip rfl rfl rfl ?_)
              all_goals first
                | (refine HL_r rfl rfl rfl rfl (R_load rfl (known_L (k := 0) rfl) rfl rfl) ?_)
                | (refine HL_skip rfl rfl rfl ?_)
              all_goals first
                | (refine HLp rfl ?_)
                | (refine HL_skip rfl rfl rfl ?_)
              all_goals first
                | (refine HL_r rfl rfl rfl rfl (R_pickT rfl rfl) ?_)
                | (refine HL_r rfl rfl rfl rfl (R_pickF rfl rfl) ?_)
              all_goals refine HLm rfl ?_
              all_goals first
                | (refine HL_skip rfl rfl rfl ?_)
                | (refine HL_case 76 rfl (fun hb122 => ?_) (fun hb122 => ?_) <;> (try simp only [ZZ] at hb122) <;> first | (refine HL_r rfl rfl rfl rfl (R_fieldAddr rfl rfl (by first | (simp only [Nat.zero_add, Nat.reduceAdd, Nat.reduceMul, Nat.zero_mul, Nat.mul_one, Nat.add_zero]; exact rfl) | exact rfl)) ?_) | (refine HL_skip rfl rfl rfl ?_))
              all_goals first
                | (refine HL_r rfl rfl rfl rfl (R_load rfl (known_L (k := 0) rfl) rfl rfl) ?_)
                | (refine HL_skip rfl rfl rfl ?_)
              all_goals first
                | (refine HLp rfl ?_)
                | (refine HL_skip rfl rfl rfl ?_)
              all_goals first
                | (refine HL_r rfl rfl rfl rfl (R_pickT rfl rfl) ?_)
                | (refine HL_r rfl rfl rfl rfl (R_pickF rfl rfl) ?_)
              all_goals refine HLm rfl ?_
              all_goals refine HL_nil ?_
              all_goals (
               refine hK118 _ _ _ _ ?_; clear hK118 K118; refine HC_ret (HQ_blockR (HQ_thenR ?_)); clear hK2 K2; refine HQ_post rfl rfl (.cons (res_tmp rfl) .nil) (fun w1 hs1 => ?_); refine ⟨?_, hs1.keep⟩
               unfold okForm
               simp only [resVal]
               simp_all
               all_goals first | done | rfl | omega | (rw [Bool.eq_iff_iff]; simp only [Bool.and_eq_true, decide_eq_true_eq]; omega)
               skip)
            · try exact Bool.noConfusion h117
              try simp only [ZZ] at h117
              refine HC_seq fun K125 hK125 => HC_region ?_; refine HLp rfl (HLm rfl ?_); refine HL_nil (hK125 _ _ _ _ ?_); clear hK125 K125; refine HC_cond rfl (fun h126 => ?_) (fun h126 => ?_)
              · try exact Bool.noConfusion h126
                try simp only [ZZ] at h126
                refine HC_seq fun K127 hK127 => HC_region ?_
                refine HL_r rfl rfl rfl rfl (R_fieldAddr rfl rfl (by first | (simp only [Nat.zero_add, Nat.reduceAdd, Nat.reduceMul, Nat.zero_mul, Nat.mul_one, Nat.add_zero]; exact rfl) | exact rfl)) ?_; refine HL_r rfl rfl rfl rfl (R_load rfl (known_L (k := 0) rfl) rfl rfl) ?_; refine HLp rfl (HLm rfl ?_)
                refine HL_case 86 rfl (fun hb128 => ?_) (fun hb128 => ?_) <;> (try simp only [ZZ] at hb128) <;> first | (refine HL_r rfl rfl rfl rfl (R_fieldAddr rfl rfl (by first | (simp only [Nat.zero_add, Nat.reduceAdd, Nat.reduceMul, Nat.zero_mul, Nat.mul_one, Nat.add_zero]; exact rfl) | exact rfl)) ?_) | (refine HL_skip rfl rfl rfl ?_)
                all_goals first
                  | (refine HL_r rfl rfl rfl rfl (R_load rfl (known_L (k := 0) rfl) rfl rfl) ?_)
                  | (refine HL_skip rfl rfl rfl ?_)
                all_goals first
                  | (refine HL_r rfl rfl rfl rfl (R_lenPl rfl hs rfl) ?_)
                  | (refine HL_skip rfl rfl rfl ?_)
                all_goals first
                  | (refine HLp rfl ?_)
                  | (refine HL_skip rfl rfl rfl ?_)
                all_goals first
                  | (refine HL_r rfl rfl rfl rfl (R_pickT rfl rfl) ?_)
                  | (refine HL_r rfl rfl rfl rfl (R_pickF rfl rfl) ?_)
                all_goals refine HLm rfl ?_
                all_goals first
                  | (refine HL_skip rfl rfl rfl ?_)
                  | (refine HL_case 92 rfl (fun hb132 => ?_) (fun hb132 => ?_) <;> (try simp only [ZZ] at hb132) <;> first | (refine HL_r rfl rfl rfl rfl (R_fieldAddr rfl rfl (by first | (simp only [Nat.zero_add, Nat.reduceAdd, Nat.reduceMul, Nat.zero_mul, Nat.mul_one, Nat.add_zero]; exact rfl) | exact rfl)) ?_) | (refine HL_skip rfl rfl rfl ?_))
                all_goals first
                  | (refine HL_r rfl rfl rfl rfl (R_load rfl (known_L (k := 0) rfl) rfl rfl) ?_)
                  | (refine HL_skip rfl rfl rfl ?_)
                all_goals first
                  | (refine HL_r rfl rfl rfl rfl (R_lenPl rfl hs rfl) ?_)
                  | (refine HL_skip rfl rfl rfl ?_)
                all_goals first
                  | (refine HLp rfl ?_)
                  | (refine HL_skip rfl rfl rfl ?_)
                all_goals first
                  | (refine HL_r rfl rfl rfl rfl (R_pickT rfl rfl) ?_)
                  | (refine HL_r rfl rfl rfl rfl (R_pickF rfl rfl) ?_)
                all_goals refine HLm rfl ?_
                all_goals refine HL_nil ?_
                all_goals (
                 refine hK127 _ _ _ _ ?_; clear hK127 K127; refine HC_ret (HQ_blockR (HQ_thenR ?_)); clear hK2 K2; refine HQ_post rfl rfl (.cons (res_tmp rfl) .nil) (fun w1 hs1 => ?_); refine ⟨?_, hs1.keep⟩
                 unfold okForm
                 simp only [resVal]
                 simp_all
                 skip)
              · try exact Bool.noConfusion h126
                try simp only [ZZ] at h126
                refine HC_skip (HQ_blockN (hK2 _ _ _ _ ?_)); clear hK2 K2; refine HC_seq fun K136 hK136 => HC_region ?_
                refine HL_r rfl rfl rfl rfl (R_fieldAddr rfl rfl (by first | (simp only [Nat.zero_add, Nat.reduceAdd, Nat.reduceMul, Nat.zero_mul, Nat.mul_one, Nat.add_zero]; exact rfl) | exact rfl)) ?_; refine HL_r rfl rfl rfl rfl (R_load rfl (known_L (k := 0) rfl) rfl rfl) ?_; refine HLp rfl (HLm rfl ?_)
                refine HL_case 101 rfl (fun hb137 => ?_) (fun hb137 => ?_) <;> (try simp only [ZZ] at hb137) <;> first | (refine HL_r rfl rfl rfl rfl (R_fieldAddr rfl rfl (by first | (simp only [Nat.zero_add, Nat.reduceAdd, Nat.reduceMul, Nat.zero_mul, Nat.mul_one, Nat.add_zero]; exact rfl) | exact rfl)) ?_) | (refine HL_skip rfl rfl rfl ?_)
                all_goals first
                  | (refine HL_r rfl rfl rfl rfl (R_load rfl (known_L (k := 0) rfl) rfl rfl) ?_)
                  | (refine HL_skip rfl rfl rfl ?_)
                all_goals first
                  | (refine HL_r rfl rfl rfl rfl (R_lenPl rfl hs rfl) ?_)
                  | (refine HL_skip rfl rfl rfl ?_)
                all_goals first
                  | (refine HLp rfl ?_)
                  | (refine HL_skip rfl rfl rfl ?_)
                all_goals first
                  | (refine HL_r rfl rfl rfl rfl (R_pickT rfl rfl) ?_)
                  | (refine HL_r rfl rfl rfl rfl (R_pickF rfl rfl) ?_)
                all_goals refine HLm rfl ?_
                all_goals first
                  | (refine HL_skip rfl rfl rfl ?_)
                  | (refine HL_case 107 rfl (fun hb141 => ?_) (fun hb141 => ?_) <;> (try simp only [ZZ] at hb141) <;> first | (refine HL_r rfl rfl rfl rfl (R_fieldAddr rfl rfl (by first | (simp only [Nat.zero_add, Nat.reduceAdd, Nat.reduceMul, Nat.zero_mul, Nat.mul_one, Nat.add_zero]; exact rfl) | exact rfl)) ?_) | (refine HL_skip rfl rfl rfl ?_))
                all_goals first
                  | (refine HL_r rfl rfl rfl rfl (R_load rfl (known_L (k := 0) rfl) rfl rfl) ?_)
                  | (refine HL_skip rfl rfl rfl ?_)
                all_goals first
                  | (refine HL_r rfl rfl rfl rfl (R_lenPl rfl hs rfl) ?_)
                  | (refine HL_skip rfl rfl rfl ?_)
                all_goals first
                  | (refine HLp rfl ?_)
                  | (refine HL_skip rfl rfl rfl ?_)
                all_goals first
                  | (refine HL_r rfl rfl rfl rfl (R_pickT rfl rfl) ?_)
                  | (refine HL_r rfl rfl rfl rfl (R_pickF rfl rfl) ?_)
                all_goals refine HLm rfl ?_
                all_goals refine HL_nil ?_
                all_goals (
                 refine hK136 _ _ _ _ ?_; clear hK136 K136; refine HC_ret ?_; refine HQ_post rfl rfl (.cons (res_tmp rfl) .nil) (fun w1 hs1 => ?_); refine ⟨?_, hs1.keep⟩
                 unfold okForm
                 simp only [resVal]
                 simp_all
                 skip)
          · try exact Bool.noConfusion h116
            try simp only [ZZ] at h116
            refine HC_region (HLp rfl (HLm rfl ?_)); refine HL_nil (hK114 _ _ _ _ ?_); clear hK114 K114; refine HC_cond rfl (fun h145 => ?_) (fun h145 => ?_)
            · try exact Bool.noConfusion h145
              try simp only [ZZ] at h145
              refine HC_seq fun K146 hK146 => HC_region ?_
              refine HL_r rfl rfl rfl rfl (R_fieldAddr rfl rfl (by first | (simp only [Nat.zero_add, Nat.reduceAdd, Nat.reduceMul, Nat.zero_mul, Nat.mul_one, Nat.add_zero]; exact rfl) | exact rfl)) ?_; refine HL_r rfl rfl rfl rfl (R_load rfl (known_L (k := 0) rfl) rfl rfl) ?_; refine HL_r rfl rfl rfl rfl (R_lenPl rfl hs rfl) ?_; refine HLp rfl (HLm rfl ?_)
              refine HL_case 71 rfl (fun hb147 => ?_) (fun hb147 => ?_) <;> (try simp only [ZZ] at hb147) <;> first | (refine HL_r rfl rfl rfl rfl (R_fieldAddr rfl rfl (by first | (simp only [Nat.zero_add, Nat.reduceAdd, Nat.reduceMul, Nat.zero_mul, Nat.mul_one, Nat.add_zero]; exact rfl) | exact rfl)) ?_) | (refine HL_skip rfl rfl rfl ?_)
              all_goals first
                | (refine HL_r rfl rfl rfl rfl (R_load rfl (known_L (k := 0) rfl) rfl rfl) ?_)
                | (refine HL_skip rfl rfl rfl ?_)
              all_goals first
                | (refine HLp rfl ?_)
                | (refine HL_skip rfl rfl rfl ?_)
              all_goals first
                | (refine HL_r rfl rfl rfl rfl (R_pickT rfl rfl) ?_)
                | (refine HL_r rfl rfl rfl rfl (R_pickF rfl rfl) ?_)
              all_goals refine HLm rfl ?_
              all_goals first
                | (refine HL_skip rfl rfl rfl ?_)
                | (refine HL_case 76 rfl (fun hb150 => ?_) (fun hb150 => ?_) <;> (try simp only [ZZ] at hb150) <;> first | (refine HL_r rfl rfl rfl rfl (R_fieldAddr rfl rfl (by first | (simp only [Nat.zero_add, Nat.reduceAdd, Nat.reduceMul, Nat.zero_mul, Nat.mul_one, Nat.add_zero]; exact rfl) | exact rfl)) ?_) | (refine HL_skip rfl rfl rfl ?_))
              all_goals first
                | (refine HL_r rfl rfl rfl rfl (R_load rfl (known_L (k := 0) rfl) rfl rfl) ?_)
                | (refine HL_skip rfl rfl rfl ?_)
              all_goals first
                | (refine HLp rfl ?_)
                | (refine HL_skip rfl rfl rfl ?_)
              all_goals first
                | (refine HL_r rfl rfl rfl rfl (R_pickT rfl rfl) ?_)
                | (refine HL_r rfl rfl rfl rfl (R_pickF rfl rfl) ?_)
              all_goals refine HLm rfl ?_
              all_goals refine HL_nil ?_
              all_goals (
               refine hK146 _ _ _ _ ?_; clear hK146 K146; refine HC_ret (HQ_blockR (HQ_thenR ?_)); clear hK2 K2; refine HQ_post rfl rfl (.cons (res_tmp rfl) .nil) (fun w1 hs1 => ?_); refine ⟨?_, hs1.keep⟩
               unfold okForm
               simp only [resVal]
               simp_all
               all_goals first | done | rfl | omega | (rw [Bool.eq_iff_iff]; simp only [Bool.and_eq_true, decide_eq_true_eq]; omega)
               skip)
            · try exact Bool.noConfusion h145
              try simp only [ZZ] at h145
              refine HC_seq fun K153 hK153 => HC_region ?_; refine HLp rfl (HLm rfl ?_); refine HL_nil (hK153 _ _ _ _ ?_); clear hK153 K153; refine HC_cond rfl (fun h154 => ?_) (fun h154 => ?_)
              · try exact Bool.noConfusion h154
                try simp only [ZZ] at h154
                refine HC_seq fun K155 hK155 => HC_region ?_
                refine HL_r rfl rfl rfl rfl (R_fieldAddr rfl rfl (by first | (simp only [Nat.zero_add, Nat.reduceAdd, Nat.reduceMul, Nat.zero_mul, Nat.mul_one, Nat.add_zero]; exact rfl) | exact rfl)) ?_; refine HL_r rfl rfl rfl rfl (R_load rfl (known_L (k := 0) rfl) rfl rfl) ?_; refine HLp rfl (HLm rfl ?_)
                refine HL_case 86 rfl (fun hb156 => ?_) (fun hb156 => ?_) <;> (try simp only [ZZ] at hb156) <;> first | (refine HL_r rfl rfl rfl rfl (R_fieldAddr rfl rfl (by first | (simp only [Nat.zero_add, Nat.reduceAdd, Nat.reduceMul, Nat.zero_mul, Nat.mul_one, Nat.add_zero]; exact rfl) | exact rfl)) ?_) | (refine HL_skip rfl rfl rfl ?_)
                all_goals first
                  | (refine HL_r rfl rfl rfl rfl (R_load rfl (known_L (k := 0) rfl) rfl rfl) ?_)
                  | (refine HL_skip rfl rfl rfl ?_)
                all_goals first
                  | (refine HL_r rfl rfl rfl rfl (R_lenPl rfl hs rfl) ?_)
                  | (refine HL_skip rfl rfl rfl ?_)
                all_goals first
                  | (refine HLp rfl ?_)
                  | (refine HL_skip rfl rfl rfl ?_)
                all_goals first
                  | (refine HL_r rfl rfl rfl rfl (R_pickT rfl rfl) ?_)
                  | (refine HL_r rfl rfl rfl rfl (R_pickF rfl rfl) ?_)
                all_goals refine HLm rfl ?_
                all_goals first
                  | (refine HL_skip rfl rfl rfl ?_)
                  | (refine HL_case 92 rfl (fun hb160 => ?_) (fun hb160 => ?_) <;> (try simp only [ZZ] at hb160) <;> first | (refine HL_r rfl rfl rfl rfl (R_fieldAddr rfl rfl (by first | (simp only [Nat.zero_add, Nat.reduceAdd, Nat.reduceMul, Nat.zero_mul, Nat.mul_one, Nat.add_zero]; exact rfl) | exact rfl)) ?_) | (refine HL_skip rfl rfl rfl ?_))
                all_goals first
                  | (refine HL_r rfl rfl rfl rfl (R_load rfl (known_L (k := 0) rfl) rfl rfl) ?_)
                  | (refine HL_skip rfl rfl rfl ?_)
                all_goals first
                  | (refine HL_r rfl rfl rfl rfl (R_lenPl rfl hs rfl) ?_)
                  | (refine HL_skip rfl rfl rfl ?_)
                all_goals first
                  | (refine HLp rfl ?_)
                  | (refine HL_skip rfl rfl rfl ?_)
                all_goals first
                  | (refine HL_r rfl rfl rfl rfl (R_pickT rfl rfl) ?_)
                  | (refine HL_r rfl rfl rfl rfl (R_pickF rfl rfl) ?_)
                all_goals refine HLm rfl ?_
                all_goals refine HL_nil ?_
                all_goals (
                 refine hK155 _ _ _ _ ?_; clear hK155 K155; refine HC_ret (HQ_blockR (HQ_thenR ?_)); clear hK2 K2; refine HQ_post rfl rfl (.cons (res_tmp rfl) .nil) (fun w1 hs1 => ?_); refine ⟨?_, hs1.keep⟩
                 unfold okForm
                 simp only [resVal]
                 simp_all
                 all_goals first | done | rfl | omega | (rw [Bool.eq_iff_iff]; simp only [Bool.and_eq_true, decide_eq_true_eq]; omega)
                 skip)
              · try exact Bool.noConfusion h154
                try simp only [ZZ] at h154
                refine HC_skip (HQ_blockN (hK2 _ _ _ _ ?_)); clear hK2 K2; refine HC_seq fun K164 hK164 => HC_region ?_
                refine HL_r rfl rfl rfl rfl (R_fieldAddr rfl rfl (by first | (simp only [Nat.zero_add, Nat.reduceAdd, Nat.reduceMul, Nat.zero_mul, Nat.mul_one, Nat.add_zero]; exact rfl) | exact rfl)) ?_; refine HL_r rfl rfl rfl rfl (R_load rfl (known_L (k := 0) rfl) rfl rfl) ?_; refine HLp rfl (HLm rfl ?_)
                refine HL_case 101 rfl (fun hb165 => ?_) (fun hb165 => ?_) <;> (try simp only [ZZ] at hb165) <;> first | (refine HL_r rfl rfl rfl rfl (R_fieldAddr rfl rfl (by first | (simp only [Nat.zero_add, Nat.reduceAdd, Nat.reduceMul, Nat.zero_mul, Nat.mul_one, Nat.add_zero]; exact rfl) | exact rfl)) ?_) | (refine HL_skip rfl rfl rfl ?_)
                all_goals first
                  | (refine HL_r rfl rfl rfl rfl (R_load rfl (known_L (k := 0) rfl) rfl rfl) ?_)
                  | (refine HL_skip rfl rfl rfl ?_)
                all_goals first
                  | (refine HL_r rfl rfl rfl rfl (R_lenPl rfl hs rfl) ?_)
                  | (refine HL_skip rfl rfl rfl ?_)
                all_goals first
                  | (refine HLp rfl ?_)
                  | (refine HL_skip rfl rfl rfl ?_)
                all_goals first
                  | (refine HL_r rfl rfl rfl rfl (R_pickT rfl rfl) ?_)
                  | (refine HL_r rfl rfl rfl rfl (R_pickF rfl rfl) ?_)
                all_goals refine HLm rfl ?_
                all_goals first
                  | (refine HL_skip rfl rfl rfl ?_)
                  | (refine HL_case 107 rfl (fun hb169 => ?_) (fun hb169 => ?_) <;> (try simp only [ZZ] at hb169) <;> first | (refine HL_r rfl rfl rfl rfl (R_fieldAddr rfl rfl (by first | (simp only [Nat.zero_add, Nat.reduceAdd, Nat.reduceMul, Nat.zero_mul, Nat.mul_one, Nat.add_zero]; exact rfl) | exact rfl)) ?_) | (refine HL_skip rfl rfl rfl ?_))
                all_goals first
                  | (refine HL_r rfl rfl rfl rfl (R_load rfl (known_L (k := 0) rfl) rfl rfl) ?_)
                  | (refine HL_skip rfl rfl rfl ?_)
                all_goals first
                  | (refine HL_r rfl rfl rfl rfl (R_lenPl rfl hs rfl) ?_)
                  | (refine HL_skip rfl rfl rfl ?_)
                all_goals first
                  | (refine HLp rfl ?_)
                  | (refine HL_skip rfl rfl rfl ?_)
                all_goals first
                  | (refine HL_r rfl rfl rfl rfl (R_pickT rfl rfl) ?_)
                  | (refine HL_r rfl rfl rfl rfl (R_pickF rfl rfl) ?_)
                all_goals refine HLm rfl ?_
                all_goals refine HL_nil ?_
                all_goals (
                 refine hK164 _ _ _ _ ?_; clear hK164 K164; refine HC_ret ?_; refine HQ_post rfl rfl (.cons (res_tmp rfl) .nil) (fun w1 hs1 => ?_); refine ⟨?_, hs1.keep⟩
                 unfold okForm
                 simp only [resVal]
                 simp_all
                 all_goals first | done | rfl | omega | (rw [Bool.eq_iff_iff]; simp only [Bool.and_eq_true, decide_eq_true_eq]; omega)
                 skip)
end Go.Proofs.YtlcbfphioeppaaaGreatDoor
namespace Go.Proofs.YtlcbfphioeppaaaGreatDoor
set_option linter.all false
open Go.SL Go.RowKit Go.Shelf
set_option maxRecDepth 10000 in
theorem S_ref_check {R : List (Nat × Obj)} {t : Ty} (ht : t.In R) : ∀ d : Int, 0 ≤ d → d ≤ 1000 → PureR Tryz.prog 85 [t.val, .int .i64 d].toArray (.int .i64 (chk t d)) R := by
  induction ht with
  | @mk k n p ins hk hn hl hs hi ih =>
  intro d hd0 hd1
  have hform := S_ref_form (.mk hk hn hl hs hi : Ty.In R (.mk k n p ins))
  refine pureR_of_HC Tryz.func85 rfl rfl fun w => ?_; refine HC_seq fun K1 hK1 => HC_region ?_; refine HL_box (cs := #[_, _, _]) rfl rfl rfl rfl fun r1 => ?_; refine HLm rfl ?_; refine HL_nil (hK1 _ _ _ _ ?_); clear hK1 K1; refine HC_seq fun K2 hK2 => ?_; refine HC_seq fun K3 hK3 => HC_region ?_
  refine HL_r rfl rfl rfl rfl (R_fieldAddr rfl rfl (by first | (simp only [Nat.zero_add, Nat.reduceAdd, Nat.reduceMul, Nat.zero_mul, Nat.mul_one, Nat.add_zero]; exact rfl) | exact rfl)) ?_; refine HL_r rfl rfl rfl rfl (R_load rfl (known_L (k := 0) rfl) rfl rfl) ?_; refine HLp rfl (HLm rfl ?_)
  refine HL_case 11 rfl (fun hb4 => ?_) (fun hb4 => ?_) <;> (try simp only [ZZ] at hb4) <;> first | (refine HL_r rfl rfl rfl rfl (R_fieldAddr rfl rfl (by first | (simp only [Nat.zero_add, Nat.reduceAdd, Nat.reduceMul, Nat.zero_mul, Nat.mul_one, Nat.add_zero]; exact rfl) | exact rfl)) ?_) | (refine HL_skip rfl rfl rfl ?_)
  all_goals first
    | (refine HL_r rfl rfl rfl rfl (R_load rfl (known_L (k := 0) rfl) rfl rfl) ?_)
    | (refine HL_skip rfl rfl rfl ?_)
  all_goals first
    | (refine HLp rfl ?_)
    | (refine HL_skip rfl rfl rfl ?_)
  all_goals first
    | (refine HL_r rfl rfl rfl rfl (R_pickT rfl rfl) ?_)
    | (refine HL_r rfl rfl rfl rfl (R_pickF rfl rfl) ?_)
  all_goals refine HL_nil ?_
  all_goals (
   refine hK3 _ _ _ _ ?_; clear hK3 K3; refine HC_cond rfl (fun h7 => ?_) (fun h7 => ?_)
   · try exact Bool.noConfusion h7
     try simp only [ZZ] at h7
     refine HC_seq fun K8 hK8 => HC_region ?_; refine HLm rfl ?_; refine HL_nil (hK8 _ _ _ _ ?_); clear hK8 K8; refine HC_ret (HQ_thenR ?_); clear hK2 K2; refine HQ_post rfl rfl (.cons (res_tmp rfl) .nil) (fun w1 hs1 => ?_); refine ⟨?_, hs1.keep⟩; rw [chk, if_pos (by omega)]; rfl
   · try exact Bool.noConfusion h7
     all_goals try simp only [ZZ] at h7
     all_goals (
      refine HC_skip (hK2 _ _ _ _ ?_); clear hK2 K2; refine HC_seq fun K9 hK9 => HC_region ?_; refine HL_r rfl rfl rfl rfl (R_loadA (vs := [_, _, _]) rfl (known_L (k := 0) rfl) rfl rfl rfl rfl) ?_; refine HL_callR rfl rfl rfl (enters_of Tryz.func133 (by kernel_rfl) rfl) hform (fun q hq => Or.inr hq) ?_; refine HLm rfl ?_; refine HL_nil (hK9 _ _ _ _ ?_); clear hK9 K9; refine HC_seq fun K10 hK10 => ?_; refine HC_seq fun K11 hK11 => HC_region ?_; refine HLm rfl (HLp rfl ?_); refine HL_nil (hK11 _ _ _ _ ?_); clear hK11 K11; refine HC_cond rfl (fun h12 => ?_) (fun h12 => ?_)
      · try exact Bool.noConfusion h12
        try simp only [ZZ] at h12
        refine HC_seq fun K13 hK13 => HC_region ?_; refine HLm rfl ?_; refine HL_nil (hK13 _ _ _ _ ?_); clear hK13 K13; refine HC_ret (HQ_thenR ?_); clear hK10 K10; refine HQ_post rfl rfl (.cons (res_tmp rfl) .nil) (fun w1 hs1 => ?_); refine ⟨?_, hs1.keep⟩; rw [chk, if_neg (by omega), if_pos (by assumption)]; rfl
      · try exact Bool.noConfusion h12
        try simp only [ZZ] at h12
        refine HC_skip (hK10 _ _ _ _ ?_); clear hK10 K10; refine HC_seq fun K14 hK14 => ?_; refine HC_seq fun K15 hK15 => HC_region ?_; refine HLm rfl (HLp rfl ?_); refine HL_nil (hK15 _ _ _ _ ?_); clear hK15 K15; refine HC_cond rfl (fun h16 => ?_) (fun h16 => ?_)
        · try exact Bool.noConfusion h16
          try simp only [ZZ] at h16
          refine HC_seq fun K17 hK17 => HC_region ?_; refine HLm rfl ?_; refine HL_nil (hK17 _ _ _ _ ?_); clear hK17 K17; refine HC_ret (HQ_thenR ?_); clear hK14 K14; refine HQ_post rfl rfl (.cons (res_tmp rfl) .nil) (fun w1 hs1 => ?_); refine ⟨?_, hs1.keep⟩; rw [chk, if_neg (by omega), if_neg (by simp_all), if_pos (by omega)]; rfl
        · try exact Bool.noConfusion h16
          try simp only [ZZ] at h16
          refine HC_skip (hK14 _ _ _ _ ?_); clear hK14 K14; refine HC_seq fun K18 hK18 => ?_; refine HC_seq fun K19 hK19 => HC_region ?_; refine HLm rfl ?_; refine HL_nil (hK19 _ _ _ _ ?_); clear hK19 K19; refine HC_block (HC_loop (σ := Nat) (fun i => i ≤ ins.length ∧ chkL (ins.drop i) (d + 1) = chkL ins (d + 1)) (fun i => [(1, .int .i64 d), (2, .pointer (some ⟨r1, 0, none⟩)), (6, .int .i64 (i : Int))]) (fun _ => [(r1, .cells #[.int .i64 k, .int .i64 n, plV ins.length p] 24 (0, 0))]) (fun _ _ _ => True) (fun i => ins.length - i) 0 ⟨by omega, rfl⟩ (.cons rfl (.cons rfl (.cons rfl .nil))) (List.Sublist.refl _) (fun _ _ h => h) ?_); rintro i ⟨hi1, hinv⟩; refine HC_seq fun K20 hK20 => ?_; refine HC_seq fun K21 hK21 => HC_region ?_; refine HLm rfl ?_
          refine HL_r rfl rfl rfl rfl (R_fieldAddr rfl rfl (by first | (simp only [Nat.zero_add, Nat.reduceAdd, Nat.reduceMul, Nat.zero_mul, Nat.mul_one, Nat.add_zero]; exact rfl) | exact rfl)) ?_; refine HL_r rfl rfl rfl rfl (R_load rfl (known_L (k := 0) rfl) rfl rfl) ?_; refine HL_r rfl rfl rfl rfl (R_lenPl rfl hs rfl) ?_; refine HLp rfl ?_; refine HL_nil (hK21 _ _ _ _ ?_); clear hK21 K21; refine HC_cond rfl (fun h22 => ?_) (fun h22 => ?_)
          · try exact Bool.noConfusion h22
            try simp only [ZZ] at h22
            refine HC_skip (hK20 _ _ _ _ ?_); clear hK20 K20; refine HC_seq fun K23 hK23 => HC_block ?_; refine HC_seq fun K24 hK24 => ?_
            obtain ⟨y, hy, hmem⟩ := getI (show i < ins.length by omega)
            rw [dropI hy, chkL] at hinv; refine HC_region ?_
            refine HL_r rfl rfl rfl rfl (R_fieldAddr rfl rfl (by first | (simp only [Nat.zero_add, Nat.reduceAdd, Nat.reduceMul, Nat.zero_mul, Nat.mul_one, Nat.add_zero]; exact rfl) | exact rfl)) ?_; refine HL_r rfl rfl rfl rfl (R_load rfl (known_L (k := 0) rfl) rfl rfl) ?_; refine HLm rfl (HL_r rfl rfl rfl rfl (R_indexPl (j := i) rfl hs rfl rfl rfl rfl (by omega)) (HL_r rfl rfl rfl rfl (R_loadTy (fun q hq => Or.inr hq) rfl hs hy rfl rfl) ?_)); refine HLm rfl (HLp rfl (HL_wrap_i64 (by omega) (by omega) ?_)); refine HL_callR rfl rfl rfl (enters_of Tryz.func85 (by kernel_rfl) rfl) (ih y hmem (d + 1) (by omega) (by omega)) (fun q hq => Or.inr hq) ?_; refine HLm rfl ?_; refine HL_nil (hK24 _ _ _ _ ?_); clear hK24 K24; refine HC_seq fun K25 hK25 => HC_region ?_; refine HLm rfl (HLp rfl ?_); refine HL_nil (hK25 _ _ _ _ ?_); clear hK25 K25; refine HC_cond rfl (fun h26 => ?_) (fun h26 => ?_)
            · try exact Bool.noConfusion h26
              try simp only [ZZ] at h26
              refine HC_seq fun K27 hK27 => HC_region ?_; refine HLm rfl (HLm rfl ?_); refine HL_nil (hK27 _ _ _ _ ?_); clear hK27 K27; refine HC_ret (HQ_blockR (HQ_thenR ?_)); clear hK23 K23; refine HQ_thenR (HQ_blockR (HQ_thenR ?_)); clear hK18 K18; refine HQ_post rfl rfl (.cons (res_tmp rfl) .nil) (fun w1 hs1 => ?_); refine ⟨?_, hs1.keep⟩; rw [chk, if_neg (by omega), if_neg (by simp_all), if_neg (by omega), ← hinv, if_neg (by assumption)]; rfl
            · try exact Bool.noConfusion h26
              try simp only [ZZ] at h26
              refine HC_skip (HQ_blockN (hK23 _ _ _ _ ?_)); clear hK23 K23; refine HC_region (HLm rfl ?_); refine HLp rfl (HL_wrap_i64 (by omega) (by omega) ?_); refine HLm rfl (HL_nil (HQ_then ?_)); exact HQ_again (i + 1) ⟨by omega, by rw [if_pos (by assumption)] at hinv; exact hinv⟩ (by omega) (.cons rfl (.cons rfl (.cons rfl .nil))) (List.Sublist.refl _) (fun _ _ h => h)
          · try exact Bool.noConfusion h22
            try simp only [ZZ] at h22
            refine HC_exit (HQ_thenE ?_); clear hK20 K20; refine HQ_thenE (HQ_blockE (hK18 _ _ _ _ ?_)); clear hK18 K18; refine HC_seq fun K28 hK28 => HC_region ?_; refine HLm rfl ?_; refine HL_nil (hK28 _ _ _ _ ?_); clear hK28 K28; refine HC_ret ?_; refine HQ_post rfl rfl (.cons (res_tmp rfl) .nil) (fun w1 hs1 => ?_); refine ⟨?_, hs1.keep⟩; rw [chk, if_neg (by omega), if_neg (by simp_all), if_neg (by omega), ← hinv, List.drop_of_length_le (by omega), chkL]; rfl
      skip)
   skip)
set_option maxRecDepth 10000 in
theorem S_ref_Check {R : List (Nat × Obj)} {t : Ty} (ht : t.In R) : PureR Tryz.prog 44 [t.val].toArray (.int .i64 (chk t 0)) R := by
  have h1 := S_ref_check ht 0 (by omega) (by omega)
  obtain ⟨k, n, p, ins⟩ := t
  refine pureR_of_HC Tryz.func44 rfl rfl fun w => ?_; refine HC_seq fun K1 hK1 => HC_region ?_; refine HL_box (cs := #[_, _, _]) rfl rfl rfl rfl fun r1 => ?_; refine HLm rfl ?_; refine HL_nil (hK1 _ _ _ _ ?_); refine HC_seq fun K2 hK2 => HC_region ?_; refine HL_r rfl rfl rfl rfl (R_loadA (vs := [_, _, _]) rfl (known_L (k := 0) rfl) rfl rfl rfl rfl) ?_; refine HL_callR rfl rfl rfl (enters_of Tryz.func85 (by kernel_rfl) rfl) h1 (fun q hq => Or.inr hq) ?_; refine HLm rfl ?_; refine HL_nil (hK2 _ _ _ _ ?_); refine HC_ret ?_; refine HQ_post rfl rfl (.cons (res_tmp rfl) .nil) (fun w1 hs1 => ?_); exact ⟨rfl, hs1.keep⟩
set_option maxRecDepth 10000 in
theorem S_ref_fixed {R : List (Nat × Obj)} {t : Ty} (ht : t.In R) : PureR Tryz.prog 128 [t.val].toArray (.bool (fixT t)) R := by
  induction ht with
  | @mk k n p ins hk hn hl hs hi ih =>
  refine pureR_of_HC Tryz.func128 rfl rfl fun w => ?_; refine HC_seq fun K1 hK1 => HC_region ?_; refine HL_box (cs := #[_, _, _]) rfl rfl rfl rfl fun r1 => ?_; refine HLm rfl ?_; refine HL_nil (hK1 _ _ _ _ ?_); clear hK1 K1; refine HC_seq fun K2 hK2 => ?_; refine HC_seq fun K3 hK3 => HC_region ?_
  refine HL_r rfl rfl rfl rfl (R_fieldAddr rfl rfl (by first | (simp only [Nat.zero_add, Nat.reduceAdd, Nat.reduceMul, Nat.zero_mul, Nat.mul_one, Nat.add_zero]; exact rfl) | exact rfl)) ?_; refine HL_r rfl rfl rfl rfl (R_load rfl (known_L (k := 0) rfl) rfl rfl) ?_; refine HLp rfl (HLm rfl ?_)
  refine HL_case 7 rfl (fun hb4 => ?_) (fun hb4 => ?_) <;> (try simp only [ZZ] at hb4) <;> first | (refine HL_r rfl rfl rfl rfl (R_fieldAddr rfl rfl (by first | (simp only [Nat.zero_add, Nat.reduceAdd, Nat.reduceMul, Nat.zero_mul, Nat.mul_one, Nat.add_zero]; exact rfl) | exact rfl)) ?_) | (refine HL_skip rfl rfl rfl ?_)
  all_goals first
    | (refine HL_r rfl rfl rfl rfl (R_load rfl (known_L (k := 0) rfl) rfl rfl) ?_)
    | (refine HL_skip rfl rfl rfl ?_)
  all_goals first
    | (refine HLp rfl ?_)
    | (refine HL_skip rfl rfl rfl ?_)
  all_goals first
    | (refine HL_r rfl rfl rfl rfl (R_pickT rfl rfl) ?_)
    | (refine HL_r rfl rfl rfl rfl (R_pickF rfl rfl) ?_)
  all_goals refine HLm rfl ?_
  all_goals first
    | (refine HL_skip rfl rfl rfl ?_)
    | (refine HL_case 12 rfl (fun hb7 => ?_) (fun hb7 => ?_) <;> (try simp only [ZZ] at hb7) <;> first | (refine HL_r rfl rfl rfl rfl (R_fieldAddr rfl rfl (by first | (simp only [Nat.zero_add, Nat.reduceAdd, Nat.reduceMul, Nat.zero_mul, Nat.mul_one, Nat.add_zero]; exact rfl) | exact rfl)) ?_) | (refine HL_skip rfl rfl rfl ?_))
  all_goals first
    | (refine HL_r rfl rfl rfl rfl (R_load rfl (known_L (k := 0) rfl) rfl rfl) ?_)
    | (refine HL_skip rfl rfl rfl ?_)
  all_goals first
    | (refine HLp rfl ?_)
    | (refine HL_skip rfl rfl rfl ?_)
  all_goals first
    | (refine HL_r rfl rfl rfl rfl (R_pickT rfl rfl) ?_)
    | (refine HL_r rfl rfl rfl rfl (R_pickF rfl rfl) ?_)
  all_goals refine HL_nil ?_
  all_goals (
   refine hK3 _ _ _ _ ?_; clear hK3 K3; refine HC_cond rfl (fun h10 => ?_) (fun h10 => ?_)
   · try exact Bool.noConfusion h10
     try simp only [ZZ] at h10
     refine HC_seq fun K11 hK11 => HC_region ?_; refine HLm rfl ?_; refine HL_nil (hK11 _ _ _ _ ?_); clear hK11 K11; refine HC_ret (HQ_thenR ?_); clear hK2 K2; refine HQ_post rfl rfl (.cons (res_tmp rfl) .nil) (fun w1 hs1 => ?_); refine ⟨?_, hs1.keep⟩; rw [fixT]
     simp_all [resVal]; done
   · try exact Bool.noConfusion h10
     all_goals try simp only [ZZ] at h10
     all_goals (
      refine HC_skip (hK2 _ _ _ _ ?_); clear hK2 K2; refine HC_seq fun K12 hK12 => ?_; refine HC_seq fun K13 hK13 => HC_region ?_; refine HLm rfl ?_; refine HL_nil (hK13 _ _ _ _ ?_); clear hK13 K13; refine HC_block (HC_loop (σ := Nat) (fun i => i ≤ ins.length ∧ fixL (ins.drop i) = fixL ins) (fun i => [(1, .pointer (some ⟨r1, 0, none⟩)), (3, .int .i64 (i : Int))]) (fun _ => [(r1, .cells #[.int .i64 k, .int .i64 n, plV ins.length p] 24 (0, 0))]) (fun _ _ _ => True) (fun i => ins.length - i) 0 ⟨by omega, rfl⟩ (.cons rfl (.cons rfl .nil)) (List.Sublist.refl _) (fun _ _ h => h) ?_); rintro i ⟨hi1, hinv⟩; refine HC_seq fun K14 hK14 => ?_; refine HC_seq fun K15 hK15 => HC_region ?_; refine HLm rfl ?_
      refine HL_r rfl rfl rfl rfl (R_fieldAddr rfl rfl (by first | (simp only [Nat.zero_add, Nat.reduceAdd, Nat.reduceMul, Nat.zero_mul, Nat.mul_one, Nat.add_zero]; exact rfl) | exact rfl)) ?_; refine HL_r rfl rfl rfl rfl (R_load rfl (known_L (k := 0) rfl) rfl rfl) ?_; refine HL_r rfl rfl rfl rfl (R_lenPl rfl hs rfl) ?_; refine HLp rfl ?_; refine HL_nil (hK15 _ _ _ _ ?_); clear hK15 K15; refine HC_cond rfl (fun h16 => ?_) (fun h16 => ?_)
      · try exact Bool.noConfusion h16
        try simp only [ZZ] at h16
        refine HC_skip (hK14 _ _ _ _ ?_); clear hK14 K14; refine HC_seq fun K17 hK17 => HC_block ?_; refine HC_seq fun K18 hK18 => ?_
        obtain ⟨y, hy, hmem⟩ := getI (show i < ins.length by omega)
        rw [dropI hy, fixL] at hinv; refine HC_region ?_
        refine HL_r rfl rfl rfl rfl (R_fieldAddr rfl rfl (by first | (simp only [Nat.zero_add, Nat.reduceAdd, Nat.reduceMul, Nat.zero_mul, Nat.mul_one, Nat.add_zero]; exact rfl) | exact rfl)) ?_; refine HL_r rfl rfl rfl rfl (R_load rfl (known_L (k := 0) rfl) rfl rfl) ?_; refine HLm rfl (HL_r rfl rfl rfl rfl (R_indexPl (j := i) rfl hs rfl rfl rfl rfl (by omega)) (HL_r rfl rfl rfl rfl (R_loadTy (fun q hq => Or.inr hq) rfl hs hy rfl rfl) ?_)); refine HL_callR rfl rfl rfl (enters_of Tryz.func128 (by kernel_rfl) rfl) (ih y hmem) (fun q hq => Or.inr hq) ?_; refine HLp rfl ?_; refine HL_nil (hK18 _ _ _ _ ?_); clear hK18 K18; refine HC_cond rfl (fun h19 => ?_) (fun h19 => ?_)
        · try exact Bool.noConfusion h19
          try simp only [ZZ] at h19
          refine HC_seq fun K20 hK20 => HC_region ?_; refine HLm rfl ?_; refine HL_nil (hK20 _ _ _ _ ?_); clear hK20 K20; refine HC_ret (HQ_blockR (HQ_thenR ?_)); clear hK17 K17; refine HQ_thenR (HQ_blockR (HQ_thenR ?_)); clear hK12 K12; refine HQ_post rfl rfl (.cons (res_tmp rfl) .nil) (fun w1 hs1 => ?_); refine ⟨?_, hs1.keep⟩; rw [fixT]
          simp_all [resVal]; done
        · try exact Bool.noConfusion h19
          try simp only [ZZ] at h19
          refine HC_skip (HQ_blockN (hK17 _ _ _ _ ?_)); clear hK17 K17; refine HC_region (HLm rfl ?_); refine HLp rfl (HL_wrap_i64 (by omega) (by omega) ?_); refine HLm rfl (HL_nil (HQ_then ?_)); exact HQ_again (i + 1) ⟨by omega, by simp_all⟩ (by omega) (.cons rfl (.cons rfl .nil)) (List.Sublist.refl _) (fun _ _ h => h)
      · try exact Bool.noConfusion h16
        try simp only [ZZ] at h16
        refine HC_exit (HQ_thenE ?_); clear hK14 K14; refine HQ_thenE (HQ_blockE (hK12 _ _ _ _ ?_)); clear hK12 K12; refine HC_seq fun K21 hK21 => HC_region ?_; refine HLm rfl ?_; refine HL_nil (hK21 _ _ _ _ ?_); clear hK21 K21; refine HC_ret ?_; refine HQ_post rfl rfl (.cons (res_tmp rfl) .nil) (fun w1 hs1 => ?_); refine ⟨?_, hs1.keep⟩; rw [fixT]; rw [← hinv, List.drop_of_length_le (by omega), fixL]; simp_all [resVal]; done
      skip)
   skip)
set_option maxRecDepth 10000 in
theorem S_ref_Fixed {R : List (Nat × Obj)} {t : Ty} (ht : t.In R) : PureR Tryz.prog 78 [t.val].toArray (.bool (isFix t)) R := by
  have h1 := S_ref_Check ht
  have h2 := S_ref_fixed ht
  obtain ⟨k, n, p, ins⟩ := t
  refine pureR_of_HC Tryz.func78 rfl rfl fun w => ?_; refine HC_seq fun K1 hK1 => HC_region ?_; refine HL_box (cs := #[_, _, _]) rfl rfl rfl rfl fun r1 => ?_; refine HLm rfl ?_; refine HL_nil (hK1 _ _ _ _ ?_); clear hK1 K1; refine HC_seq fun K2 hK2 => HC_region ?_; refine HL_r rfl rfl rfl rfl (R_loadA (vs := [_, _, _]) rfl (known_L (k := 0) rfl) rfl rfl rfl rfl) ?_; refine HL_callR rfl rfl rfl (enters_of Tryz.func44 (by kernel_rfl) rfl) h1 (fun q hq => Or.inr hq) ?_; refine HLp rfl (HLm rfl ?_)
  refine HL_case 6 rfl (fun hb3 => ?_) (fun hb3 => ?_) <;> (try simp only [ZZ] at hb3) <;> first | (refine HL_r rfl rfl rfl rfl (R_loadA (vs := [_, _, _]) rfl (known_L (k := 0) rfl) rfl rfl rfl rfl) ?_) | (refine HL_skip rfl rfl rfl ?_)
  all_goals first
    | (refine HL_callR rfl rfl rfl (enters_of Tryz.func128 (by kernel_rfl) rfl) h2 (fun q hq => Or.inr hq) ?_)
    | (refine HL_skip rfl rfl rfl ?_)
  all_goals first
    | (refine HL_r rfl rfl rfl rfl (R_pickT rfl rfl) ?_)
    | (refine HL_r rfl rfl rfl rfl (R_pickF rfl rfl) ?_)
  all_goals refine HLm rfl ?_
  all_goals refine HL_nil ?_
  all_goals (
   refine hK2 _ _ _ _ ?_; clear hK2 K2; refine HC_ret ?_; refine HQ_post rfl rfl (.cons (res_tmp rfl) .nil) (fun w1 hs1 => ?_); refine ⟨?_, hs1.keep⟩
   simp_all [isFix, resVal]
   skip)
theorem sizT_leaf {k n : Int} {p : Pl} {ins : List Ty} (h1 : k ≠ 1) (h2 : k ≠ 2) (h5 : k ≠ 5) (h3 : k ≠ 3) : sizT (.mk k n p ins) = sizL ins := by
  rw [sizT, if_neg h1, if_neg h2, if_neg h5, if_neg h3]
set_option maxRecDepth 10000 in
theorem S_ref_size {R : List (Nat × Obj)} {t : Ty} (ht : t.In R) : ∀ d : Int, 0 ≤ d → chk t d = 0 → fixT t = true → PureR Tryz.prog 134 [t.val].toArray (.int .i64 (sizT t)) R := by
  induction ht with
  | @mk k n p ins hk hn hl hs hi ih =>
  intro d hd hc hf
  have hsz := siz_le _ d hd hc hf
  have hb5 := bnd_le (show (5 - d).toNat ≤ 5 by omega)
  obtain ⟨hk8, ho, h6, hci⟩ := chk_mk hc
  rw [fixT, Bool.and_eq_true] at hf
  have hne : (k ≠ 4 ∧ k ≠ 6) ∧ k ≠ 8 := by simpa using hf.1
  have hfi := fixL_mem.1 hf.2
  have hsub : ∀ x ∈ ins, 1 ≤ sizT x := fun x hx => (siz_le x (d + 1) (by omega) (hci x hx) (hfi x hx)).1
  have hone : k = 3 → ins.length = 1 ∧ 1 ≤ n ∧ n ≤ 512 := fun h => by subst h; simp [okForm] at ho; omega
  have hbit : k = 5 → 1 ≤ n ∧ n ≤ 512 := fun h => by subst h; simp [okForm] at ho; omega
  have hdp : ∀ i, 0 ≤ sizL (ins.drop i) := fun i => Int.le_trans (by omega) (sizL_le (B := 2251799813685248) (l := ins.drop i) fun x hx => ⟨hsub x (List.mem_of_mem_drop hx), Int.le_trans (siz_le x (d + 1) (by omega) (hci x (List.mem_of_mem_drop hx)) (hfi x (List.mem_of_mem_drop hx))).2 (bnd_le (by omega))⟩).1
  refine pureR_of_HC Tryz.func134 rfl rfl fun w => ?_; refine HC_seq fun K1 hK1 => HC_region ?_; refine HL_box (cs := #[_, _, _]) rfl rfl rfl rfl fun r1 => ?_; refine HLm rfl ?_; refine HL_nil (hK1 _ _ _ _ ?_); refine HC_seq fun K2 hK2 => ?_; refine HC_seq fun K3 hK3 => HC_region ?_
  refine HL_r rfl rfl rfl rfl (R_fieldAddr rfl rfl (by first | (simp only [Nat.zero_add, Nat.reduceAdd, Nat.reduceMul, Nat.zero_mul, Nat.mul_one, Nat.add_zero]; exact rfl) | exact rfl)) ?_; refine HL_r rfl rfl rfl rfl (R_load rfl (known_L (k := 0) rfl) rfl rfl) ?_; refine HL_nil (hK3 _ _ _ _ ?_); refine HC_block (HC_seq fun K4 hK4 => HC_region ?_); refine HLp rfl (HLm rfl ?_); refine HL_nil (hK4 _ _ _ _ ?_); refine HC_cond rfl (fun h5 => ?_) (fun h5 => ?_)
  · try exact Bool.noConfusion h5
    try simp only [ZZ] at h5
    refine HC_seq fun K6 hK6 => HC_region ?_
    refine HL_r rfl rfl rfl rfl (R_fieldAddr rfl rfl (by first | (simp only [Nat.zero_add, Nat.reduceAdd, Nat.reduceMul, Nat.zero_mul, Nat.mul_one, Nat.add_zero]; exact rfl) | exact rfl)) ?_; refine HL_r rfl rfl rfl rfl (R_load rfl (known_L (k := 0) rfl) rfl rfl) ?_; refine HLm rfl ?_; refine HL_nil (hK6 _ _ _ _ ?_); refine HC_ret (HQ_blockR (HQ_thenR ?_)); refine HQ_post rfl rfl (.cons (res_tmp rfl) .nil) (fun w1 hs1 => ?_); refine ⟨?_, hs1.keep⟩; rw [sizT, if_pos (by assumption)]; rfl
  · try exact Bool.noConfusion h5
    try simp only [ZZ] at h5
    refine HC_seq fun K7 hK7 => HC_region ?_; refine HLp rfl (HLm rfl ?_); refine HL_nil (hK7 _ _ _ _ ?_); refine HC_cond rfl (fun h8 => ?_) (fun h8 => ?_)
    · try exact Bool.noConfusion h8
      try simp only [ZZ] at h8
      refine HC_seq fun K9 hK9 => HC_region ?_; refine HLm rfl ?_; refine HL_nil (hK9 _ _ _ _ ?_); refine HC_ret (HQ_blockR (HQ_thenR ?_)); refine HQ_post rfl rfl (.cons (res_tmp rfl) .nil) (fun w1 hs1 => ?_); refine ⟨?_, hs1.keep⟩; rw [sizT, if_neg (by assumption), if_pos (by assumption)]; rfl
    · try exact Bool.noConfusion h8
      try simp only [ZZ] at h8
      refine HC_seq fun K10 hK10 => HC_region ?_; refine HLp rfl (HLm rfl ?_); refine HL_nil (hK10 _ _ _ _ ?_); refine HC_cond rfl (fun h11 => ?_) (fun h11 => ?_)
      · try exact Bool.noConfusion h11
        try simp only [ZZ] at h11
        refine HC_seq fun K12 hK12 => HC_region ?_
        refine HL_r rfl rfl rfl rfl (R_fieldAddr rfl rfl (by first | (simp only [Nat.zero_add, Nat.reduceAdd, Nat.reduceMul, Nat.zero_mul, Nat.mul_one, Nat.add_zero]; exact rfl) | exact rfl)) ?_; refine HL_r rfl rfl rfl rfl (R_load rfl (known_L (k := 0) rfl) rfl rfl) ?_; refine HLp rfl (HL_wrap_i64 (by omega) (by omega) ?_); refine HLp rfl (HL_quo (by omega) (by omega) (by omega) (HLm rfl ?_)); refine HL_nil (hK12 _ _ _ _ ?_); refine HC_ret (HQ_blockR (HQ_thenR ?_)); refine HQ_post rfl rfl (.cons (res_tmp rfl) .nil) (fun w1 hs1 => ?_); refine ⟨?_, hs1.keep⟩; rw [sizT, if_neg (by assumption), if_neg (by assumption), if_pos (by assumption)]; rfl
      · try exact Bool.noConfusion h11
        try simp only [ZZ] at h11
        refine HC_seq fun K13 hK13 => HC_region ?_; refine HLp rfl (HLm rfl ?_); refine HL_nil (hK13 _ _ _ _ ?_); refine HC_cond rfl (fun h14 => ?_) (fun h14 => ?_)
        · try exact Bool.noConfusion h14
          try simp only [ZZ] at h14
          refine HC_seq fun K15 hK15 => ?_
          obtain ⟨y, hy, hmem⟩ := getI (show 0 < ins.length by have := hone (by assumption); omega)
          have hyn : sizT (.mk k n p ins) = n * sizT y := by
            have h1 := hone (by assumption)
            rw [sizT, if_neg (by omega), if_neg (by omega), if_neg (by omega), if_pos (by assumption), show ins = [y] from by
              match ins, h1.1, hy with
              | [z], _, hy => simp at hy; rw [hy], sizL, sizL, Int.add_zero]
          rw [hyn] at hsz; refine HC_draw 9 (by kernel_rfl) (by kernel_rfl) ?_
          refine HD_r rfl rfl rfl (R_fieldAddr rfl rfl (by first | (simp only [Nat.zero_add, Nat.reduceAdd, Nat.reduceMul, Nat.zero_mul, Nat.mul_one, Nat.add_zero]; exact rfl) | exact rfl)) ?_; refine HD_r rfl rfl rfl (R_load rfl (known_L (k := 0) rfl) rfl rfl) ?_
          refine HD_r rfl rfl rfl (R_fieldAddr rfl rfl (by first | (simp only [Nat.zero_add, Nat.reduceAdd, Nat.reduceMul, Nat.zero_mul, Nat.mul_one, Nat.add_zero]; exact rfl) | exact rfl)) ?_; refine HD_r rfl rfl rfl (R_load rfl (known_L (k := 0) rfl) rfl rfl) ?_; refine HD_r rfl rfl rfl (R_indexPl (j := 0) rfl hs rfl rfl rfl rfl (by omega)) ?_; refine HD_r rfl rfl rfl (R_loadTy (fun q hq => Or.inr hq) rfl hs hy rfl rfl) ?_; refine HD_callR rfl rfl rfl (enters_of Tryz.func134 (by kernel_rfl) rfl) (ih y hmem (d + 1) (by omega) (hci y hmem) (hfi y hmem)) (fun q hq => Or.inr hq) ?_; refine HD_r rfl rfl rfl (R_pure rfl rfl rfl) ?_; refine HD_as (show _ = Value.int .i64 (n * sizT y) from congrArg (Value.int .i64) (wrap_i64 (by omega) (by omega))) ?_; refine HD_r rfl rfl rfl (R_assign rfl) ?_; refine HD_end ?_; refine HL_nil (hK15 _ _ _ _ ?_); refine HC_ret (HQ_blockR (HQ_thenR ?_)); refine HQ_post rfl rfl (.cons (res_tmp rfl) .nil) (fun w1 hs1 => ?_); refine ⟨?_, hs1.keep⟩; rw [hyn]; rfl
        · try exact Bool.noConfusion h14
          try simp only [ZZ] at h14
          refine HC_skip (HQ_blockN (hK2 _ _ _ _ ?_)); refine HC_seq fun K16 hK16 => HC_region ?_; refine HLm rfl ?_; refine HL_nil (hK16 _ _ _ _ ?_); refine HC_seq fun K17 hK17 => ?_; refine HC_seq fun K18 hK18 => HC_region ?_; refine HLm rfl ?_; refine HL_nil (hK18 _ _ _ _ ?_); refine HC_block (HC_loop (σ := Nat × Int) (fun s => s.1 ≤ ins.length ∧ 0 ≤ s.2 ∧ s.2 + sizL (ins.drop s.1) = sizL ins) (fun s => [(1, .pointer (some ⟨r1, 0, none⟩)), (3, .int .i64 s.2), (4, .int .i64 (s.1 : Int))]) (fun _ => [(r1, .cells #[.int .i64 k, .int .i64 n, plV ins.length p] 24 (0, 0))]) (fun _ _ _ => True) (fun s => ins.length - s.1) (0, 0) ⟨by omega, by omega, by simp⟩ (.cons rfl (.cons rfl (.cons rfl .nil))) (List.Sublist.refl _) (fun _ _ h => h) ?_); rintro ⟨i, m⟩ ⟨hi1, hm, hinv⟩; simp only at hinv hi1 hm; refine HC_seq fun K19 hK19 => ?_; refine HC_seq fun K20 hK20 => HC_region ?_; refine HLm rfl ?_
          refine HL_r rfl rfl rfl rfl (R_fieldAddr rfl rfl (by first | (simp only [Nat.zero_add, Nat.reduceAdd, Nat.reduceMul, Nat.zero_mul, Nat.mul_one, Nat.add_zero]; exact rfl) | exact rfl)) ?_; refine HL_r rfl rfl rfl rfl (R_load rfl (known_L (k := 0) rfl) rfl rfl) ?_; refine HL_r rfl rfl rfl rfl (R_lenPl rfl hs rfl) ?_; refine HLp rfl ?_; refine HL_nil (hK20 _ _ _ _ ?_); refine HC_cond rfl (fun h21 => ?_) (fun h21 => ?_)
          · try exact Bool.noConfusion h21
            try simp only [ZZ] at h21
            refine HC_skip (hK19 _ _ _ _ ?_); refine HC_seq fun K22 hK22 => HC_block ?_
            obtain ⟨y, hy, hmem⟩ := getI (show i < ins.length by omega)
            have hdi := hdp (i + 1)
            have hyp := hsub y hmem
            rw [dropI hy, sizL] at hinv; rw [sizT_leaf (by omega) (by omega) (by omega) (by omega)] at hsz; refine HC_region (HLm rfl ?_)
            refine HL_r rfl rfl rfl rfl (R_fieldAddr rfl rfl (by first | (simp only [Nat.zero_add, Nat.reduceAdd, Nat.reduceMul, Nat.zero_mul, Nat.mul_one, Nat.add_zero]; exact rfl) | exact rfl)) ?_; refine HL_r rfl rfl rfl rfl (R_load rfl (known_L (k := 0) rfl) rfl rfl) ?_; refine HLm rfl (HL_r rfl rfl rfl rfl (R_indexPl (j := i) rfl hs rfl rfl rfl rfl (by omega)) (HL_r rfl rfl rfl rfl (R_loadTy (fun q hq => Or.inr hq) rfl hs hy rfl rfl) ?_)); refine HL_callR rfl rfl rfl (enters_of Tryz.func134 (by kernel_rfl) rfl) (ih y hmem (d + 1) (by omega) (hci y hmem) (hfi y hmem)) (fun q hq => Or.inr hq) ?_; refine HLp rfl (HL_wrap_i64 (by omega) (by omega) ?_); refine HLm rfl (HL_nil ?_); refine HQ_blockN (hK22 _ _ _ _ ?_); refine HC_region (HLm rfl ?_); refine HLp rfl (HL_wrap_i64 (by omega) (by omega) ?_); refine HLm rfl (HL_nil (HQ_then ?_)); exact HQ_again (i + 1, m + sizT y) ⟨by omega, by simp only; omega, by simp only; omega⟩ (by simp only; omega) (.cons rfl (.cons rfl (.cons rfl .nil))) (List.Sublist.refl _) (fun _ _ h => h)
          · try exact Bool.noConfusion h21
            try simp only [ZZ] at h21
            refine HC_exit (HQ_thenE ?_); refine HQ_thenE (HQ_blockE (hK17 _ _ _ _ ?_)); refine HC_seq fun K23 hK23 => HC_region ?_; refine HLm rfl (HLm rfl ?_); refine HL_nil (hK23 _ _ _ _ ?_); refine HC_ret ?_; refine HQ_post rfl rfl (.cons (res_tmp rfl) .nil) (fun w1 hs1 => ?_); refine ⟨?_, hs1.keep⟩; rw [sizT_leaf (by omega) (by omega) (by omega) (by omega), ← hinv, List.drop_of_length_le (by omega), sizL, Int.add_zero]; rfl
theorem isFix_iff {t : Ty} : isFix t = true ↔ chk t 0 = 0 ∧ fixT t = true := by unfold isFix; simp
set_option maxRecDepth 10000 in
theorem S_ref_Size {R : List (Nat × Obj)} {t : Ty} (ht : t.In R) : PureR Tryz.prog 86 [t.val].toArray (.int .i64 (sizeT t)) R := by
  have h1 := S_ref_Fixed ht
  have h2 := S_ref_size ht 0 (by omega)
  obtain ⟨k, n, p, ins⟩ := t
  refine pureR_of_HC Tryz.func86 rfl rfl fun w => ?_; refine HC_seq fun K1 hK1 => HC_region ?_; refine HL_box (cs := #[_, _, _]) rfl rfl rfl rfl fun r1 => ?_; refine HLm rfl ?_; refine HL_nil (hK1 _ _ _ _ ?_); clear hK1 K1; refine HC_seq fun K2 hK2 => ?_; refine HC_seq fun K3 hK3 => HC_region ?_; refine HL_r rfl rfl rfl rfl (R_loadA (vs := [_, _, _]) rfl (known_L (k := 0) rfl) rfl rfl rfl rfl) ?_; refine HL_callR rfl rfl rfl (enters_of Tryz.func78 (by kernel_rfl) rfl) h1 (fun q hq => Or.inr hq) ?_; refine HLp rfl ?_; refine HL_nil (hK3 _ _ _ _ ?_); clear hK3 K3; refine HC_cond rfl (fun h4 => ?_) (fun h4 => ?_)
  · try exact Bool.noConfusion h4
    try simp only [ZZ] at h4
    refine HC_seq fun K5 hK5 => HC_region ?_; refine HLm rfl ?_; refine HL_nil (hK5 _ _ _ _ ?_); clear hK5 K5; refine HC_ret (HQ_thenR ?_); clear hK2 K2; refine HQ_post rfl rfl (.cons (res_tmp rfl) .nil) (fun w1 hs1 => ?_); refine ⟨?_, hs1.keep⟩
    simp_all [sizeT, resVal]
  · try exact Bool.noConfusion h4
    try simp only [ZZ] at h4
    refine HC_skip (hK2 _ _ _ _ ?_); clear hK2 K2; refine HC_seq fun K6 hK6 => HC_region ?_; refine HL_r rfl rfl rfl rfl (R_loadA (vs := [_, _, _]) rfl (known_L (k := 0) rfl) rfl rfl rfl rfl) ?_; refine HL_callR rfl rfl rfl (enters_of Tryz.func134 (by kernel_rfl) rfl) (h2 (isFix_iff.1 (by assumption)).1 (isFix_iff.1 (by assumption)).2) (fun q hq => Or.inr hq) ?_; refine HLm rfl ?_; refine HL_nil (hK6 _ _ _ _ ?_); clear hK6 K6; refine HC_ret ?_; refine HQ_post rfl rfl (.cons (res_tmp rfl) .nil) (fun w1 hs1 => ?_); refine ⟨?_, hs1.keep⟩
    simp_all [sizeT, resVal]
theorem sameV_mk {a b c d a' b' c' d' : Nat} {l l' : List Bool} {pb pb' pi pi' : Pl} {m m' : List Vl} {k k' : Int} : sameV (.mk a b c d l pb m pi k) (.mk a' b' c' d' l' pb' m' pi' k') = (decide ([a, b, c, d] = [a', b', c', d']) && decide (k = k') && decide (l = l') && sameL m m') := by
  rw [sameV]; rfl
theorem bits_ne {l l' : List Bool} {i : Nat} {x y : Bool} (h1 : l[i]? = some x) (h2 : l'[i]? = some y) (h : x ≠ y) : l ≠ l' := fun e => by subst e; rw [h1] at h2; exact h (Option.some.inj h2)
theorem bits_eq {l l' : List Bool} {i : Nat} (hl : l.length = l'.length) (hi : l.length ≤ i) (h : ∀ j, j < i → l[j]? = l'[j]?) : l = l' := by
  apply List.ext_getElem?
  intro j
  by_cases hj : j < i
  · exact h j hj
  · rw [List.getElem?_eq_none (by omega), List.getElem?_eq_none (by omega)]
theorem same_ne {m m' : List Vl} {i : Nat} {x y : Vl} (h1 : m[i]? = some x) (h2 : m'[i]? = some y) (h : sameV x y = false) : sameL m m' = false := by
  cases hs : sameL m m' with
  | false => rfl
  | true => rw [(sameL_spec.1 hs).2 i x y h1 h2] at h; cases h
theorem same_ln {m m' : List Vl} (h : m.length ≠ m'.length) : sameL m m' = false := by
  cases hs : sameL m m' with
  | false => rfl
  | true => exact absurd (sameL_spec.1 hs).1 h
set_option maxRecDepth 10000 in
theorem S_ref_Same {R : List (Nat × Obj)} {u : Vl} (hu : u.In R) : ∀ v : Vl, v.In R → PureR Tryz.prog 21 [u.val, v.val].toArray (.bool (sameV u v)) R := by
  induction hu with
  | @mk a b c d bits pb items pi pick ha hb hc hd hlb hsb hl hs hp hi ih =>
  intro v hv
  cases hv with
  | @mk a' b' c' d' bits' pb' items' pi' pick' ha' hb' hc' hd' hlb' hsb' hl' hs' hp' hi' =>
  rw [sameV_mk]; refine pureR_of_HC Tryz.func21 rfl rfl fun w => ?_; refine HC_seq fun K1 hK1 => HC_region ?_; refine HL_box (cs := #[_, _, _, _, _, _, _]) rfl rfl rfl rfl fun r1 => ?_; refine HL_box (cs := #[_, _, _, _, _, _, _]) rfl rfl rfl rfl fun r2 => ?_; refine HLm rfl ?_; refine HL_nil (hK1 _ _ _ _ ?_); clear hK1 K1; refine HC_seq fun K2 hK2 => ?_; refine HC_seq fun K3 hK3 => HC_region ?_
  refine HL_r rfl rfl rfl rfl (R_fieldAddr rfl rfl (by first | (simp only [Nat.zero_add, Nat.reduceAdd, Nat.reduceMul, Nat.zero_mul, Nat.mul_one, Nat.add_zero]; exact rfl) | exact rfl)) ?_; refine HL_r rfl rfl rfl rfl (R_loadA (vs := [_, _, _, _]) rfl (known_L (k := 1) rfl) rfl rfl rfl rfl) ?_
  refine HL_r rfl rfl rfl rfl (R_fieldAddr rfl rfl (by first | (simp only [Nat.zero_add, Nat.reduceAdd, Nat.reduceMul, Nat.zero_mul, Nat.mul_one, Nat.add_zero]; exact rfl) | exact rfl)) ?_; refine HL_r rfl rfl rfl rfl (R_loadA (vs := [_, _, _, _]) rfl (known_L (k := 0) rfl) rfl rfl rfl rfl) ?_; refine HL_r rfl rfl rfl rfl (R_neArr rfl rfl rfl rfl rfl (by kernel_rfl) rfl rfl rfl rfl) ?_; refine HL_as (congrArg (fun z => Value.bool (!z)) (eq_mapU (a := [a, b, c, d]) (b := [a', b', c', d']) rfl)) ?_; refine HLm rfl ?_
  refine HL_case 12 rfl (fun hb4 => ?_) (fun hb4 => ?_) <;> (try simp only [ZZ] at hb4) <;> first | (refine HL_r rfl rfl rfl rfl (R_fieldAddr rfl rfl (by first | (simp only [Nat.zero_add, Nat.reduceAdd, Nat.reduceMul, Nat.zero_mul, Nat.mul_one, Nat.add_zero]; exact rfl) | exact rfl)) ?_) | (refine HL_skip rfl rfl rfl ?_)
  all_goals first
    | (refine HL_r rfl rfl rfl rfl (R_load rfl (known_L (k := 1) rfl) rfl rfl) ?_)
    | (refine HL_skip rfl rfl rfl ?_)
  all_goals first
    | (refine HL_r rfl rfl rfl rfl (R_fieldAddr rfl rfl (by first | (simp only [Nat.zero_add, Nat.reduceAdd, Nat.reduceMul, Nat.zero_mul, Nat.mul_one, Nat.add_zero]; exact rfl) | exact rfl)) ?_)
    | (refine HL_skip rfl rfl rfl ?_)
  all_goals first
    | (refine HL_r rfl rfl rfl rfl (R_load rfl (known_L (k := 0) rfl) rfl rfl) ?_)
    | (refine HL_skip rfl rfl rfl ?_)
  all_goals first
    | (refine HLp rfl ?_)
    | (refine HL_skip rfl rfl rfl ?_)
  all_goals first
    | (refine HL_r rfl rfl rfl rfl (R_pickT rfl rfl) ?_)
    | (refine HL_r rfl rfl rfl rfl (R_pickF rfl rfl) ?_)
  all_goals refine HLm rfl ?_
  all_goals first
    | (refine HL_skip rfl rfl rfl ?_)
    | (refine HL_case 19 rfl (fun hb9 => ?_) (fun hb9 => ?_) <;> (try simp only [ZZ] at hb9) <;> first | (refine HL_r rfl rfl rfl rfl (R_fieldAddr rfl rfl (by first | (simp only [Nat.zero_add, Nat.reduceAdd, Nat.reduceMul, Nat.zero_mul, Nat.mul_one, Nat.add_zero]; exact rfl) | exact rfl)) ?_) | (refine HL_skip rfl rfl rfl ?_))
  all_goals first
    | (refine HL_r rfl rfl rfl rfl (R_load rfl (known_L (k := 1) rfl) rfl rfl) ?_)
    | (refine HL_skip rfl rfl rfl ?_)
  all_goals first
    | (refine HL_r rfl rfl rfl rfl (R_lenPl rfl hsb rfl) ?_)
    | (refine HL_skip rfl rfl rfl ?_)
  all_goals first
    | (refine HL_r rfl rfl rfl rfl (R_fieldAddr rfl rfl (by first | (simp only [Nat.zero_add, Nat.reduceAdd, Nat.reduceMul, Nat.zero_mul, Nat.mul_one, Nat.add_zero]; exact rfl) | exact rfl)) ?_)
    | (refine HL_skip rfl rfl rfl ?_)
  all_goals first
    | (refine HL_r rfl rfl rfl rfl (R_load rfl (known_L (k := 0) rfl) rfl rfl) ?_)
    | (refine HL_skip rfl rfl rfl ?_)
  all_goals first
    | (refine HL_r rfl rfl rfl rfl (R_lenPl rfl hsb' rfl) ?_)
    | (refine HL_skip rfl rfl rfl ?_)
  all_goals first
    | (refine HLp rfl ?_)
    | (refine HL_skip rfl rfl rfl ?_)
  all_goals first
    | (refine HL_r rfl rfl rfl rfl (R_pickT rfl rfl) ?_)
    | (refine HL_r rfl rfl rfl rfl (R_pickF rfl rfl) ?_)
  all_goals refine HLm rfl ?_
  all_goals first
    | (refine HL_skip rfl rfl rfl ?_)
    | (refine HL_case 28 rfl (fun hb16 => ?_) (fun hb16 => ?_) <;> (try simp only [ZZ] at hb16) <;> first | (refine HL_r rfl rfl rfl rfl (R_fieldAddr rfl rfl (by first | (simp only [Nat.zero_add, Nat.reduceAdd, Nat.reduceMul, Nat.zero_mul, Nat.mul_one, Nat.add_zero]; exact rfl) | exact rfl)) ?_) | (refine HL_skip rfl rfl rfl ?_))
  all_goals first
    | (refine HL_r rfl rfl rfl rfl (R_load rfl (known_L (k := 1) rfl) rfl rfl) ?_)
    | (refine HL_skip rfl rfl rfl ?_)
  all_goals first
    | (refine HL_r rfl rfl rfl rfl (R_lenPl rfl hs rfl) ?_)
    | (refine HL_skip rfl rfl rfl ?_)
  all_goals first
    | (refine HL_r rfl rfl rfl rfl (R_fieldAddr rfl rfl (by first | (simp only [Nat.zero_add, Nat.reduceAdd, Nat.reduceMul, Nat.zero_mul, Nat.mul_one, Nat.add_zero]; exact rfl) | exact rfl)) ?_)
    | (refine HL_skip rfl rfl rfl ?_)
  all_goals first
    | (refine HL_r rfl rfl rfl rfl (R_load rfl (known_L (k := 0) rfl) rfl rfl) ?_)
    | (refine HL_skip rfl rfl rfl ?_)
  all_goals first
    | (refine HL_r rfl rfl rfl rfl (R_lenPl rfl hs' rfl) ?_)
    | (refine HL_skip rfl rfl rfl ?_)
  all_goals first
    | (refine HLp rfl ?_)
    | (refine HL_skip rfl rfl rfl ?_)
  all_goals first
    | (refine HL_r rfl rfl rfl rfl (R_pickT rfl rfl) ?_)
    | (refine HL_r rfl rfl rfl rfl (R_pickF rfl rfl) ?_)
  all_goals refine HL_nil ?_
  all_goals (
   refine hK3 _ _ _ _ ?_; clear hK3 K3; refine HC_cond rfl (fun h23 => ?_) (fun h23 => ?_)
   · try exact Bool.noConfusion h23
     try simp only [ZZ] at h23
     refine HC_seq fun K24 hK24 => HC_region ?_; refine HLm rfl ?_; refine HL_nil (hK24 _ _ _ _ ?_); clear hK24 K24; refine HC_ret (HQ_thenR ?_); clear hK2 K2; refine HQ_post rfl rfl (.cons (res_tmp rfl) .nil) (fun w1 hs1 => ?_); refine ⟨?_, hs1.keep⟩
     first
       | (have hse : sameL items items' = false := same_ln (by omega)
          simp [resVal, hse]; done)
       | (have hse : bits ≠ bits' := fun e => by subst e; omega
          simp [resVal, hse]; done)
       | (simp_all [resVal]; done)
   · try exact Bool.noConfusion h23
     all_goals try simp only [ZZ] at h23
     all_goals (
      refine HC_skip (hK2 _ _ _ _ ?_); clear hK2 K2; refine HC_seq fun K25 hK25 => ?_; refine HC_seq fun K26 hK26 => HC_region ?_; refine HLm rfl ?_; refine HL_nil (hK26 _ _ _ _ ?_); clear hK26 K26; refine HC_block ?_
      have hlb2 : bits.length = bits'.length := by omega
      have hl2 : items.length = items'.length := by omega
      refine HC_loop (σ := Nat) (fun i => i ≤ bits.length ∧ ∀ j, j < i → bits[j]? = bits'[j]?) (fun i => [(2, .pointer (some ⟨r1, 0, none⟩)), (3, .pointer (some ⟨r2, 0, none⟩)), (5, .int .i64 (i : Int))]) (fun _ => [(r2, .cells #[uV a', uV b', uV c', uV d', plV bits'.length pb', plV items'.length pi', .int .i64 pick'] 31 (0, 0)), (r1, .cells #[uV a, uV b, uV c, uV d, plV bits.length pb, plV items.length pi, .int .i64 pick] 31 (0, 0))]) (fun _ _ _ => True) (fun i => bits.length - i) 0 ⟨by omega, fun j hj => absurd hj (by omega)⟩ (.cons rfl (.cons rfl (.cons rfl .nil))) (List.Sublist.refl _) (fun _ _ h => h) ?_; rintro i ⟨hi1, hinv⟩; refine HC_seq fun K27 hK27 => ?_; refine HC_seq fun K28 hK28 => HC_region ?_; refine HLm rfl ?_
      refine HL_r rfl rfl rfl rfl (R_fieldAddr rfl rfl (by first | (simp only [Nat.zero_add, Nat.reduceAdd, Nat.reduceMul, Nat.zero_mul, Nat.mul_one, Nat.add_zero]; exact rfl) | exact rfl)) ?_; refine HL_r rfl rfl rfl rfl (R_load rfl (known_L (k := 1) rfl) rfl rfl) ?_; refine HL_r rfl rfl rfl rfl (R_lenPl rfl hsb rfl) ?_; refine HLp rfl ?_; refine HL_nil (hK28 _ _ _ _ ?_); clear hK28 K28; refine HC_cond rfl (fun h29 => ?_) (fun h29 => ?_)
      · try exact Bool.noConfusion h29
        try simp only [ZZ] at h29
        refine HC_skip (hK27 _ _ _ _ ?_); clear hK27 K27; refine HC_seq fun K30 hK30 => HC_block ?_; refine HC_seq fun K31 hK31 => ?_
        obtain ⟨x, hx, hmx⟩ := getI (show i < bits.length by omega)
        obtain ⟨y, hy, hmy⟩ := getI (show i < bits'.length by omega)
        refine HC_draw 11 (by kernel_rfl) (by kernel_rfl) ?_
        refine HD_r rfl rfl rfl (R_fieldAddr rfl rfl (by first | (simp only [Nat.zero_add, Nat.reduceAdd, Nat.reduceMul, Nat.zero_mul, Nat.mul_one, Nat.add_zero]; exact rfl) | exact rfl)) ?_; refine HD_r rfl rfl rfl (R_load rfl (known_L (k := 1) rfl) rfl rfl) ?_; refine HD_r rfl rfl rfl (R_move rfl) ?_; refine HD_r rfl rfl rfl (R_indexPl (j := i) rfl hsb rfl rfl rfl rfl (by omega)) ?_; refine HD_r rfl rfl rfl (R_loadBit (fun q hq => Or.inr hq) rfl hsb hx rfl) ?_
        refine HD_r rfl rfl rfl (R_fieldAddr rfl rfl (by first | (simp only [Nat.zero_add, Nat.reduceAdd, Nat.reduceMul, Nat.zero_mul, Nat.mul_one, Nat.add_zero]; exact rfl) | exact rfl)) ?_; refine HD_r rfl rfl rfl (R_load rfl (known_L (k := 0) rfl) rfl rfl) ?_; refine HD_r rfl rfl rfl (R_move rfl) ?_; refine HD_r rfl rfl rfl (R_indexPl (j := i) rfl hsb' rfl rfl rfl rfl (by omega)) ?_; refine HD_r rfl rfl rfl (R_loadBit (fun q hq => Or.inr hq) rfl hsb' hy rfl) ?_; refine HD_r rfl rfl rfl (R_pure rfl rfl rfl) ?_; refine HD_end ?_; refine HL_nil (hK31 _ _ _ _ ?_); clear hK31 K31; refine HC_cond rfl (fun h32 => ?_) (fun h32 => ?_)
        · try exact Bool.noConfusion h32
          try simp only [ZZ] at h32
          refine HC_seq fun K33 hK33 => HC_region ?_; refine HLm rfl ?_; refine HL_nil (hK33 _ _ _ _ ?_); clear hK33 K33; refine HC_ret (HQ_blockR (HQ_thenR ?_)); clear hK30 K30; refine HQ_thenR (HQ_blockR (HQ_thenR ?_)); clear hK25 K25; refine HQ_post rfl rfl (.cons (res_tmp rfl) .nil) (fun w1 hs1 => ?_); refine ⟨?_, hs1.keep⟩
          (have hse : bits ≠ bits' := bits_ne hx hy (by assumption)
           simp [resVal, hse]; done)
        · try exact Bool.noConfusion h32
          try simp only [ZZ] at h32
          refine HC_skip (HQ_blockN (hK30 _ _ _ _ ?_)); clear hK30 K30; refine HC_region (HLm rfl ?_); refine HLp rfl (HL_wrap_i64 (by omega) (by omega) ?_); refine HLm rfl (HL_nil (HQ_then ?_))
          exact HQ_again (i + 1) ⟨by omega, fun j hj => by
            rcases Nat.lt_succ_iff_lt_or_eq.1 hj with hj | rfl
            · exact hinv j hj
            · rw [hx, hy]; simp_all⟩ (by omega) (.cons rfl (.cons rfl (.cons rfl .nil))) (List.Sublist.refl _) (fun _ _ h => h)
      · try exact Bool.noConfusion h29
        try simp only [ZZ] at h29
        refine HC_exit (HQ_thenE ?_); clear hK27 K27; refine HQ_thenE (HQ_blockE (hK25 _ _ _ _ ?_)); clear hK25 K25; refine HC_seq fun K34 hK34 => ?_; refine HC_seq fun K35 hK35 => HC_region ?_; refine HLm rfl ?_; refine HL_nil (hK35 _ _ _ _ ?_); clear hK35 K35; refine HC_block ?_
        have hbe := bits_eq hlb2 (by omega) hinv
        refine HC_loop (σ := Nat) (fun j => j ≤ items.length ∧ ∀ q, q < j → ∀ x y, items[q]? = some x → items'[q]? = some y → sameV x y = true) (fun j => [(2, .pointer (some ⟨r1, 0, none⟩)), (3, .pointer (some ⟨r2, 0, none⟩)), (6, .int .i64 (j : Int))]) (fun _ => [(r2, .cells #[uV a', uV b', uV c', uV d', plV bits'.length pb', plV items'.length pi', .int .i64 pick'] 31 (0, 0)), (r1, .cells #[uV a, uV b, uV c, uV d, plV bits.length pb, plV items.length pi, .int .i64 pick] 31 (0, 0))]) (fun _ _ _ => True) (fun j => items.length - j) 0 ⟨by omega, fun j hj => absurd hj (by omega)⟩ (.cons rfl (.cons rfl (.cons rfl .nil))) (List.Sublist.refl _) (fun _ _ h => h) ?_; rintro j ⟨hj1, hinv2⟩; refine HC_seq fun K36 hK36 => ?_; refine HC_seq fun K37 hK37 => HC_region ?_; refine HLm rfl ?_
        refine HL_r rfl rfl rfl rfl (R_fieldAddr rfl rfl (by first | (simp only [Nat.zero_add, Nat.reduceAdd, Nat.reduceMul, Nat.zero_mul, Nat.mul_one, Nat.add_zero]; exact rfl) | exact rfl)) ?_; refine HL_r rfl rfl rfl rfl (R_load rfl (known_L (k := 1) rfl) rfl rfl) ?_; refine HL_r rfl rfl rfl rfl (R_lenPl rfl hs rfl) ?_; refine HLp rfl ?_; refine HL_nil (hK37 _ _ _ _ ?_); clear hK37 K37; refine HC_cond rfl (fun h38 => ?_) (fun h38 => ?_)
        · try exact Bool.noConfusion h38
          try simp only [ZZ] at h38
          refine HC_skip (hK36 _ _ _ _ ?_); clear hK36 K36; refine HC_seq fun K39 hK39 => HC_block ?_; refine HC_seq fun K40 hK40 => ?_
          obtain ⟨x, hx, hmx⟩ := getI (show j < items.length by omega)
          obtain ⟨y, hy, hmy⟩ := getI (show j < items'.length by omega)
          refine HC_draw 12 (by kernel_rfl) (by kernel_rfl) ?_
          refine HD_r rfl rfl rfl (R_fieldAddr rfl rfl (by first | (simp only [Nat.zero_add, Nat.reduceAdd, Nat.reduceMul, Nat.zero_mul, Nat.mul_one, Nat.add_zero]; exact rfl) | exact rfl)) ?_; refine HD_r rfl rfl rfl (R_load rfl (known_L (k := 1) rfl) rfl rfl) ?_; refine HD_r rfl rfl rfl (R_move rfl) ?_; refine HD_r rfl rfl rfl (R_indexPl (j := j) rfl hs rfl rfl rfl rfl (by omega)) ?_; refine HD_r rfl rfl rfl (R_loadVl (fun q hq => Or.inr hq) rfl hs hx rfl rfl) ?_
          refine HD_r rfl rfl rfl (R_fieldAddr rfl rfl (by first | (simp only [Nat.zero_add, Nat.reduceAdd, Nat.reduceMul, Nat.zero_mul, Nat.mul_one, Nat.add_zero]; exact rfl) | exact rfl)) ?_; refine HD_r rfl rfl rfl (R_load rfl (known_L (k := 0) rfl) rfl rfl) ?_; refine HD_r rfl rfl rfl (R_move rfl) ?_; refine HD_r rfl rfl rfl (R_indexPl (j := j) rfl hs' rfl rfl rfl rfl (by omega)) ?_; refine HD_r rfl rfl rfl (R_loadVl (fun q hq => Or.inr hq) rfl hs' hy rfl rfl) ?_; refine HD_callR rfl rfl rfl (enters_of Tryz.func21 (by kernel_rfl) rfl) (ih x hmx y (hi' y hmy)) (fun q hq => Or.inr hq) ?_; refine HD_r rfl rfl rfl (R_pure rfl rfl rfl) ?_; refine HD_end ?_; refine HL_nil (hK40 _ _ _ _ ?_); clear hK40 K40; refine HC_cond rfl (fun h41 => ?_) (fun h41 => ?_)
          · try exact Bool.noConfusion h41
            try simp only [ZZ] at h41
            refine HC_seq fun K42 hK42 => HC_region ?_; refine HLm rfl ?_; refine HL_nil (hK42 _ _ _ _ ?_); clear hK42 K42; refine HC_ret (HQ_blockR (HQ_thenR ?_)); clear hK39 K39; refine HQ_thenR (HQ_blockR (HQ_thenR ?_)); clear hK34 K34; refine HQ_post rfl rfl (.cons (res_tmp rfl) .nil) (fun w1 hs1 => ?_); refine ⟨?_, hs1.keep⟩
            (have hse : sameL items items' = false := same_ne hx hy (by assumption)
             simp [resVal, hse]; done)
          · try exact Bool.noConfusion h41
            try simp only [ZZ] at h41
            refine HC_skip (HQ_blockN (hK39 _ _ _ _ ?_)); clear hK39 K39; refine HC_region (HLm rfl ?_); refine HLp rfl (HL_wrap_i64 (by omega) (by omega) ?_); refine HLm rfl (HL_nil (HQ_then ?_))
            exact HQ_again (j + 1) ⟨by omega, fun q hq u v hu hv => by
              rcases Nat.lt_succ_iff_lt_or_eq.1 hq with hq | rfl
              · exact hinv2 q hq u v hu hv
              · rw [hx] at hu; rw [hy] at hv; cases hu; cases hv; assumption⟩ (by omega) (.cons rfl (.cons rfl (.cons rfl .nil))) (List.Sublist.refl _) (fun _ _ h => h)
        · try exact Bool.noConfusion h38
          try simp only [ZZ] at h38
          refine HC_exit (HQ_thenE ?_); clear hK36 K36; refine HQ_thenE (HQ_blockE (hK34 _ _ _ _ ?_)); clear hK34 K34; refine HC_seq fun K43 hK43 => HC_region ?_; refine HLm rfl ?_; refine HL_nil (hK43 _ _ _ _ ?_); clear hK43 K43; refine HC_ret ?_; refine HQ_post rfl rfl (.cons (res_tmp rfl) .nil) (fun w1 hs1 => ?_); refine ⟨?_, hs1.keep⟩
          (have hse : sameL items items' = true := sameL_spec.2 ⟨hl2, fun q x y hx hy => hinv2 q (by have := (List.getElem?_eq_some_iff.1 hx).1; omega) x y hx hy⟩
           simp_all [resVal]; done)
      skip)
   skip)
end Go.Proofs.YtlcbfphioeppaaaGreatDoor
namespace Go.Proofs.YtlcbfphioeppaaaGreatDoor
set_option linter.all false
open Go.SL Go.RowKit Go.Shelf
set_option maxRecDepth 10000 in
theorem P_word_Of (n : Nat) : Pure Tryz.prog 150 [uV n].toArray (wV [n, 0, 0, 0]) := by
  refine pure_of_HC Tryz.func150 rfl rfl fun w => ?_; refine HC_seq fun K1 hK1 => HC_region ?_; refine HL_alloc (cs := #[_, _, _, _]) rfl rfl rfl rfl fun r1 => ?_; refine HL_nil (hK1 _ _ _ _ ?_); refine HC_seq fun K2 hK2 => HC_region ?_; refine HLm rfl (HL_r rfl rfl rfl rfl (R_build (r := [_, _, _, _]) rfl rfl) ?_)
  refine HL_storeA (k := 0) (n := 4) (cs' := #[_, _, _, _]) (vs := #[_, _, _, _]) rfl rfl rfl rfl rfl rfl rfl (by exact Nat.le_of_ble_eq_true rfl) rfl (by first | (simp only [List.set_cons_zero, List.set_cons_succ]; exact rfl) | exact rfl) ?_; refine HL_nil (hK2 _ _ _ _ ?_); refine HC_ret ?_; refine HQ_post rfl rfl (.cons (res_cellA (vs := [_, _, _, _]) rfl (known_L (k := 0) rfl) rfl rfl) .nil) (fun w1 hs1 => ?_); exact ⟨rfl, hs1.keep⟩
set_option maxRecDepth 10000 in
theorem R_of {ns : List Nat} (hns : ∀ i, ns.getD i 0 < 256) (hlen : ns.length = 32) {row : Row} (hrow : rowOk 1 32 (ns.map iV) row) :
    PureR Tryz.prog 197 [rowV 32 row].toArray (wV (stW (fun t => ns.getD t 0) 32)) (rowL 3 (ns.map iV) row) := by
  refine pureR_of_HC Tryz.func197 rfl rfl fun w => ?_
  obtain ⟨f, hf⟩ : ∃ f, f = fun t => ns.getD t 0 := ⟨_, rfl⟩
  have hfl : ∀ i, f i < 256 := fun i => by rw [hf]; exact hns i
  rw [← hf]; refine HC_seq fun K1 hK1 => HC_region ?_; refine HL_alloc (cs := #[_, _, _, _]) rfl rfl rfl rfl fun r1 => ?_; refine HL_nil (hK1 _ _ _ _ ?_); refine HC_seq fun K2 hK2 => HC_region ?_; refine HL_alloc (cs := #[_, _, _, _]) rfl rfl rfl rfl fun r2 => ?_; refine HL_nil (hK2 _ _ _ _ ?_); refine HC_seq fun K3 hK3 => ?_; refine HC_seq fun K4 hK4 => HC_region ?_; refine HLm rfl ?_; refine HL_nil (hK4 _ _ _ _ ?_); refine HC_block (HC_loop (σ := Nat) (fun i => i ≤ 32) (fun i => [(0, rowV 32 row), (2, .pointer (some ⟨r1, 0, none⟩)), (3, .pointer (some ⟨r2, 0, none⟩)), (4, .int .i64 (i : Int))]) (fun i => [(r2, .cells ((stW f i).map uV).toArray 27 (0, 0)), (r1, .cells ([0, 0, 0, 0].map uV).toArray 27 (0, 0))]) (fun _ _ _ => True) (fun i => 32 - i) 0 (Nat.zero_le _) (.cons rfl (.cons rfl (.cons rfl (.cons rfl .nil)))) (List.Sublist.refl _) (fun _ _ h => h) ?_); intro i hi; refine HC_seq fun K5 hK5 => ?_; refine HC_seq fun K6 hK6 => HC_region ?_; refine HLm rfl (HLp rfl ?_); refine HL_nil (hK6 _ _ _ _ ?_); refine HC_cond rfl (fun h7 => ?_) (fun h7 => ?_)
  · try exact Bool.noConfusion h7
    try simp only [ZZ] at h7
    refine HC_skip (hK5 _ _ _ _ ?_); refine HC_seq fun K8 hK8 => HC_block ?_; refine HC_draw 18 (by kernel_rfl) (by kernel_rfl) ?_; refine HD_r rfl rfl rfl (R_move rfl) ?_; refine HD_r rfl rfl rfl (R_pure rfl rfl rfl) ?_; refine HD_quo (by omega) (by omega) (by omega) ?_; refine HD_r rfl rfl rfl (R_move rfl) ?_; refine HD_r rfl rfl rfl (R_pure rfl rfl rfl) ?_; refine HD_quo (by omega) (by omega) (by omega) ?_; refine HD_r rfl rfl rfl (R_indexA (j := i / 8) (m := 1) (off' := i / 8) rfl rfl rfl rfl (by omega) (by omega) (by omega)) ?_; refine HD_r rfl rfl rfl (R_loadAt rfl (known_L (k := 0) rfl) rfl (mapU_get (by rw [stW_len]; omega))) ?_; refine HD_r rfl rfl rfl (R_move rfl) ?_; refine HD_r rfl rfl rfl (R_move rfl) ?_; refine HD_r rfl rfl rfl (R_indexRow (m := 1) (n := 32) (row := row) (off' := i) rfl hrow rfl rfl rfl rfl (by omega) (by omega)) ?_; refine HD_r rfl rfl rfl (R_loadRow rfl hrow (fun p hp => .inr hp) rfl (mapI_get (by omega))) ?_; refine HD_r rfl rfl rfl (R_pure rfl rfl rfl) ?_; refine HD_as (show _ = Value.int .u64 ((f i : Nat) : Int) from by rw [hf]; exact congrArg (Value.int .u64) (wrap_u64 (by omega) (by have := hns i; omega))) ?_; refine HD_r rfl rfl rfl (R_move rfl) ?_; refine HD_r rfl rfl rfl (R_pure rfl rfl rfl) ?_; refine HD_rem (by omega) ?_; refine HD_r rfl rfl rfl (R_pure rfl rfl rfl) ?_; refine HD_wrap_i64 (by omega) (by omega) ?_; refine HD_r rfl rfl rfl (R_pure rfl rfl rfl) ?_; refine HD_wrap_u64 (by omega) (by omega) ?_; refine HD_r rfl rfl rfl (R_shl (n := i % 8 * 8) rfl rfl (by omega) (show _ ≤ 64 from by omega) (shl_u64 (sh_lt (hfl i) (by omega)))) ?_; refine HD_r rfl rfl rfl (R_pure rfl rfl rfl) ?_; refine HD_as (add_u64 (sum_lt hfl (by omega))) ?_; refine HD_r rfl rfl rfl (R_indexA (j := i / 8) (m := 1) (off' := i / 8) rfl rfl rfl rfl (by omega) (by omega) (by omega)) ?_; refine HD_end ?_; refine HL_storeAt (k := 0) (off := i / 8) (xs := (stW f i).map uV) (ys := (stW f (i + 1)).map uV) rfl rfl rfl rfl rfl rfl (by simp [stW_len]; omega) (set_mapU (stW_step f (by omega))) rfl ?_; refine HL_nil ?_; refine HQ_blockN (hK8 _ _ _ _ ?_); refine HC_region (HLm rfl ?_); refine HLp rfl (HL_wrap_i64 (by omega) (by omega) ?_); refine HLm rfl (HL_nil (HQ_then ?_)); exact HQ_again (i + 1) (by omega) (by omega) (.cons rfl (.cons rfl (.cons rfl (.cons rfl .nil)))) (List.Sublist.refl _) (fun _ _ h => h)
  · try exact Bool.noConfusion h7
    try simp only [ZZ] at h7
    refine HC_exit (HQ_thenE ?_); refine HQ_thenE (HQ_blockE (hK3 _ _ _ _ ?_))
    have hi32 : i = 32 := by omega
    subst hi32; refine HC_seq fun K9 hK9 => HC_region ?_; refine HL_r rfl rfl rfl rfl (R_loadArr (xs := (stW f 32).map uV) rfl (known_L (k := 0) rfl) rfl rfl rfl) ?_; refine HL_storeArr (k := 1) (n := 4) (ys := (stW f 32).map uV) rfl rfl rfl rfl rfl rfl rfl rfl rfl ?_; refine HL_nil (hK9 _ _ _ _ ?_); refine HC_ret ?_; refine HQ_post rfl rfl (.cons (res_cellA (vs := [_, _, _, _]) rfl (known_L (k := 1) rfl) rfl rfl) .nil) (fun w1 hs1 => ?_); exact ⟨rfl, hs1.keep⟩
end Go.Proofs.YtlcbfphioeppaaaGreatDoor
namespace Go.Proofs.YtlcbfphioeppaaaGreatDoor
set_option linter.all false
open Go.SL Go.RowKit Go.Shelf
theorem fix_step {l : List Nat} {i : Nat} (hi : i < 32) : ((List.replicate (32 - i) (0 : UInt8) ++ beD l i).map bV).set (31 - i) (bV (UInt8.ofNat (dg l i))) = (List.replicate (32 - (i + 1)) 0 ++ beD l (i + 1)).map bV := by
  rw [← List.map_set, show 32 - i = (31 - i) + 1 from by omega, set_rep, show 32 - (i + 1) = 31 - i from by omega]
  rfl
set_option maxRecDepth 10000 in
theorem P_word_Fixed {l : List Nat} (hl : WOk l) : Pure Tryz.prog 68 [wV l].toArray (.string (bs (beD l 32))) := by
  refine pure_of_HC Tryz.func68 rfl rfl fun w => ?_; refine HC_seq fun K1 hK1 => HC_region ?_; refine HL_box (cs := (l.map uV).toArray) rfl rfl rfl rfl fun r1 => ?_; refine HLm rfl ?_; refine HL_nil (hK1 _ _ _ _ ?_); refine HC_seq fun K2 hK2 => HC_region ?_; refine HL_make (n := 32) (b := 1) rfl rfl rfl rfl rfl rfl rfl rfl rfl (by decide) (by decide) fun r2 => ?_; refine HLm rfl ?_; refine HL_nil (hK2 _ _ _ _ ?_); refine HC_seq fun K3 hK3 => ?_; refine HC_seq fun K4 hK4 => HC_region ?_; refine HLm rfl ?_; refine HL_nil (hK4 _ _ _ _ ?_); refine HC_block (HC_loop (σ := Nat) (fun i => i ≤ 32) (fun i => [(1, .pointer (some ⟨r1, 0, none⟩)), (3, .slice (some ⟨r2, 0, none⟩) 32 32), (6, .int .i64 (i : Int))]) (fun i => [(r2, .cells ((List.replicate (32 - i) (0 : UInt8) ++ beD l i).map bV).toArray 5 (0, 0)), (r1, .cells (l.map uV).toArray 27 (0, 0))]) (fun _ _ _ => True) (fun i => 32 - i) 0 (Nat.zero_le _) (.cons rfl (.cons rfl (.cons rfl .nil))) (List.Sublist.refl _) (fun _ _ h => h) ?_); intro i hi; refine HC_seq fun K5 hK5 => HC_region ?_; refine HLp rfl ?_; refine HL_nil (hK5 _ _ _ _ ?_); refine HC_seq fun K6 hK6 => ?_; refine HC_cond rfl (fun h7 => ?_) (fun h7 => ?_)
  · try exact Bool.noConfusion h7
    try simp only [ZZ] at h7
    refine HC_skip (hK6 _ _ _ _ ?_); refine HC_seq fun K8 hK8 => HC_block ?_; refine HC_seq fun K9 hK9 => HC_region ?_; refine HLm rfl (HLm rfl ?_); refine HL_nil (hK9 _ _ _ _ ?_); refine HC_region (HLm rfl ?_); refine HLm rfl (HLp rfl (HL_wrap_i64 (by omega) (by omega) ?_)); refine HLm rfl (HLp rfl (HL_quo (by omega) (by omega) (by omega) ?_)); refine HL_r rfl rfl rfl rfl (R_indexA (j := i / 8) (m := 1) (off' := i / 8) rfl rfl rfl rfl (by omega) (by omega) (by omega)) ?_; refine HL_r rfl rfl rfl rfl (R_loadAt rfl (known_L (k := 1) rfl) rfl (mapU_get (by rw [hl.1]; omega))) ?_; refine HLm rfl (HLp rfl (HL_rem (by omega) ?_)); refine HLp rfl (HL_wrap_i64 (by omega) (by omega) (HL_r rfl rfl rfl rfl (R_shr (n := i % 8 * 8) rfl rfl (by omega) (show _ ≤ 64 from by omega) (by omega) (shr_nat _ _)) ?_)); refine HLp rfl (HL_as (show _ = bV (UInt8.ofNat (dg l i)) from byte_mod _) (HL_r rfl rfl rfl rfl (R_indexS (j := 31 - i) (m := 1) (off' := 31 - i) rfl rfl rfl rfl (by omega) (by omega) (by omega)) ?_)); refine HL_storeAt (k := 0) (off := 31 - i) (xs := (List.replicate (32 - i) (0 : UInt8) ++ beD l i).map bV) (ys := (List.replicate (32 - (i + 1)) 0 ++ beD l (i + 1)).map bV) rfl rfl rfl rfl rfl rfl (by simp [beD_len]; omega) (fix_step (by omega)) rfl ?_; refine HL_nil ?_; refine HQ_blockN (hK8 _ _ _ _ ?_); refine HC_region (HLp rfl (HL_wrap_i64 (by omega) (by omega) ?_)); refine HLm rfl (HL_nil (HQ_then ?_)); exact HQ_again (i + 1) (by omega) (by omega) (.cons rfl (.cons rfl (.cons rfl .nil))) (List.Sublist.refl _) (fun _ _ h => h)
  · try exact Bool.noConfusion h7
    try simp only [ZZ] at h7
    refine HC_exit (HQ_thenE ?_); refine HQ_thenE (HQ_blockE (hK3 _ _ _ _ ?_))
    have hi32 : i = 32 := by omega
    subst hi32; refine HC_seq fun K10 hK10 => HC_region ?_; refine HLm rfl ?_; refine HL_r rfl rfl rfl rfl (R_bytesStr (b := beD l 32) (row := some (r2, 32, [])) (e := 5) rfl ⟨rfl, rfl⟩ (fun p hp => .inl (by rw [List.mem_singleton.1 hp]; exact List.mem_cons_self)) rfl rfl rfl) ?_; refine HLm rfl ?_; refine HL_nil (hK10 _ _ _ _ ?_); refine HC_ret ?_; refine HQ_post rfl rfl (.cons (res_tmp rfl) .nil) (fun w1 hs1 => ?_); exact ⟨rfl, hs1.keep⟩
end Go.Proofs.YtlcbfphioeppaaaGreatDoor
namespace Go.Proofs.YtlcbfphioeppaaaGreatDoor
set_option linter.all false
open Go.SL Go.RowKit Go.Shelf
set_option maxRecDepth 10000 in
theorem P_ref_Unfixed (s : List UInt8) : Pure Tryz.prog 135 [.string (bs s)].toArray (resW (unfR s)) := by
  refine pure_of_HC Tryz.func135 rfl rfl fun w => ?_; refine HC_seq fun K1 hK1 => HC_region ?_; refine HL_alloc (cs := #[_, _, _, _]) rfl rfl rfl rfl fun r1 => ?_; refine HLm rfl ?_; refine HL_nil (hK1 _ _ _ _ ?_); refine HC_seq fun K2 hK2 => ?_; refine HC_seq fun K3 hK3 => HC_region ?_; refine HLm rfl (HL_r rfl rfl rfl rfl (R_lenBs rfl rfl) (HLp rfl ?_)); refine HL_nil (hK3 _ _ _ _ ?_); refine HC_cond rfl (fun h4 => ?_) (fun h4 => ?_)
  · try exact Bool.noConfusion h4
    try simp only [ZZ] at h4
    refine HC_seq fun K5 hK5 => HC_region ?_; refine HL_r rfl rfl rfl rfl (R_build (r := [_, _, _, _]) rfl rfl) ?_
    refine HL_storeA (k := 0) (n := 4) (cs' := #[_, _, _, _]) (vs := #[_, _, _, _]) rfl rfl rfl rfl rfl rfl rfl (by exact Nat.le_of_ble_eq_true rfl) rfl (by first | (simp only [List.set_cons_zero, List.set_cons_succ]; exact rfl) | exact rfl) ?_; refine HLm rfl ?_; refine HL_nil (hK5 _ _ _ _ ?_); refine HC_ret (HQ_thenR ?_); refine HQ_post rfl rfl (.cons (res_cellA (vs := [_, _, _, _]) rfl (known_L (k := 0) rfl) rfl rfl) (.cons (res_tmp rfl) .nil)) (fun w1 hs1 => ?_); refine ⟨?_, hs1.keep⟩; rw [show unfR s = (zW, 2) from by unfold unfR; rw [if_neg (by omega)]]; rfl
  · try exact Bool.noConfusion h4
    try simp only [ZZ] at h4
    refine HC_skip (hK2 _ _ _ _ ?_); refine HC_seq fun K6 hK6 => HC_region ?_; refine HLm rfl ?_; refine HL_nil (hK6 _ _ _ _ ?_); refine HC_seq fun K7 hK7 => ?_; refine HC_seq fun K8 hK8 => HC_region ?_; refine HLm rfl ?_; refine HL_nil (hK8 _ _ _ _ ?_); refine HC_block (HC_loop (σ := Nat × List Value × Row) (fun q => q.1 ≤ 32 ∧ q.2.1 = (nsOf s q.1).map iV ∧ rowOk 1 q.1 q.2.1 q.2.2) (fun q => [(0, .string (bs s)), (2, .pointer (some ⟨r1, 0, none⟩)), (4, rowV q.1 q.2.2), (5, .int .i64 (31 - (q.1 : Int)))]) (fun q => (r1, .cells (zW.map uV).toArray 27 (0, 0)) :: rowL 3 q.2.1 q.2.2) (fun _ _ _ => True) (fun q => 32 - q.1) (0, [], none) ⟨by decide, rfl, ⟨rfl, rfl⟩⟩ (.cons rfl (.cons rfl (.cons rfl (.cons rfl .nil)))) (List.Sublist.refl _) (fun _ _ h => h) ?_); rintro ⟨m, xs, row⟩ ⟨hm, hxs, hrow⟩; simp only at hm hxs hrow ⊢; refine HC_seq fun K9 hK9 => ?_; refine HC_seq fun K10 hK10 => HC_region ?_; refine HLm rfl (HLp rfl ?_); refine HL_nil (hK10 _ _ _ _ ?_); refine HC_cond rfl (fun h11 => ?_) (fun h11 => ?_)
    · try exact Bool.noConfusion h11
      try simp only [ZZ] at h11
      refine HC_skip (hK9 _ _ _ _ ?_); refine HC_seq fun K12 hK12 => HC_block ?_; refine HC_region (HLm rfl ?_); refine HLm rfl (HLm rfl (HL_as (show _ = Value.int .i64 ((31 - m : Nat) : Int) from congrArg (Value.int .i64) (by omega)) ?_)); refine HL_r rfl rfl rfl rfl (R_indexBs (j := 31 - m) rfl rfl rfl rfl (by omega) rfl) ?_; refine HLp rfl ?_; refine HL_as (show _ = Value.int .i64 ((s.getD (31 - m) 0).toNat : Nat) from congrArg (Value.int .i64) (wrap_i64 (by omega) (by have := u8_lt (s.getD (31 - m) 0); omega))) ?_; refine HL_buildSlice (vs := [_]) (zs := [_]) (r := [_]) rfl rfl rfl rfl rfl rfl rfl rfl rfl (by show (madeCells #[_] _).toList = _; rw [made_one]; exact rfl) rfl fun r2 => ?_; refine HL_appendRow (L0 := [_, _]) (xs := xs) (row := row) (n := m) (sz := 1) (b := 8) (news := [_]) (List.perm_append_comm (l₁ := [_, _])) rfl rfl rfl rfl (known_L (k := 0) rfl) rfl rfl rfl rfl rfl (by decide) rfl rfl rfl (by decide) hrow (by omega) (by omega) fun ra cap sp hra => ?_; refine HLm rfl (HL_nil ?_); refine HQ_blockN (hK12 _ _ _ _ ?_); refine HC_region (HLm rfl ?_); refine HLp rfl (HL_wrap_i64 (by omega) (by omega) ?_); refine HLm rfl (HL_nil (HQ_then ?_)); refine HQ_sel [2, 0] (L' := [_, _]) (by decide) rfl ?_; exact HQ_again (m + 1, xs ++ [Value.int .i64 ((s.getD (31 - m) 0).toNat : Nat)], some (ra, cap, sp)) ⟨by simp only; omega, by simp only; rw [nsOf_succ, hxs], hra⟩ (by simp only; omega) (.cons rfl (.cons rfl (.cons rfl (.cons (congrArg (fun z => some (Value.int .i64 z)) (by simp only; omega)) .nil)))) (List.Sublist.refl _) (fun _ _ h => h)
    · try exact Bool.noConfusion h11
      try simp only [ZZ] at h11
      refine HC_exit (HQ_thenE ?_); refine HQ_thenE (HQ_blockE (hK7 _ _ _ _ ?_)); refine HC_seq fun K13 hK13 => ?_
      have hm32 : m = 32 := by omega
      subst hm32; subst hxs; refine HC_region (HLm rfl (HL_callR rfl rfl rfl (enters_of Tryz.func197 (by kernel_rfl) rfl) (R_of (ns := nsOf s 32) (nsOf_lt s) rfl hrow) (fun p hp => .inl (List.mem_cons_of_mem _ hp)) ?_)); refine HL_as (congrArg wV (nsOf_unf s)) ?_; refine HL_storeArr (k := 0) (n := 4) (ys := (unfW s).map uV) rfl rfl rfl rfl rfl rfl rfl rfl rfl ?_; refine HLm rfl ?_; refine HL_nil (hK13 _ _ _ _ ?_); refine HC_ret ?_; refine HQ_post rfl rfl (.cons (res_cellA (vs := [_, _, _, _]) rfl (known_L (k := 0) rfl) rfl rfl) (.cons (res_tmp rfl) .nil)) (fun w1 hs1 => ?_); refine ⟨?_, hs1.keep⟩; rw [show unfR s = (unfW s, 0) from by unfold unfR; rw [if_pos (by omega)]]; rfl
set_option maxRecDepth 10000 in
theorem P_word_Unfixed (s : List UInt8) : Pure Tryz.prog 130 [.string (bs s)].toArray (resW (unfR s)) := by
  refine pure_of_HC Tryz.func130 rfl rfl fun w => ?_
  obtain ⟨f, hf⟩ : ∃ f : Nat → Nat, f = fun t => (s.getD (31 - t) 0).toNat := ⟨_, rfl⟩
  have hfl : ∀ i, f i < 256 := fun i => by rw [hf]; exact u8_lt _
  have hfu : stW f 32 = unfW s := by rw [hf]; rfl
  refine HC_seq fun K1 hK1 => HC_region ?_; refine HL_alloc (cs := #[_, _, _, _]) rfl rfl rfl rfl fun r1 => ?_; refine HLm rfl ?_; refine HL_nil (hK1 _ _ _ _ ?_); refine HC_seq fun K2 hK2 => ?_; refine HC_seq fun K3 hK3 => HC_region ?_; refine HLm rfl (HL_r rfl rfl rfl rfl (R_lenBs rfl rfl) (HLp rfl ?_)); refine HL_nil (hK3 _ _ _ _ ?_); refine HC_cond rfl (fun h4 => ?_) (fun h4 => ?_)
  · try exact Bool.noConfusion h4
    try simp only [ZZ] at h4
    refine HC_seq fun K5 hK5 => HC_region ?_; refine HL_r rfl rfl rfl rfl (R_build (r := [_, _, _, _]) rfl rfl) ?_
    refine HL_storeA (k := 0) (n := 4) (cs' := #[_, _, _, _]) (vs := #[_, _, _, _]) rfl rfl rfl rfl rfl rfl rfl (by exact Nat.le_of_ble_eq_true rfl) rfl (by first | (simp only [List.set_cons_zero, List.set_cons_succ]; exact rfl) | exact rfl) ?_; refine HLm rfl ?_; refine HL_nil (hK5 _ _ _ _ ?_); refine HC_ret (HQ_thenR ?_); refine HQ_post rfl rfl (.cons (res_cellA (vs := [_, _, _, _]) rfl (known_L (k := 0) rfl) rfl rfl) (.cons (res_tmp rfl) .nil)) (fun w1 hs1 => ?_); refine ⟨?_, hs1.keep⟩; rw [show unfR s = (zW, 2) from by unfold unfR; rw [if_neg (by omega)]]; rfl
  · try exact Bool.noConfusion h4
    try simp only [ZZ] at h4
    refine HC_skip (hK2 _ _ _ _ ?_); refine HC_seq fun K6 hK6 => HC_region ?_; refine HL_alloc (cs := #[_, _, _, _]) rfl rfl rfl rfl fun r2 => ?_; refine HL_nil (hK6 _ _ _ _ ?_); refine HC_seq fun K7 hK7 => ?_; refine HC_seq fun K8 hK8 => HC_region ?_; refine HLm rfl ?_; refine HL_nil (hK8 _ _ _ _ ?_); refine HC_block (HC_loop (σ := Nat) (fun i => i ≤ 32) (fun i => [(0, .string (bs s)), (2, .pointer (some ⟨r1, 0, none⟩)), (4, .pointer (some ⟨r2, 0, none⟩)), (10, .int .i64 (i : Int))]) (fun i => [(r2, .cells ((stW f i).map uV).toArray 27 (0, 0)), (r1, .cells (zW.map uV).toArray 27 (0, 0))]) (fun _ _ _ => True) (fun i => 32 - i) 0 (Nat.zero_le _) (.cons rfl (.cons rfl (.cons rfl (.cons rfl .nil)))) (List.Sublist.refl _) (fun _ _ h => h) ?_); intro i hi; refine HC_seq fun K9 hK9 => HC_region ?_; refine HLp rfl ?_; refine HL_nil (hK9 _ _ _ _ ?_); refine HC_seq fun K10 hK10 => ?_; refine HC_cond rfl (fun h11 => ?_) (fun h11 => ?_)
    · try exact Bool.noConfusion h11
      try simp only [ZZ] at h11
      refine HC_skip (hK10 _ _ _ _ ?_); refine HC_seq fun K12 hK12 => HC_block ?_; refine HC_seq fun K13 hK13 => HC_region ?_; refine HLm rfl (HLm rfl ?_); refine HL_nil (hK13 _ _ _ _ ?_); refine HC_draw 15 (by kernel_rfl) (by kernel_rfl) ?_; refine HD_r rfl rfl rfl (R_move rfl) ?_; refine HD_r rfl rfl rfl (R_pure rfl rfl rfl) ?_; refine HD_quo (by omega) (by omega) (by omega) ?_; refine HD_r rfl rfl rfl (R_indexA (j := i / 8) (m := 1) (off' := i / 8) rfl rfl rfl rfl (by omega) (by omega) (by omega)) ?_; refine HD_r rfl rfl rfl (R_loadAt rfl (known_L (k := 0) rfl) rfl (mapU_get (by rw [stW_len]; omega))) ?_; refine HD_r rfl rfl rfl (R_move rfl) ?_; refine HD_r rfl rfl rfl (R_move rfl) ?_; refine HD_r rfl rfl rfl (R_pure rfl rfl rfl) ?_; refine HD_wrap_i64 (by omega) (by omega) ?_; refine HD_r rfl rfl rfl (R_indexBs (j := 31 - i) rfl rfl rfl (by omega) (by omega) rfl) ?_; refine HD_r rfl rfl rfl (R_pure rfl rfl rfl) ?_; refine HD_as (show _ = Value.int .u64 ((f i : Nat) : Int) from by rw [hf]; exact congrArg (Value.int .u64) (wrap_u64 (by omega) (by have := u8_lt (s.getD (31 - i) 0); omega))) ?_; refine HD_r rfl rfl rfl (R_move rfl) ?_; refine HD_r rfl rfl rfl (R_pure rfl rfl rfl) ?_; refine HD_rem (by omega) ?_; refine HD_r rfl rfl rfl (R_pure rfl rfl rfl) ?_; refine HD_wrap_i64 (by omega) (by omega) ?_; refine HD_r rfl rfl rfl (R_shl (n := i % 8 * 8) rfl rfl (by omega) (show _ ≤ 64 from by omega) (shl_u64 (sh_lt (hfl i) (by omega)))) ?_; refine HD_r rfl rfl rfl (R_bits64 (op := .or) (b := (((stW f i).getD (i / 8) 0 + f i * 2 ^ (i % 8 * 8) : Nat) : Int)) rfl rfl rfl ((stW_ok hfl i).get _) (sh_lt (hfl i) (by omega)) (congrArg (fun z : Nat => (z : Int)) (by rw [stW_get f (by omega)]; exact or_add (pw_lt hfl _ _)))) ?_; refine HD_r rfl rfl rfl (R_indexA (j := i / 8) (m := 1) (off' := i / 8) rfl rfl rfl rfl (by omega) (by omega) (by omega)) ?_; refine HD_end ?_; refine HL_storeAt (k := 0) (off := i / 8) (xs := (stW f i).map uV) (ys := (stW f (i + 1)).map uV) rfl rfl rfl rfl rfl rfl (by simp [stW_len]; omega) (set_mapU (stW_step f (by omega))) rfl ?_; refine HL_nil ?_; refine HQ_blockN (hK12 _ _ _ _ ?_); refine HC_region (HLp rfl (HL_wrap_i64 (by omega) (by omega) ?_)); refine HLm rfl (HL_nil (HQ_then ?_)); exact HQ_again (i + 1) (by omega) (by omega) (.cons rfl (.cons rfl (.cons rfl (.cons rfl .nil)))) (List.Sublist.refl _) (fun _ _ h => h)
    · try exact Bool.noConfusion h11
      try simp only [ZZ] at h11
      refine HC_exit (HQ_thenE ?_); refine HQ_thenE (HQ_blockE (hK7 _ _ _ _ ?_)); refine HC_seq fun K14 hK14 => ?_
      have hi32 : i = 32 := by omega
      subst hi32; refine HC_region (HL_r rfl rfl rfl rfl (R_loadArr (xs := (stW f 32).map uV) rfl (known_L (k := 0) rfl) rfl rfl rfl) (HL_storeArr (k := 1) (n := 4) (ys := (stW f 32).map uV) rfl rfl rfl rfl rfl rfl rfl rfl rfl ?_)); refine HLm rfl ?_; refine HL_nil (hK14 _ _ _ _ ?_); refine HC_ret ?_; refine HQ_post rfl rfl (.cons (res_cellA (vs := [_, _, _, _]) rfl (known_L (k := 1) rfl) rfl rfl) (.cons (res_tmp rfl) .nil)) (fun w1 hs1 => ?_); refine ⟨?_, hs1.keep⟩; rw [show unfR s = (unfW s, 0) from by unfold unfR; rw [if_pos (by omega)], ← hfu]; rfl
end Go.Proofs.YtlcbfphioeppaaaGreatDoor
namespace Go.Proofs.YtlcbfphioeppaaaGreatDoor
set_option linter.all false
open Go.SL Go.RowKit Go.Shelf
set_option maxRecDepth 10000 in
theorem E_pairs {a b : List Nat} (ha : a.length = 4) (hb : b.length = 4) : PureE (α := Nat × Nat) Tryz.prog 230 [wV a, wV b].toArray (fun p => .func (.func 233) #[] #[.pointer (some ⟨p.1, 0, none⟩), .pointer (some ⟨p.2, 0, none⟩)])
    (fun p => [(p.2, .cells (b.map uV).toArray 27 (0, 0)), (p.1, .cells (a.map uV).toArray 27 (0, 0))]) := by
  refine pureE_of_HC Tryz.func230 rfl rfl fun w => ?_; refine HC_seq fun K1 hK1 => HC_region ?_; refine HL_box (cs := (a.map uV).toArray) rfl rfl rfl rfl fun r1 => ?_; refine HL_box (cs := (b.map uV).toArray) rfl rfl rfl rfl fun r2 => ?_; refine HLm rfl ?_; refine HL_nil (hK1 _ _ _ _ ?_); refine HC_seq fun K2 hK2 => HC_region ?_; refine HL_r rfl rfl rfl rfl (R_makeFunc rfl rfl) ?_; refine HLm rfl ?_; refine HL_nil (hK2 _ _ _ _ ?_); refine HC_ret ?_; refine HQ_post rfl rfl (.cons (res_tmp rfl) .nil) (fun w1 hs1 => ?_); exact ⟨(r1, r2), rfl, hs1⟩
def pairAt (a b : List Nat) (i : Nat) : List Value := [.int .i64 (i : Int), .agg [.int .u64 ((a.getD i 0 : Nat) : Int), .int .u64 ((b.getD i 0 : Nat) : Int)].toArray]
set_option maxRecDepth 10000 in
theorem I_pairs {a b : List Nat} (ha : a.length = 4) (hb : b.length = 4) (p1 p2 : Nat) : Iter Tryz.prog 233 [.pointer (some ⟨p1, 0, none⟩), .pointer (some ⟨p2, 0, none⟩)]
    [(p2, .cells (b.map uV).toArray 27 (0, 0)), (p1, .cells (a.map uV).toArray 27 (0, 0))] 0 (nxN (pairAt a b) 4) (finN 4) := by
  refine iter_of_HC Tryz.func233 rfl rfl fun q xids w2 XI XF hY => ?_; refine HC_seq fun K1 hK1 => HC_region ?_; refine HLm rfl ?_; refine HL_nil (hK1 _ _ _ _ ?_); refine HC_block (HC_loop (σ := Nat) (fun i => i ≤ 4) (fun i => [(0, .func (.yield q) #[] #[]), (1, .pointer (some ⟨p1, 0, none⟩)), (2, .pointer (some ⟨p2, 0, none⟩)), (5, .int .i64 (i : Int))]) (fun _ => []) (fun i => XI i) (fun i => 4 - i) 0 (Nat.zero_le _) (.cons rfl (.cons rfl (.cons rfl (.cons rfl .nil)))) (List.nil_sublist _) (fun _ _ h => h) ?_); intro i hi; refine HC_seq fun K2 hK2 => HC_region ?_; refine HLp rfl ?_; refine HL_nil (hK2 _ _ _ _ ?_); refine HC_seq fun K3 hK3 => ?_; refine HC_cond rfl (fun h4 => ?_) (fun h4 => ?_)
  · try exact Bool.noConfusion h4
    try simp only [ZZ] at h4
    refine HC_skip (hK3 _ _ _ _ ?_); refine HC_seq fun K5 hK5 => HC_block ?_; refine HC_seq fun K6 hK6 => HC_region ?_; refine HLm rfl (HLm rfl ?_); refine HL_nil (hK6 _ _ _ _ ?_); refine HC_seq fun K7 hK7 => ?_; refine HC_draw 9 (by kernel_rfl) (by kernel_rfl) ?_; refine HD_r rfl rfl rfl (R_move rfl) ?_; refine HD_r rfl rfl rfl (R_move rfl) ?_; refine HD_r rfl rfl rfl (R_move rfl) ?_; refine HD_r rfl rfl rfl (R_indexA (j := i) (m := 1) (off' := i) rfl rfl rfl rfl rfl (by omega) (by omega)) ?_; refine HD_r rfl rfl rfl (R_loadAt rfl (known_R (k := 1) rfl) rfl (mapU_get (by omega))) ?_; refine HD_r rfl rfl rfl (R_move rfl) ?_; refine HD_r rfl rfl rfl (R_indexA (j := i) (m := 1) (off' := i) rfl rfl rfl rfl rfl (by omega) (by omega)) ?_; refine HD_r rfl rfl rfl (R_loadAt rfl (known_R (k := 0) rfl) rfl (mapU_get (by omega))) ?_; refine HD_r rfl rfl rfl (R_build (r := [_, _]) rfl rfl) ?_; refine HD_end ?_; refine HL_yield (XT := XI (i + 1)) (XF := XF) rfl rfl rfl rfl (hY i (pairAt a b i) (i + 1) ⟨by omega, rfl, rfl⟩) ?_ ?_
    all_goals refine HLp rfl ?_
    all_goals refine HL_nil ?_
    all_goals (
     refine hK7 _ _ _ _ ?_; refine HC_cond rfl (fun h8 => ?_) (fun h8 => ?_)
     · try exact Bool.noConfusion h8
       all_goals try simp only [ZZ] at h8
       all_goals (
        refine HC_ret (HQ_blockR (HQ_thenR ?_)); refine HQ_thenR (HQ_blockR ?_); refine HQ_post rfl rfl .nil (fun w1 hs1 => ?_)
        obtain ⟨xs1, hx1⟩ := hs1.now
        exact ⟨⟨_, rfl⟩, hs1.keep, .inr ⟨_, hx1⟩⟩
        skip)
     · try exact Bool.noConfusion h8
       all_goals try simp only [ZZ] at h8
       all_goals (
        refine HC_skip (HQ_blockN (hK5 _ _ _ _ ?_)); refine HC_region (HLp rfl (HL_wrap_i64 (by omega) (by omega) ?_)); refine HLm rfl (HL_nil (HQ_then ?_)); exact HQ_again (i + 1) (by omega) (by omega) (.cons rfl (.cons rfl (.cons rfl (.cons rfl .nil)))) (List.nil_sublist _) (fun _ _ h => h)
        skip)
     skip)
  · try exact Bool.noConfusion h4
    try simp only [ZZ] at h4
    refine HC_exit (HQ_thenE ?_); refine HQ_thenE (HQ_blockE ?_); refine HQ_postN rfl rfl .nil (fun w1 hs1 => ?_)
    obtain ⟨xs1, hx1⟩ := hs1.now
    exact ⟨⟨_, rfl⟩, hs1.keep, .inl ⟨i, _, (by show i = 4; omega), hx1⟩⟩
set_option maxRecDepth 10000 in
theorem P_carry {g : FuncId} {F G : Nat → Nat → Nat → Nat} (C : Car Tryz.prog g F G) {a b : List Nat} (ha : WOk a) (hb : WOk b) : Pure Tryz.prog 222 [wV a, wV b, .func (.func g) #[] #[]].toArray (resW (crR F G a b)) := by
  refine pure_of_HC Tryz.func222 rfl rfl fun w => ?_; refine HC_seq fun K1 hK1 => HC_region ?_; refine HL_box (cs := (a.map uV).toArray) rfl rfl rfl rfl fun r1 => ?_; refine HL_box (cs := (b.map uV).toArray) rfl rfl rfl rfl fun r2 => ?_; refine HL_box (cs := #[_]) rfl rfl rfl rfl fun r3 => ?_; refine HL_alloc (cs := (zW.map uV).toArray) rfl rfl rfl rfl fun r4 => ?_; refine HLm rfl ?_; refine HL_nil (hK1 _ _ _ _ ?_); refine HC_seq fun K2 hK2 => HC_region ?_; refine HL_alloc (cs := (zW.map uV).toArray) rfl rfl rfl rfl fun r5 => ?_; refine HL_nil (hK2 _ _ _ _ ?_); refine HC_seq fun K3 hK3 => HC_region ?_; refine HL_alloc (cs := #[_]) rfl rfl rfl rfl fun r6 => ?_
  refine HL_store (k := 0) rfl rfl rfl rfl rfl rfl rfl rfl (by first | (simp only [List.setIfInBounds_toArray, List.set_cons_zero, List.set_cons_succ]; exact rfl) | exact rfl) (by first | (simp only [List.set_cons_zero, List.set_cons_succ]; exact rfl) | exact rfl) ?_; refine HL_nil (hK3 _ _ _ _ ?_); refine HC_seq fun K4 hK4 => ?_; refine HC_seq fun K5 hK5 => HC_region ?_; refine HL_r rfl rfl rfl rfl (R_loadArr (xs := a.map uV) (n := 4) rfl (known_L (k := 5) rfl) rfl rfl (by rw [List.length_map, ha.1])) ?_; refine HL_r rfl rfl rfl rfl (R_loadArr (xs := b.map uV) (n := 4) rfl (known_L (k := 4) rfl) rfl rfl (by rw [List.length_map, hb.1])) ?_; refine HL_callPE rfl rfl rfl (enters_of Tryz.func230 (by kernel_rfl) rfl) (E_pairs ha.1 hb.1) fun pp => ?_
  obtain ⟨p1, p2⟩ := pp
  change HL _ _ _ [(p2, _), (p1, _), (r6, _), (r5, _), (r4, _), (r3, _), (r2, _), (r1, _)] _ _ _ _; refine HL_nil (hK5 _ _ _ _ ?_); refine HC_block (HC_sel [3, 2, 0, 1, 4, 5, 6, 7] (by decide) rfl ?_); refine HC_range (τ := Unit) (fun i (s : List Nat × Nat) => s = crS F G a b i ∧ i ≤ 4) (fun s => [(r5, .cells (s.1.map uV).toArray 27 (0, 0)), (r6, .cells #[uV s.2] 25 (0, 0))]) (fun _ _ => False) (fun _ => []) [(p2, _), (p1, _), (r4, _), (r3, _), (r2, _), (r1, _)] (zW, 0) rfl rfl (enters_of Tryz.func233 (by kernel_rfl) rfl) (I_pairs ha.1 hb.1 p1 p2) (by rintro _ _ _ ⟨_, rfl, _⟩; rfl) rfl (by simp) rfl ⟨rfl, by decide⟩ ?_ ?_ ?_
  · rintro q Xr Xb w3 i _ _ s ⟨hi, rfl, rfl⟩ ⟨hs, -⟩ Kr hKr
    have hs4 : s.1.length = 4 := by rw [hs]; exact crS_len F G a b i
    have hs1 : s.2 ≤ 1 := by rw [hs]; exact (crS_ok C ha hb i).2
    refine HC_seq fun K6 hK6 => HC_region ?_; refine HLm rfl ?_; refine HL_nil (hK6 _ _ _ _ ?_); refine HC_region (HL_alloc (cs := #[_, _]) rfl rfl rfl rfl fun r1 => ?_)
    refine HL_storeA (k := 0) (n := 2) (cs' := #[_, _]) (vs := #[_, _]) rfl rfl rfl rfl rfl rfl rfl (by exact Nat.le_of_ble_eq_true rfl) rfl (by first | (simp only [List.set_cons_zero, List.set_cons_succ]; exact rfl) | exact rfl) ?_; refine HL_nil ?_; refine hKr _ _ ?_; clear hKr; refine HC_block (HC_region ?_); refine HLm rfl (HL_r rfl rfl rfl rfl (R_load rfl (known_R (k := 3) rfl) rfl rfl) ?_)
    refine HL_r rfl rfl rfl rfl (R_indexA (j := 0) rfl rfl rfl rfl rfl (by first | decide | omega) (by first | (simp only [Nat.zero_add, Nat.reduceAdd, Nat.reduceMul, Nat.zero_mul, Nat.mul_one, Nat.add_zero]; exact rfl) | exact rfl)) ?_; refine HL_r rfl rfl rfl rfl (R_load rfl (known_L (k := 0) rfl) rfl rfl) ?_
    refine HL_r rfl rfl rfl rfl (R_indexA (j := 1) rfl rfl rfl rfl rfl (by first | decide | omega) (by first | (simp only [Nat.zero_add, Nat.reduceAdd, Nat.reduceMul, Nat.zero_mul, Nat.mul_one, Nat.add_zero]; exact rfl) | exact rfl)) ?_; refine HL_r rfl rfl rfl rfl (R_load rfl (known_L (k := 0) rfl) rfl rfl) ?_; refine HL_r rfl rfl rfl rfl (R_load rfl (known_L (k := 2) rfl) rfl rfl) ?_; refine HL_r rfl rfl rfl rfl (R_callX rfl rfl (fun w => C.run (a.getD i 0) (b.getD i 0) s.2 w hs1)) ?_; refine HLm rfl (HL_r rfl rfl rfl rfl (R_extract rfl rfl) (HL_r rfl rfl rfl rfl (R_extract rfl rfl) ?_)); refine HL_r rfl rfl rfl rfl (R_indexA (j := i) (m := 1) (off' := i) rfl rfl rfl rfl rfl (by omega) (by omega)) ?_; refine HL_storeAt (k := 1) (off := i) (xs := s.1.map uV) (ys := (s.1.set i (F (a.getD i 0) (b.getD i 0) s.2)).map uV) rfl rfl rfl rfl rfl rfl (by rw [List.length_map, hs4]; omega) (set_mapU rfl) rfl ?_
    refine HL_store (k := 2) rfl rfl rfl rfl rfl rfl rfl rfl (by first | (simp only [List.setIfInBounds_toArray, List.set_cons_zero, List.set_cons_succ]; exact rfl) | exact rfl) (by first | (simp only [List.set_cons_zero, List.set_cons_succ]; exact rfl) | exact rfl) ?_; refine HL_nil ?_; refine HQ_blockN (HQ_sel [1, 2] (L' := [_, _]) (by decide) rfl (HQ_round (crS F G a b (i + 1)) ⟨rfl, by omega⟩ ?_)); simp only [crS, ← hs]
  · rintro D i s hfi ⟨hs, -⟩
    have hi4 : i = 4 := hfi
    subst hi4
    have hs4 : s.1.length = 4 := by rw [hs]; exact crS_len F G a b 4
    have hcr : crR F G a b = if s.2 = 0 then (s.1, 0) else (zW, 6) := by rw [hs]; rfl
    refine HQ_blockN (hK4 _ _ _ _ ?_); refine HC_seq fun K7 hK7 => ?_; refine HC_seq fun K8 hK8 => HC_region ?_; refine HL_r rfl rfl rfl rfl (R_load rfl (known_L (k := 2) rfl) rfl rfl) ?_; refine HLp rfl ?_; refine HL_nil (hK8 _ _ _ _ ?_); refine HC_cond rfl (fun h9 => ?_) (fun h9 => ?_)
    · try exact Bool.noConfusion h9
      try simp only [ZZ] at h9
      refine HC_seq fun K10 hK10 => HC_region ?_; refine HL_r rfl rfl rfl rfl (R_build (r := [_, _, _, _]) rfl rfl) ?_
      refine HL_storeA (k := 5) (n := 4) (cs' := #[_, _, _, _]) (vs := #[_, _, _, _]) rfl rfl rfl rfl rfl rfl rfl (by exact Nat.le_of_ble_eq_true rfl) rfl (by first | (simp only [List.set_cons_zero, List.set_cons_succ]; exact rfl) | exact rfl) ?_; refine HLm rfl ?_; refine HL_nil (hK10 _ _ _ _ ?_); refine HC_ret (HQ_thenR ?_); refine HQ_mark (k := 0) rfl rfl ?_
      (refine HQ_post rfl rfl (.cons (res_cellA (vs := [_, _, _, _]) rfl (known_L (k := 5) rfl) rfl rfl) (.cons (res_tmp rfl) .nil)) (fun w1 hs1 => ?_)
       exact ⟨by rw [hcr, if_neg (by omega)]; rfl, hs1.keep⟩)
    · try exact Bool.noConfusion h9
      try simp only [ZZ] at h9
      refine HC_skip (hK7 _ _ _ _ ?_); refine HC_seq fun K11 hK11 => HC_region ?_; refine HL_r rfl rfl rfl rfl (R_loadArr (xs := s.1.map uV) (n := 4) rfl (known_L (k := 1) rfl) rfl rfl (by rw [List.length_map, hs4])) ?_; refine HL_storeArr (k := 5) (n := 4) (ys := s.1.map uV) rfl rfl rfl rfl rfl (by rw [List.length_map, hs4]) rfl (by simp [uV, oneB, List.all_map, List.all_eq_true]) rfl ?_; refine HLm rfl ?_; refine HL_nil (hK11 _ _ _ _ ?_); refine HC_ret (HQ_mark (k := 0) rfl rfl ?_)
      (refine HQ_post rfl rfl (.cons (res_cellA (vs := s.1.map uV) rfl (known_L (k := 5) rfl) rfl (by rw [List.length_map, hs4]; rfl)) (.cons (res_tmp rfl) .nil)) (fun w1 hs1 => ?_)
       exact ⟨by rw [hcr, if_pos (by omega)]; rfl, hs1.keep⟩)
  · exact fun _ _ _ h => h.elim
end Go.Proofs.YtlcbfphioeppaaaGreatDoor
namespace Go.Proofs.YtlcbfphioeppaaaGreatDoor
set_option linter.all false
open Go.SL Go.RowKit Go.Shelf
theorem car_sub : Car Tryz.prog 223 subF subG := by
  refine ⟨fun x y c w hc => ?_, fun x y c => Nat.mod_lt _ (by decide), fun x y c hx hy hc => ?_⟩
  · show (callFunc _ #[.int .u64 (x : Int), .int .u64 (y : Int), .int .u64 (c : Int)]).run _ _ = _
    rw [run_callFunc_extern Tryz.func223 (by kernel_rfl) (by kernel_rfl) (by kernel_rfl) (e := sub64Entry) (by kernel_rfl), run_sub64 x y c hc]
    rfl
  · unfold subG; split <;> omega
set_option maxRecDepth 10000 in
theorem P_word_Sub {a b : List Nat} (ha : WOk a) (hb : WOk b) : Pure Tryz.prog 203 [wV a, wV b].toArray (resW (subR a b)) := by
  refine pure_of_HC Tryz.func203 rfl rfl fun w => ?_; refine HC_seq fun K1 hK1 => HC_region ?_; refine HL_box (cs := (a.map uV).toArray) rfl rfl rfl rfl fun r1 => ?_; refine HL_box (cs := (b.map uV).toArray) rfl rfl rfl rfl fun r2 => ?_; refine HL_alloc (cs := (zW.map uV).toArray) rfl rfl rfl rfl fun r3 => ?_; refine HLm rfl ?_; refine HL_nil (hK1 _ _ _ _ ?_); refine HC_seq fun K2 hK2 => HC_region ?_; refine HL_r rfl rfl rfl rfl (R_loadArr (xs := a.map uV) (n := 4) rfl (known_L (k := 2) rfl) rfl rfl (by rw [List.length_map, ha.1])) ?_; refine HL_r rfl rfl rfl rfl (R_loadArr (xs := b.map uV) (n := 4) rfl (known_L (k := 1) rfl) rfl rfl (by rw [List.length_map, hb.1])) ?_; refine HL_callP rfl rfl rfl (enters_of Tryz.func222 (by kernel_rfl) rfl) (P_carry car_sub ha hb) ?_; refine HL_r rfl rfl rfl rfl (R_extract rfl rfl) ?_; refine HL_r rfl rfl rfl rfl (R_extract rfl rfl) ?_; refine HL_storeArr (k := 0) (n := 4) (ys := (subR a b).1.map uV) rfl rfl rfl rfl rfl (by rw [List.length_map]; exact crR_len) rfl (mapU_one _) rfl ?_; refine HLm rfl ?_; refine HL_nil (hK2 _ _ _ _ ?_); refine HC_ret ?_; refine HQ_post rfl rfl (.cons (res_cellA (vs := (subR a b).1.map uV) rfl (known_L (k := 0) rfl) rfl (by rw [List.length_map, show (subR a b).1.length = 4 from crR_len]; rfl)) (.cons (res_tmp rfl) .nil)) (fun w1 hs1 => ?_); exact ⟨rfl, hs1.keep⟩
end Go.Proofs.YtlcbfphioeppaaaGreatDoor
namespace Go.Proofs.YtlcbfphioeppaaaGreatDoor
set_option linter.all false
open Go.SL Go.RowKit Go.Shelf
set_option maxRecDepth 10000 in
theorem P_word_Less {a b : List Nat} (ha : WOk a) (hb : WOk b) : Pure Tryz.prog 149 [wV a, wV b].toArray (.bool (lessB a b)) := by
  refine pure_of_HC Tryz.func149 rfl rfl fun w => ?_; refine HC_seq fun K1 hK1 => HC_region ?_; refine HL_box (cs := (a.map uV).toArray) rfl rfl rfl rfl fun r1 => ?_; refine HL_box (cs := (b.map uV).toArray) rfl rfl rfl rfl fun r2 => ?_; refine HLm rfl ?_; refine HL_nil (hK1 _ _ _ _ ?_); refine HC_seq fun K2 hK2 => ?_; refine HC_seq fun K3 hK3 => HC_region ?_; refine HL_r rfl rfl rfl rfl (R_loadArr (xs := a.map uV) (n := 4) rfl (known_L (k := 1) rfl) rfl rfl (by rw [List.length_map, ha.1])) ?_; refine HL_r rfl rfl rfl rfl (R_loadArr (xs := b.map uV) (n := 4) rfl (known_L (k := 0) rfl) rfl rfl (by rw [List.length_map, hb.1])) ?_; refine HL_r rfl rfl rfl rfl (R_eqArr (xs := a.map uV) (ys := b.map uV) (n := 4) rfl rfl rfl rfl rfl (by kernel_rfl) (by rw [List.length_map, ha.1]) (by rw [List.length_map, hb.1]) (scal_mapU rfl a) (scal_mapU rfl b)) ?_; refine HL_as (congrArg Value.bool (eq_mapU (ha.1.trans hb.1.symm))) ?_; refine HL_nil (hK3 _ _ _ _ ?_); refine HC_cond rfl (fun h4 => ?_) (fun h4 => ?_)
  · try exact Bool.noConfusion h4
    try simp only [ZZ] at h4
    refine HC_seq fun K5 hK5 => HC_region ?_; refine HLm rfl ?_; refine HL_nil (hK5 _ _ _ _ ?_); refine HC_ret (HQ_thenR ?_); refine HQ_post rfl rfl (.cons (res_tmp rfl) .nil) (fun w1 hs1 => ?_); refine ⟨?_, hs1.keep⟩
    (have hab : a = b := by assumption
     unfold lessB; simp [resVal, hab]; done)
  · try exact Bool.noConfusion h4
    try simp only [ZZ] at h4
    refine HC_skip (hK2 _ _ _ _ ?_); refine HC_seq fun K6 hK6 => HC_region ?_; refine HL_r rfl rfl rfl rfl (R_loadArr (xs := a.map uV) (n := 4) rfl (known_L (k := 1) rfl) rfl rfl (by rw [List.length_map, ha.1])) ?_; refine HL_r rfl rfl rfl rfl (R_loadArr (xs := b.map uV) (n := 4) rfl (known_L (k := 0) rfl) rfl rfl (by rw [List.length_map, hb.1])) ?_; refine HL_callP rfl rfl rfl (enters_of Tryz.func203 (by kernel_rfl) rfl) (P_word_Sub ha hb) ?_; refine HLm rfl (HL_r rfl rfl rfl rfl (R_extract rfl rfl) (HL_r rfl rfl rfl rfl (R_extract rfl rfl) ?_)); refine HL_alloc (cs := (zW.map uV).toArray) rfl rfl rfl rfl fun r3 => ?_; refine HL_storeArr (k := 0) (n := 4) (ys := (subR a b).1.map uV) rfl rfl rfl rfl rfl (by rw [List.length_map]; exact crR_len) rfl (mapU_one _) rfl ?_; refine HLm rfl ?_; refine HL_nil (hK6 _ _ _ _ ?_); refine HC_seq fun K7 hK7 => HC_region ?_; refine HLm rfl (HLp rfl (HLm rfl ?_)); refine HL_nil (hK7 _ _ _ _ ?_); refine HC_ret ?_; refine HQ_post rfl rfl (.cons (res_tmp rfl) .nil) (fun w1 hs1 => ?_); refine ⟨?_, hs1.keep⟩
    (have hab : ¬ a = b := by assumption
     unfold lessB; simp [resVal, hab])
end Go.Proofs.YtlcbfphioeppaaaGreatDoor
namespace Go.Proofs.YtlcbfphioeppaaaGreatDoor
set_option linter.all false
open Go.SL Go.RowKit Go.Shelf
end Go.Proofs.YtlcbfphioeppaaaGreatDoor
namespace Go.Proofs.YtlcbfphioeppaaaGreatDoor
set_option linter.all false
open Go.SL Go.RowKit Go.Shelf
theorem P_TrimLeft0 (s : List UInt8) : Pure Tryz.prog 202 [.string (bs s), .string ⟨#[0]⟩].toArray (.string (bs (Lib.trimLeftB s 0))) := ⟨fun w => by
  have h := Tryz.strings_TrimLeft_one (bs s) 0 (by decide) w
  refine h.mono fun e w' ⟨h1, h2⟩ => ⟨?_, h2 ▸ Keep.refl _ _⟩
  rw [h1]; simp [bs]⟩
theorem P_Repeat0 {n : Nat} (hn : n ≤ 32) : Pure Tryz.prog 102 [.string ⟨#[0]⟩, .int .i64 (n : Int)].toArray (.string (bs (Lib.repeatL [0] n))) := ⟨fun w => by
  have hs : (ByteArray.mk #[0]).size = 1 := rfl
  have h := Tryz.strings_Repeat ⟨#[0]⟩ n w (by omega) (by rw [hs]; omega)
  refine h.mono fun e w' ⟨h1, h2⟩ => ⟨?_, Keep.of_below h2⟩
  rw [h1]; rfl⟩
end Go.Proofs.YtlcbfphioeppaaaGreatDoor
namespace Go.Proofs.YtlcbfphioeppaaaGreatDoor
set_option linter.all false
open Go.SL Go.RowKit Go.Shelf
def bytesW (l : List Nat) : List UInt8 := Lib.trimLeftB (beD l 32) 0
set_option maxRecDepth 10000 in
theorem P_word_Bytes {l : List Nat} (hl : WOk l) : Pure Tryz.prog 144 [wV l].toArray (.string (bs (bytesW l))) := by
  refine pure_of_HC Tryz.func144 rfl rfl fun w => ?_; refine HC_seq fun K1 hK1 => HC_region ?_; refine HL_box (cs := (l.map uV).toArray) rfl rfl rfl rfl fun r1 => ?_; refine HLm rfl ?_; refine HL_nil (hK1 _ _ _ _ ?_); refine HC_seq fun K2 hK2 => HC_region ?_; refine HL_r rfl rfl rfl rfl (R_loadArr (xs := l.map uV) (n := 4) rfl (known_L (k := 0) rfl) rfl rfl (by rw [List.length_map, hl.1])) ?_; refine HL_callP rfl rfl rfl (enters_of Tryz.func68 (by kernel_rfl) rfl) (P_word_Fixed hl) ?_; refine HL_callP rfl rfl rfl (enters_of Tryz.func202 (by kernel_rfl) rfl) (P_TrimLeft0 (beD l 32)) ?_; refine HLm rfl ?_; refine HL_nil (hK2 _ _ _ _ ?_); refine HC_ret ?_; refine HQ_post rfl rfl (.cons (res_tmp rfl) .nil) (fun w1 hs1 => ?_); exact ⟨rfl, hs1.keep⟩
end Go.Proofs.YtlcbfphioeppaaaGreatDoor
namespace Go.Proofs.YtlcbfphioeppaaaGreatDoor
set_option linter.all false
open Go.SL Go.RowKit Go.Shelf
def onlyB (v : Vl) (num bits items pick : Bool) : Bool := (num || decide (v.num = [0, 0, 0, 0])) && (bits || decide (v.bits.length = 0)) && (items || decide (v.items.length = 0)) && (pick || decide (v.pick = 0))
def ofT (k n : Int) (m : Nat) (v : Vl) : Bool :=
  if k = 1 then onlyB v true false false false && decide (((bytesW v.num).length : Int) ≤ n)
  else if k = 2 then onlyB v true false false false && (decide (v.num = [0, 0, 0, 0]) || decide (v.num = [1, 0, 0, 0]))
  else if k = 3 then onlyB v false false true false && decide ((v.items.length : Int) = n)
  else if k = 4 then onlyB v false false true false
  else if k = 5 then onlyB v false true false false && decide ((v.bits.length : Int) = n)
  else if k = 6 then onlyB v false true false false
  else if k = 7 then onlyB v false false true false && decide (v.items.length = m)
  else onlyB v false false true true && decide (v.items.length = 1) && decide (0 ≤ v.pick) && decide (v.pick < m)
instance : Inhabited Ty := ⟨.mk 0 0 none []⟩
def inX (k pick : Int) (i : Nat) : Nat := if k = 7 then i else if k = 8 then pick.toNat else 0
def inTy (k pick : Int) (ins : List Ty) (i : Nat) : Ty := ins.getD (inX k pick i) default
mutual
def fitT : Vl → Ty → Int
  | .mk a b c d bits pb items pi pick, .mk k n p ins => if (k = 4 ∧ n < items.length) ∨ (k = 6 ∧ n < bits.length) then 5 else if ofT k n ins.length (.mk a b c d bits pb items pi pick) = false then 2 else fitL items k pick ins 0
def fitL : List Vl → Int → Int → List Ty → Nat → Int
  | [], _, _, _, _ => 0
  | x :: xs, k, pick, ins, i => if fitT x (inTy k pick ins i) = 0 then fitL xs k pick ins (i + 1) else fitT x (inTy k pick ins i)
end
theorem inX_lt {k n : Int} {p : Pl} {ins : List Ty} {dp : Int} {v : Vl} {i : Nat} (hc : chk (.mk k n p ins) dp = 0) (ho : ofT k n ins.length v = true) (hi : i < v.items.length) : inX k v.pick i < ins.length := by
  obtain ⟨hk, hf, _, _⟩ := chk_mk hc
  unfold ofT onlyB at ho
  unfold okForm at hf
  unfold inX
  have h9 : k = 1 ∨ k = 2 ∨ k = 3 ∨ k = 4 ∨ k = 5 ∨ k = 6 ∨ k = 7 ∨ k = 8 := by omega
  have hl : ¬ v.items = [] := fun h => by rw [h] at hi; simp at hi
  rcases h9 with rfl | rfl | rfl | rfl | rfl | rfl | rfl | rfl
  all_goals simp [hl] at ho hf ⊢
  all_goals omega
theorem inTy_get {k pick : Int} {ins : List Ty} {i : Nat} (h : inX k pick i < ins.length) : ins[inX k pick i]? = some (inTy k pick ins i) ∧ inTy k pick ins i ∈ ins := by
  unfold inTy
  rw [List.getD_eq_getElem?_getD, List.getElem?_eq_getElem h]; exact ⟨rfl, List.getElem_mem h⟩
end Go.Proofs.YtlcbfphioeppaaaGreatDoor
namespace Go.Proofs.YtlcbfphioeppaaaGreatDoor
set_option linter.all false
open Go.SL Go.RowKit Go.Shelf
theorem onlyB_mk (a b c d : Nat) (bits : List Bool) (pb : Pl) (items : List Vl) (pi : Pl) (pick : Int) (h1 h2 h3 h4 : Bool) : onlyB (.mk a b c d bits pb items pi pick) h1 h2 h3 h4 = ((h1 || decide ([a, b, c, d] = [0, 0, 0, 0])) && (h2 || decide (bits.length = 0)) && (h3 || decide (items.length = 0)) && (h4 || decide (pick = 0))) := rfl
theorem ofT_mk (k n : Int) (m a b c d : Nat) (bits : List Bool) (pb : Pl) (items : List Vl) (pi : Pl) (pick : Int) (v : Vl) (hv : v = .mk a b c d bits pb items pi pick) : ofT k n m v =
  if k = 1 then onlyB v true false false false && decide (((bytesW [a, b, c, d]).length : Int) ≤ n)
  else if k = 2 then onlyB v true false false false && (decide ([a, b, c, d] = [0, 0, 0, 0]) || decide ([a, b, c, d] = [1, 0, 0, 0]))
  else if k = 3 then onlyB v false false true false && decide ((items.length : Int) = n)
  else if k = 4 then onlyB v false false true false
  else if k = 5 then onlyB v false true false false && decide ((bits.length : Int) = n)
  else if k = 6 then onlyB v false true false false
  else if k = 7 then onlyB v false false true false && decide (items.length = m)
  else onlyB v false false true true && decide (items.length = 1) && decide (0 ≤ pick) && decide (pick < m) := by subst hv; rfl
set_option maxRecDepth 10000 in
theorem S_ref_In {R : List (Nat × Obj)} {k n : Int} {p : Pl} {ins : List Ty} {v : Vl} {i : Nat} {y : Ty} (ht : Ty.In R (.mk k n p ins)) (hv : v.In R) (hi8 : k = 8 → 0 ≤ v.pick) (hy : ins[inX k v.pick i]? = some y) : PureR Tryz.prog 77 [Ty.val (.mk k n p ins), v.val, .int .i64 (i : Int)].toArray y.val R := by
  cases ht with
  | mk hk hn hlt hst hit =>
  cases hv with
  | @mk a b c d bits pb items pi pick ha hb hc hd hlb hsb hl hs hp hi =>
  have hlt2 := (List.getElem?_eq_some_iff.1 hy).1
  change ins[if k = 7 then i else if k = 8 then pick.toNat else 0]? = some y at hy; change (if k = 7 then i else if k = 8 then pick.toNat else 0) < ins.length at hlt2; change k = 8 → 0 ≤ pick at hi8
  obtain ⟨yk, yn, yp, yi⟩ := y
  refine pureR_of_HC Tryz.func77 rfl rfl fun w => ?_; refine HC_seq fun K1 hK1 => HC_region ?_; refine HL_box (cs := #[_, _, _]) rfl rfl rfl rfl fun r1 => ?_; refine HL_box (cs := #[_, _, _, _, _, _, _]) rfl rfl rfl rfl fun r2 => ?_; refine HL_alloc (cs := #[_, _, _]) rfl rfl rfl rfl fun r3 => ?_; refine HL_nil (hK1 _ _ _ _ ?_); refine HC_seq fun K2 hK2 => ?_; refine HC_seq fun K3 hK3 => HC_region ?_
  refine HL_r rfl rfl rfl rfl (R_fieldAddr rfl rfl (by first | (simp only [Nat.zero_add, Nat.reduceAdd, Nat.reduceMul, Nat.zero_mul, Nat.mul_one, Nat.add_zero]; exact rfl) | exact rfl)) ?_; refine HL_r rfl rfl rfl rfl (R_load rfl (known_L (k := 2) rfl) rfl rfl) ?_; refine HLp rfl ?_; refine HL_nil (hK3 _ _ _ _ ?_); refine HC_cond rfl (fun h4 => ?_) (fun h4 => ?_)
  · try exact Bool.noConfusion h4
    try simp only [ZZ] at h4
    refine HC_seq fun K5 hK5 => ?_; rw [if_pos (by assumption)] at hy hlt2; refine HC_region ?_
    refine HL_r rfl rfl rfl rfl (R_fieldAddr rfl rfl (by first | (simp only [Nat.zero_add, Nat.reduceAdd, Nat.reduceMul, Nat.zero_mul, Nat.mul_one, Nat.add_zero]; exact rfl) | exact rfl)) ?_; refine HL_r rfl rfl rfl rfl (R_load rfl (known_L (k := 2) rfl) rfl rfl) ?_; refine HLm rfl (HL_r rfl rfl rfl rfl (R_indexPl (j := i) rfl hst rfl rfl rfl rfl (by omega)) (HL_r rfl rfl rfl rfl (R_loadTy (fun q hq => Or.inr hq) rfl hst hy rfl rfl) ?_))
    refine HL_storeA (k := 0) (n := 3) (cs' := #[_, _, _]) (vs := #[_, _, _]) rfl rfl rfl rfl rfl rfl rfl (by exact Nat.le_of_ble_eq_true rfl) rfl (by first | (simp only [List.set_cons_zero, List.set_cons_succ]; exact rfl) | exact rfl) ?_; refine HL_nil (hK5 _ _ _ _ ?_); refine HC_ret (HQ_thenR ?_); refine HQ_post rfl rfl (.cons (res_cellA (vs := [_, _, _]) rfl (known_L (k := 0) rfl) rfl rfl) .nil) (fun w1 hs1 => ?_); exact ⟨rfl, hs1.keep⟩
  · try exact Bool.noConfusion h4
    try simp only [ZZ] at h4
    refine HC_skip (hK2 _ _ _ _ ?_); refine HC_seq fun K6 hK6 => ?_; refine HC_seq fun K7 hK7 => HC_region ?_
    refine HL_r rfl rfl rfl rfl (R_fieldAddr rfl rfl (by first | (simp only [Nat.zero_add, Nat.reduceAdd, Nat.reduceMul, Nat.zero_mul, Nat.mul_one, Nat.add_zero]; exact rfl) | exact rfl)) ?_; refine HL_r rfl rfl rfl rfl (R_load rfl (known_L (k := 2) rfl) rfl rfl) ?_; refine HLp rfl ?_; refine HL_nil (hK7 _ _ _ _ ?_); refine HC_cond rfl (fun h8 => ?_) (fun h8 => ?_)
    · try exact Bool.noConfusion h8
      try simp only [ZZ] at h8
      refine HC_seq fun K9 hK9 => ?_; rw [if_neg (by assumption), if_pos (by assumption)] at hy hlt2
      have hi9 := hi8 (by assumption)
      refine HC_region ?_
      refine HL_r rfl rfl rfl rfl (R_fieldAddr rfl rfl (by first | (simp only [Nat.zero_add, Nat.reduceAdd, Nat.reduceMul, Nat.zero_mul, Nat.mul_one, Nat.add_zero]; exact rfl) | exact rfl)) ?_; refine HL_r rfl rfl rfl rfl (R_load rfl (known_L (k := 2) rfl) rfl rfl) ?_
      refine HL_r rfl rfl rfl rfl (R_fieldAddr rfl rfl (by first | (simp only [Nat.zero_add, Nat.reduceAdd, Nat.reduceMul, Nat.zero_mul, Nat.mul_one, Nat.add_zero]; exact rfl) | exact rfl)) ?_; refine HL_r rfl rfl rfl rfl (R_load rfl (known_L (k := 1) rfl) rfl rfl) ?_; refine HL_r rfl rfl rfl rfl (R_indexPl (j := pick.toNat) rfl hst rfl rfl rfl (by omega) (by omega)) ?_; refine HL_r rfl rfl rfl rfl (R_loadTy (fun q hq => Or.inr hq) rfl hst hy rfl rfl) ?_
      refine HL_storeA (k := 0) (n := 3) (cs' := #[_, _, _]) (vs := #[_, _, _]) rfl rfl rfl rfl rfl rfl rfl (by exact Nat.le_of_ble_eq_true rfl) rfl (by first | (simp only [List.set_cons_zero, List.set_cons_succ]; exact rfl) | exact rfl) ?_; refine HL_nil (hK9 _ _ _ _ ?_); refine HC_ret (HQ_thenR ?_); refine HQ_post rfl rfl (.cons (res_cellA (vs := [_, _, _]) rfl (known_L (k := 0) rfl) rfl rfl) .nil) (fun w1 hs1 => ?_); exact ⟨rfl, hs1.keep⟩
    · try exact Bool.noConfusion h8
      try simp only [ZZ] at h8
      refine HC_skip (hK6 _ _ _ _ ?_); refine HC_seq fun K10 hK10 => ?_; rw [if_neg (by assumption), if_neg (by assumption)] at hy hlt2; refine HC_region ?_
      refine HL_r rfl rfl rfl rfl (R_fieldAddr rfl rfl (by first | (simp only [Nat.zero_add, Nat.reduceAdd, Nat.reduceMul, Nat.zero_mul, Nat.mul_one, Nat.add_zero]; exact rfl) | exact rfl)) ?_; refine HL_r rfl rfl rfl rfl (R_load rfl (known_L (k := 2) rfl) rfl rfl) ?_; refine HL_r rfl rfl rfl rfl (R_indexPl (j := 0) rfl hst rfl rfl rfl rfl (by omega)) ?_; refine HL_r rfl rfl rfl rfl (R_loadTy (fun q hq => Or.inr hq) rfl hst hy rfl rfl) ?_
      refine HL_storeA (k := 0) (n := 3) (cs' := #[_, _, _]) (vs := #[_, _, _]) rfl rfl rfl rfl rfl rfl rfl (by exact Nat.le_of_ble_eq_true rfl) rfl (by first | (simp only [List.set_cons_zero, List.set_cons_succ]; exact rfl) | exact rfl) ?_; refine HL_nil (hK10 _ _ _ _ ?_); refine HC_ret ?_; refine HQ_post rfl rfl (.cons (res_cellA (vs := [_, _, _]) rfl (known_L (k := 0) rfl) rfl rfl) .nil) (fun w1 hs1 => ?_); exact ⟨rfl, hs1.keep⟩
theorem ofT_8 {n : Int} {m : Nat} {v : Vl} (h : ofT 8 n m v = true) : 0 ≤ v.pick := by
  unfold ofT at h
  simp at h; omega
def fitsT (t : Ty) (v : Vl) : Int := if chk t 0 = 0 then fitT v t else chk t 0
end Go.Proofs.YtlcbfphioeppaaaGreatDoor
namespace Go.Proofs.YtlcbfphioeppaaaGreatDoor
set_option linter.all false
open Go.SL Go.RowKit Go.Shelf
set_option maxRecDepth 10000 in
theorem P_Same1 (x y : Bool) : Pure Tryz.prog 47 [.bool x, .bool y].toArray (.bool (x == y)) := by
  refine pure_of_HC Tryz.func47 rfl rfl fun w => ?_; refine HC_seq fun K1 hK1 => HC_region ?_; refine HLm rfl ?_; refine HL_nil (hK1 _ _ _ _ ?_); refine HC_seq fun K2 hK2 => HC_region ?_; refine HLm rfl (HLm rfl ?_); refine HLp rfl (HLm rfl ?_); refine HL_nil (hK2 _ _ _ _ ?_); refine HC_ret ?_; refine HQ_post rfl rfl (.cons (res_tmp rfl) .nil) (fun w1 hs1 => ?_); exact ⟨rfl, hs1.keep⟩
def fV (f : FuncId) : Value := .func (.func f) #[] #[]
set_option maxRecDepth 10000 in
theorem S_eqBits {R : List (Nat × Obj)} {bits bits' : List Bool} {p p' : Pl} (hl : bits.length ≤ 9223372036854775807) (hl' : bits'.length ≤ 9223372036854775807) (hs : Seg R bits.length (bitsC bits) p) (hs' : Seg R bits'.length (bitsC bits') p') :
    PureR Tryz.prog 93 [plV bits.length p, plV bits'.length p', fV 47].toArray (.bool (decide (bits = bits'))) R := by
  refine pureR_of_HC Tryz.func93 rfl rfl fun w => ?_; refine HC_seq fun K1 hK1 => HC_region ?_; refine HLm rfl ?_; refine HL_nil (hK1 _ _ _ _ ?_); clear hK1 K1; refine HC_seq fun K2 hK2 => ?_; refine HC_seq fun K3 hK3 => HC_region ?_; refine HLm rfl (HL_r rfl rfl rfl rfl (R_lenPl rfl hs rfl) ?_); refine HLm rfl (HL_r rfl rfl rfl rfl (R_lenPl rfl hs' rfl) (HLp rfl ?_)); refine HL_nil (hK3 _ _ _ _ ?_); clear hK3 K3; refine HC_cond rfl (fun h4 => ?_) (fun h4 => ?_)
  · try exact Bool.noConfusion h4
    try simp only [ZZ] at h4
    refine HC_seq fun K5 hK5 => HC_region ?_; refine HLm rfl ?_; refine HL_nil (hK5 _ _ _ _ ?_); clear hK5 K5; refine HC_ret (HQ_thenR ?_); clear hK2 K2; refine HQ_post rfl rfl (.cons (res_tmp rfl) .nil) (fun w1 hs1 => ?_); refine ⟨?_, hs1.keep⟩
    (have hse : bits ≠ bits' := fun e => by subst e; omega
     simp [resVal, hse]; done)
  · try exact Bool.noConfusion h4
    try simp only [ZZ] at h4
    refine HC_skip (hK2 _ _ _ _ ?_); clear hK2 K2; refine HC_seq fun K6 hK6 => ?_; refine HC_seq fun K7 hK7 => HC_region ?_; refine HLm rfl (HL_r rfl rfl rfl rfl (R_lenPl rfl hs rfl) (HLm rfl ?_)); refine HL_nil (hK7 _ _ _ _ ?_); clear hK7 K7; refine HC_block ?_
    have hlb2 : bits.length = bits'.length := by omega
    refine HC_loop (σ := Nat) (fun i => i ≤ bits.length ∧ ∀ j, j < i → bits[j]? = bits'[j]?) (fun i => [(1, plV bits'.length p'), (2, fV 47), (15, plV bits.length p), (16, .int .i64 (bits.length : Int)), (17, .int .i64 (i : Int))]) (fun _ => []) (fun _ _ _ => True) (fun i => bits.length - i) 0 ⟨by omega, fun j hj => absurd hj (by omega)⟩ (.cons rfl (.cons rfl (.cons rfl (.cons rfl (.cons rfl .nil))))) (List.nil_sublist _) (fun _ _ h => h) ?_; rintro i ⟨hi1, hinv⟩; refine HC_seq fun K8 hK8 => HC_region ?_; refine HLp rfl ?_; refine HL_nil (hK8 _ _ _ _ ?_); clear hK8 K8; refine HC_seq fun K9 hK9 => ?_; refine HC_cond rfl (fun h10 => ?_) (fun h10 => ?_)
    · try exact Bool.noConfusion h10
      try simp only [ZZ] at h10
      refine HC_skip (hK9 _ _ _ _ ?_); clear hK9 K9; refine HC_seq fun K11 hK11 => HC_block ?_; refine HC_seq fun K12 hK12 => ?_
      obtain ⟨x, hx, hmx⟩ := getI (show i < bits.length by omega)
      obtain ⟨y, hy, hmy⟩ := getI (show i < bits'.length by omega)
      refine HC_region (HLm rfl (HL_r rfl rfl rfl rfl (R_indexPl (j := i) rfl hs rfl rfl rfl rfl (by omega)) ?_)); refine HL_r rfl rfl rfl rfl (R_loadBit (fun q hq => Or.inr hq) rfl hs hx rfl) ?_; refine HLm rfl (HLm rfl ?_); refine HL_nil (hK12 _ _ _ _ ?_); clear hK12 K12; refine HC_seq fun K13 hK13 => HC_region ?_; refine HLm rfl (HLm rfl (HL_r rfl rfl rfl rfl (R_indexPl (j := i) rfl hs' rfl rfl rfl rfl (by omega)) ?_)); refine HL_r rfl rfl rfl rfl (R_loadBit (fun q hq => Or.inr hq) rfl hs' hy rfl) ?_; refine HLm rfl ?_; refine HL_nil (hK13 _ _ _ _ ?_); clear hK13 K13; refine HC_seq fun K14 hK14 => HC_region ?_; refine HLm rfl (HLm rfl ?_); refine HLm rfl (HL_callP rfl rfl rfl (enters_of Tryz.func47 (by kernel_rfl) rfl) (P_Same1 x y) (HLp rfl ?_)); refine HL_nil (hK14 _ _ _ _ ?_); clear hK14 K14; refine HC_cond rfl (fun h15 => ?_) (fun h15 => ?_)
      · try exact Bool.noConfusion h15
        try simp only [ZZ] at h15
        refine HC_seq fun K16 hK16 => HC_region ?_; refine HLm rfl ?_; refine HL_nil (hK16 _ _ _ _ ?_); clear hK16 K16; refine HC_ret (HQ_blockR (HQ_thenR ?_)); clear hK11 K11; refine HQ_thenR (HQ_blockR (HQ_thenR ?_)); clear hK6 K6; refine HQ_post rfl rfl (.cons (res_tmp rfl) .nil) (fun w1 hs1 => ?_); refine ⟨?_, hs1.keep⟩
        (have hse : bits ≠ bits' := bits_ne hx hy (by simp_all)
         simp [resVal, hse]; done)
      · try exact Bool.noConfusion h15
        try simp only [ZZ] at h15
        refine HC_skip (HQ_blockN (hK11 _ _ _ _ ?_)); clear hK11 K11; refine HC_region (HLp rfl (HL_wrap_i64 (by omega) (by omega) ?_)); refine HLm rfl (HL_nil (HQ_then ?_))
        exact HQ_again (i + 1) ⟨by omega, fun j hj => by
          rcases Nat.lt_succ_iff_lt_or_eq.1 hj with hj | rfl
          · exact hinv j hj
          · rw [hx, hy]; simp_all⟩ (by omega) (.cons rfl (.cons rfl (.cons rfl (.cons rfl (.cons rfl .nil))))) (List.nil_sublist _) (fun _ _ h => h)
    · try exact Bool.noConfusion h10
      try simp only [ZZ] at h10
      refine HC_exit (HQ_thenE ?_); clear hK9 K9; refine HQ_thenE (HQ_blockE (hK6 _ _ _ _ ?_)); clear hK6 K6; refine HC_seq fun K17 hK17 => HC_region ?_; refine HLm rfl ?_; refine HL_nil (hK17 _ _ _ _ ?_); clear hK17 K17; refine HC_ret ?_; refine HQ_post rfl rfl (.cons (res_tmp rfl) .nil) (fun w1 hs1 => ?_); refine ⟨?_, hs1.keep⟩
      (have hse : bits = bits' := bits_eq hlb2 (by omega) hinv
       simp [resVal, hse]; done)
set_option maxRecDepth 10000 in
theorem S_eqVals {R : List (Nat × Obj)} {items items' : List Vl} {p p' : Pl} {g : FuncId} (eg : Enters Tryz.prog g) (hg : ∀ x ∈ items, ∀ y ∈ items', PureR Tryz.prog g [x.val, y.val].toArray (.bool (sameV x y)) R) (hl : items.length ≤ 9223372036854775807) (hl' : items'.length ≤ 9223372036854775807) (hs : Seg R items.length (vlsC items) p) (hs' : Seg R items'.length (vlsC items') p') :
    PureR Tryz.prog 94 [plV items.length p, plV items'.length p', fV g].toArray (.bool (sameL items items')) R := by
  refine pureR_of_HC Tryz.func94 rfl rfl fun w => ?_; refine HC_seq fun K1 hK1 => HC_region ?_; refine HLm rfl ?_; refine HL_nil (hK1 _ _ _ _ ?_); refine HC_seq fun K2 hK2 => ?_; refine HC_seq fun K3 hK3 => HC_region ?_; refine HLm rfl (HL_r rfl rfl rfl rfl (R_lenPl rfl hs rfl) ?_); refine HLm rfl (HL_r rfl rfl rfl rfl (R_lenPl rfl hs' rfl) (HLp rfl ?_)); refine HL_nil (hK3 _ _ _ _ ?_); refine HC_cond rfl (fun h4 => ?_) (fun h4 => ?_)
  · try exact Bool.noConfusion h4
    try simp only [ZZ] at h4
    refine HC_seq fun K5 hK5 => HC_region ?_; refine HLm rfl ?_; refine HL_nil (hK5 _ _ _ _ ?_); refine HC_ret (HQ_thenR ?_); refine HQ_post rfl rfl (.cons (res_tmp rfl) .nil) (fun w1 hs1 => ?_); refine ⟨?_, hs1.keep⟩
    (have hse : sameL items items' = false := same_ln (by omega)
     simp [resVal, hse]; done)
  · try exact Bool.noConfusion h4
    try simp only [ZZ] at h4
    refine HC_skip (hK2 _ _ _ _ ?_); refine HC_seq fun K6 hK6 => ?_; refine HC_seq fun K7 hK7 => HC_region ?_; refine HLm rfl (HL_r rfl rfl rfl rfl (R_lenPl rfl hs rfl) (HLm rfl ?_)); refine HL_nil (hK7 _ _ _ _ ?_); refine HC_block ?_
    have hl2 : items.length = items'.length := by omega
    refine HC_loop (σ := Nat) (fun i => i ≤ items.length ∧ ∀ q, q < i → ∀ x y, items[q]? = some x → items'[q]? = some y → sameV x y = true) (fun i => [(1, plV items'.length p'), (2, fV g), (15, plV items.length p), (16, .int .i64 (items.length : Int)), (17, .int .i64 (i : Int))]) (fun _ => []) (fun _ _ _ => True) (fun i => items.length - i) 0 ⟨by omega, fun j hj => absurd hj (by omega)⟩ (.cons rfl (.cons rfl (.cons rfl (.cons rfl (.cons rfl .nil))))) (List.nil_sublist _) (fun _ _ h => h) ?_; rintro i ⟨hi1, hinv⟩; refine HC_seq fun K8 hK8 => HC_region ?_; refine HLp rfl ?_; refine HL_nil (hK8 _ _ _ _ ?_); refine HC_seq fun K9 hK9 => ?_; refine HC_cond rfl (fun h10 => ?_) (fun h10 => ?_)
    · try exact Bool.noConfusion h10
      try simp only [ZZ] at h10
      refine HC_skip (hK9 _ _ _ _ ?_); refine HC_seq fun K11 hK11 => HC_block ?_; refine HC_seq fun K12 hK12 => ?_
      obtain ⟨x, hx, hmx⟩ := getI (show i < items.length by omega)
      obtain ⟨y, hy, hmy⟩ := getI (show i < items'.length by omega)
      refine HC_region (HLm rfl (HL_r rfl rfl rfl rfl (R_indexPl (j := i) rfl hs rfl rfl rfl rfl (by omega)) ?_)); refine HL_r rfl rfl rfl rfl (R_loadVl (fun q hq => Or.inr hq) rfl hs hx rfl rfl) ?_; refine HL_alloc (cs := #[_, _, _, _, _, _, _]) rfl rfl rfl rfl fun r1 => ?_; refine HLm rfl (HL_storeArr (k := 0) (n := 7) (ys := x.cells) rfl rfl rfl rfl rfl x.len rfl x.one rfl ?_); refine HL_nil (hK12 _ _ _ _ ?_); refine HC_seq fun K13 hK13 => HC_region ?_; refine HLm rfl (HLm rfl (HL_r rfl rfl rfl rfl (R_indexPl (j := i) rfl hs' rfl rfl rfl rfl (by omega)) ?_)); refine HL_r rfl rfl rfl rfl (R_loadVl (fun q hq => Or.inr hq) rfl hs' hy rfl rfl) ?_; refine HL_alloc (cs := #[_, _, _, _, _, _, _]) rfl rfl rfl rfl fun r2 => ?_; refine HL_storeArr (k := 0) (n := 7) (ys := y.cells) rfl rfl rfl rfl rfl y.len rfl y.one rfl ?_; refine HL_nil (hK13 _ _ _ _ ?_); refine HC_seq fun K14 hK14 => HC_region ?_; refine HLm rfl (HL_r rfl rfl rfl rfl (R_loadArr (xs := x.cells) (n := 7) rfl (known_L (k := 1) rfl) rfl rfl x.len) (HL_r rfl rfl rfl rfl (R_loadArr (xs := y.cells) (n := 7) rfl (known_L (k := 0) rfl) rfl rfl y.len) ?_)); refine HL_callR rfl rfl rfl eg (hg x hmx y hmy) (fun q hq => Or.inr hq) ?_; refine HLp rfl ?_; refine HL_nil (hK14 _ _ _ _ ?_); refine HC_cond rfl (fun h15 => ?_) (fun h15 => ?_)
      · try exact Bool.noConfusion h15
        try simp only [ZZ] at h15
        refine HC_seq fun K16 hK16 => HC_region ?_; refine HLm rfl ?_; refine HL_nil (hK16 _ _ _ _ ?_); refine HC_ret (HQ_blockR (HQ_thenR ?_)); refine HQ_thenR (HQ_blockR (HQ_thenR ?_)); refine HQ_post rfl rfl (.cons (res_tmp rfl) .nil) (fun w1 hs1 => ?_); refine ⟨?_, hs1.keep⟩
        (have hse : sameL items items' = false := same_ne hx hy (by assumption)
         simp [resVal, hse]; done)
      · try exact Bool.noConfusion h15
        try simp only [ZZ] at h15
        refine HC_skip (HQ_blockN (hK11 _ _ _ _ ?_)); refine HC_region (HLp rfl (HL_wrap_i64 (by omega) (by omega) ?_)); refine HLm rfl (HL_nil (HQ_then ?_))
        exact HQ_again (i + 1) ⟨by omega, fun q hq u v hu hv => by
          rcases Nat.lt_succ_iff_lt_or_eq.1 hq with hq | rfl
          · exact hinv q hq u v hu hv
          · rw [hx] at hu; rw [hy] at hv; cases hu; cases hv; assumption⟩ (by omega) (.cons rfl (.cons rfl (.cons rfl (.cons rfl (.cons rfl .nil))))) (List.nil_sublist _) (fun _ _ h => h)
    · try exact Bool.noConfusion h10
      try simp only [ZZ] at h10
      refine HC_exit (HQ_thenE ?_); refine HQ_thenE (HQ_blockE (hK6 _ _ _ _ ?_)); refine HC_seq fun K17 hK17 => HC_region ?_; refine HLm rfl ?_; refine HL_nil (hK17 _ _ _ _ ?_); refine HC_ret ?_; refine HQ_post rfl rfl (.cons (res_tmp rfl) .nil) (fun w1 hs1 => ?_); refine ⟨?_, hs1.keep⟩
      (have hse : sameL items items' = true := sameL_spec.2 ⟨hl2, fun q x y hx hy => hinv q (by have := (List.getElem?_eq_some_iff.1 hx).1; omega) x y hx hy⟩
       simp [resVal, hse]; done)
set_option maxRecDepth 10000 in
theorem S_rowsB {R : List (Nat × Obj)} {v0 v1 v2 v : Value} (h : PureR Tryz.prog 93 [v0, v1, v2].toArray v R) : PureR Tryz.prog 48 [v0, v1, v2].toArray v R := by
  refine pureR_of_HC Tryz.func48 rfl rfl fun w => ?_; refine HC_seq fun K1 hK1 => HC_region ?_; refine HLm rfl ?_; refine HL_nil (hK1 _ _ _ _ ?_); refine HC_seq fun K2 hK2 => HC_region ?_; refine HLm rfl (HLm rfl ?_); refine HLm rfl (HL_callR rfl rfl rfl (enters_of Tryz.func93 (by kernel_rfl) rfl) h (fun q hq => Or.inr hq) (HLm rfl ?_)); refine HL_nil (hK2 _ _ _ _ ?_); refine HC_ret ?_; refine HQ_post rfl rfl (.cons (res_tmp rfl) .nil) (fun w1 hs1 => ?_); exact ⟨rfl, hs1.keep⟩
set_option maxRecDepth 10000 in
theorem S_rowsV {R : List (Nat × Obj)} {v0 v1 v2 v : Value} (h : PureR Tryz.prog 94 [v0, v1, v2].toArray v R) : PureR Tryz.prog 49 [v0, v1, v2].toArray v R := by
  refine pureR_of_HC Tryz.func49 rfl rfl fun w => ?_; refine HC_seq fun K1 hK1 => HC_region ?_; refine HLm rfl ?_; refine HL_nil (hK1 _ _ _ _ ?_); refine HC_seq fun K2 hK2 => HC_region ?_; refine HLm rfl (HLm rfl ?_); refine HLm rfl (HL_callR rfl rfl rfl (enters_of Tryz.func94 (by kernel_rfl) rfl) h (fun q hq => Or.inr hq) (HLm rfl ?_)); refine HL_nil (hK2 _ _ _ _ ?_); refine HC_ret ?_; refine HQ_post rfl rfl (.cons (res_tmp rfl) .nil) (fun w1 hs1 => ?_); exact ⟨rfl, hs1.keep⟩
set_option maxRecDepth 10000 in
theorem S_Same {R : List (Nat × Obj)} {u : Vl} (hu : u.In R) : ∀ v : Vl, v.In R → PureR Tryz.prog 23 [u.val, v.val].toArray (.bool (sameV u v)) R := by
  induction hu with
  | @mk a b c d bits pb items pi pick ha hb hc hd hlb hsb hl hs hp hi ih =>
  intro v hv
  cases hv with
  | @mk a' b' c' d' bits' pb' items' pi' pick' ha' hb' hc' hd' hlb' hsb' hl' hs' hp' hi' =>
  rw [sameV_mk]
  have h1 := S_rowsB (S_eqBits hlb hlb' hsb hsb')
  have h2 := S_rowsV (S_eqVals (enters_of Tryz.func23 (by kernel_rfl) rfl) (fun x hx y hy => ih x hx y (hi' y hy)) hl hl' hs hs')
  refine pureR_of_HC Tryz.func23 rfl rfl fun w => ?_; refine HC_seq fun K1 hK1 => HC_region ?_; refine HL_box (cs := #[_, _, _, _, _, _, _]) rfl rfl rfl rfl fun r1 => ?_; refine HL_box (cs := #[_, _, _, _, _, _, _]) rfl rfl rfl rfl fun r2 => ?_; refine HLm rfl ?_; refine HL_nil (hK1 _ _ _ _ ?_); clear hK1 K1; refine HC_seq fun K2 hK2 => HC_region ?_; refine HLm rfl ?_; refine HL_nil (hK2 _ _ _ _ ?_); clear hK2 K2; refine HC_seq fun K3 hK3 => HC_region ?_
  refine HL_r rfl rfl rfl rfl (R_fieldAddr rfl rfl (by first | (simp only [Nat.zero_add, Nat.reduceAdd, Nat.reduceMul, Nat.zero_mul, Nat.mul_one, Nat.add_zero]; exact rfl) | exact rfl)) ?_; refine HL_r rfl rfl rfl rfl (R_loadA (vs := [_, _, _, _]) rfl (known_L (k := 1) rfl) rfl rfl rfl rfl) ?_
  refine HL_r rfl rfl rfl rfl (R_fieldAddr rfl rfl (by first | (simp only [Nat.zero_add, Nat.reduceAdd, Nat.reduceMul, Nat.zero_mul, Nat.mul_one, Nat.add_zero]; exact rfl) | exact rfl)) ?_; refine HL_r rfl rfl rfl rfl (R_loadA (vs := [_, _, _, _]) rfl (known_L (k := 0) rfl) rfl rfl rfl rfl) ?_; refine HL_r rfl rfl rfl rfl (R_eqArr rfl rfl rfl rfl rfl (by kernel_rfl) rfl rfl rfl rfl) ?_
  first | (refine HL_as (congrArg Value.bool (eq_mapU (a := [a, b, c, d]) (b := [a', b', c', d']) rfl)) ?_) | skip
  refine HLm rfl ?_
  refine HL_case 11 rfl (fun hb4 => ?_) (fun hb4 => ?_) <;> (try simp only [ZZ] at hb4) <;> first | (refine HL_r rfl rfl rfl rfl (R_fieldAddr rfl rfl (by first | (simp only [Nat.zero_add, Nat.reduceAdd, Nat.reduceMul, Nat.zero_mul, Nat.mul_one, Nat.add_zero]; exact rfl) | exact rfl)) ?_) | (refine HL_skip rfl rfl rfl ?_)
  all_goals first
    | (refine HL_r rfl rfl rfl rfl (R_load rfl (known_L (k := 1) rfl) rfl rfl) ?_)
    | (refine HL_skip rfl rfl rfl ?_)
  all_goals first
    | (refine HL_r rfl rfl rfl rfl (R_fieldAddr rfl rfl (by first | (simp only [Nat.zero_add, Nat.reduceAdd, Nat.reduceMul, Nat.zero_mul, Nat.mul_one, Nat.add_zero]; exact rfl) | exact rfl)) ?_)
    | (refine HL_skip rfl rfl rfl ?_)
  all_goals first
    | (refine HL_r rfl rfl rfl rfl (R_load rfl (known_L (k := 0) rfl) rfl rfl) ?_)
    | (refine HL_skip rfl rfl rfl ?_)
  all_goals first
    | (refine HLp rfl ?_)
    | (refine HL_skip rfl rfl rfl ?_)
  all_goals first
    | (refine HL_r rfl rfl rfl rfl (R_pickT rfl rfl) ?_)
    | (refine HL_r rfl rfl rfl rfl (R_pickF rfl rfl) ?_)
  all_goals refine HLm rfl ?_
  all_goals first
    | (refine HL_skip rfl rfl rfl ?_)
    | (refine HL_case 18 rfl (fun hb9 => ?_) (fun hb9 => ?_) <;> (try simp only [ZZ] at hb9) <;> first | (refine HL_r rfl rfl rfl rfl (R_fieldAddr rfl rfl (by first | (simp only [Nat.zero_add, Nat.reduceAdd, Nat.reduceMul, Nat.zero_mul, Nat.mul_one, Nat.add_zero]; exact rfl) | exact rfl)) ?_) | (refine HL_skip rfl rfl rfl ?_))
  all_goals first
    | (refine HL_r rfl rfl rfl rfl (R_load rfl (known_L (k := 1) rfl) rfl rfl) ?_)
    | (refine HL_skip rfl rfl rfl ?_)
  all_goals first
    | (refine HL_r rfl rfl rfl rfl (R_fieldAddr rfl rfl (by first | (simp only [Nat.zero_add, Nat.reduceAdd, Nat.reduceMul, Nat.zero_mul, Nat.mul_one, Nat.add_zero]; exact rfl) | exact rfl)) ?_)
    | (refine HL_skip rfl rfl rfl ?_)
  all_goals first
    | (refine HL_r rfl rfl rfl rfl (R_load rfl (known_L (k := 0) rfl) rfl rfl) ?_)
    | (refine HL_skip rfl rfl rfl ?_)
  all_goals first
    | (refine HLm rfl ?_)
    | (refine HL_skip rfl rfl rfl ?_)
  all_goals first
    | (refine HL_callR rfl rfl rfl (enters_of Tryz.func48 (by kernel_rfl) rfl) h1 (fun q hq => Or.inr hq) ?_)
    | (refine HL_skip rfl rfl rfl ?_)
  all_goals first
    | (refine HL_r rfl rfl rfl rfl (R_pickT rfl rfl) ?_)
    | (refine HL_r rfl rfl rfl rfl (R_pickF rfl rfl) ?_)
  all_goals refine HLm rfl ?_
  all_goals first
    | (refine HL_skip rfl rfl rfl ?_)
    | (refine HL_case 26 rfl (fun hb15 => ?_) (fun hb15 => ?_) <;> (try simp only [ZZ] at hb15) <;> first | (refine HL_r rfl rfl rfl rfl (R_fieldAddr rfl rfl (by first | (simp only [Nat.zero_add, Nat.reduceAdd, Nat.reduceMul, Nat.zero_mul, Nat.mul_one, Nat.add_zero]; exact rfl) | exact rfl)) ?_) | (refine HL_skip rfl rfl rfl ?_))
  all_goals first
    | (refine HL_r rfl rfl rfl rfl (R_load rfl (known_L (k := 1) rfl) rfl rfl) ?_)
    | (refine HL_skip rfl rfl rfl ?_)
  all_goals first
    | (refine HL_r rfl rfl rfl rfl (R_fieldAddr rfl rfl (by first | (simp only [Nat.zero_add, Nat.reduceAdd, Nat.reduceMul, Nat.zero_mul, Nat.mul_one, Nat.add_zero]; exact rfl) | exact rfl)) ?_)
    | (refine HL_skip rfl rfl rfl ?_)
  all_goals first
    | (refine HL_r rfl rfl rfl rfl (R_load rfl (known_L (k := 0) rfl) rfl rfl) ?_)
    | (refine HL_skip rfl rfl rfl ?_)
  all_goals first
    | (refine HL_callR rfl rfl rfl (enters_of Tryz.func49 (by kernel_rfl) rfl) h2 (fun q hq => Or.inr hq) ?_)
    | (refine HL_skip rfl rfl rfl ?_)
  all_goals first
    | (refine HL_r rfl rfl rfl rfl (R_pickT rfl rfl) ?_)
    | (refine HL_r rfl rfl rfl rfl (R_pickF rfl rfl) ?_)
  all_goals refine HLm rfl ?_
  all_goals refine HL_nil ?_
  all_goals (
   refine hK3 _ _ _ _ ?_; clear hK3 K3; refine HC_ret ?_; refine HQ_post rfl rfl (.cons (res_tmp rfl) .nil) (fun w1 hs1 => ?_); refine ⟨?_, hs1.keep⟩
   simp_all [resVal]
   skip)
end Go.Proofs.YtlcbfphioeppaaaGreatDoor
/-! ### Calls that turn a block and read known ones; maps put together in order; keys that are numbers -/
namespace Go.SL
set_option linter.all false
open Go Go.RowKit Go.Shelf
open Go.Proofs (Enters enters_of)
structure PureMR (P : Program) (f : FuncId) (args : Array Value) (v : Value) (r : Nat) (o o' : Obj) (Rl : List (Nat × Obj)) : Prop where
  run : ∀ w, w.heap[r]? = some o → Has Rl w → Calls P f args w fun e w' => e = .returned v ∧ Keep [r] w w' ∧ w'.heap[r]? = some o'
def cxMR (P : Program) (w : World) (r : Nat) (Rl : List (Nat × Obj)) (n : Nat) : Cx := ⟨P, none, w, [r], [], Rl, n⟩
theorem St.startMR {P : Program} {w : World} {r n : Nat} {o : Obj} {Rl : List (Nat × Obj)} (h : w.heap[r]? = some o) (hR : Has Rl w) (hne : ∀ p ∈ Rl, p.1 ≠ r) : St (cxMR P w r Rl n) [(r, o)] (fun _ _ => True) w :=
  ⟨Keep.refl _ _, fun p hp => by rw [List.mem_singleton.1 hp]; exact ⟨.inl List.mem_cons_self, by simp [cxMR], h⟩, List.pairwise_singleton _ _, fun p hp => ⟨by simp [cxMR]; exact hne p hp, by simp [cxMR], hR p hp⟩, by simp [cxMR], ⟨[], by simp, fun _ _ => trivial⟩⟩
theorem pureMR_of_HC {P : Program} {f : FuncId} {fn : Func} {code : Code} {vs : List Value} {v : Value} {r : Nat} {o o' : Obj} {Rl : List (Nat × Obj)} (hne : ∀ p ∈ Rl, p.1 ≠ r) (hf : P.funcs[f]? = some fn) (hb : fn.body = some code) (hlen : Nat.ble vs.length fn.ntmps = true)
    (h : ∀ w, HC (cxMR P w r Rl fn.ntmps) [] (frame0 0 vs) [(r, o)] (fun _ _ => True) code (bodyPostM (FW none) 0 P fn (fun e w' => e = .returned v ∧ ∃ L, (r, o') ∈ L ∧ St (cxMR P w r Rl fn.ntmps) L (fun _ _ => True) w'))) : PureMR P f vs.toArray v r o o' Rl := ⟨fun w hr hR =>
  (calls_of_HC (cxMR P w r Rl fn.ntmps) hf hb rfl rfl rfl hlen (St.startMR hr hR hne) (h w)).mono fun _ _ ⟨he, L, hm, hs⟩ => ⟨he, by have := hs.keep; simpa [cxMR] using this, (hs.own _ hm).2.2⟩⟩
section
variable {c : Cx} {l : List (Nat × Value)} {L : List (Nat × Obj)} {X : XP} {Q : Exit → Act → World → Prop} {d : List Deferred}
variable {ops : Array Oper} {rest : List Oper} {i : Nat} {v : Value} {t : TypeId} {ps : String} {af : Array Edge} {gd : Option (Nat × Bool)} {ty t2 : TypeId}
theorem St.apart {w : World} (hs : St c L X w) {k r : Nat} {o : Obj} (hk : L[k]? = some (r, o)) : ∀ p ∈ c.R, p.1 ≠ r := by
  rintro p hp rfl
  have h1 := (hs.own _ (List.mem_of_getElem? hk)).1
  obtain ⟨h2, _, h3⟩ := hs.ext p hp
  rcases h1 with h1 | h1
  · exact h2 h1
  · have := lt_of_some h3
    exact absurd this (Nat.not_lt.2 h1)
/-- Blocks of R, or of one's own but the one that is turned. -/
theorem HL_callMR {k r : Nat} {o o' : Obj} {L' : List (Nat × Obj)} {Rl : List (Nat × Obj)} {f : Operand} {args : Array Operand} {at_ : Array TypeId} {g : FuncId} {vs : List Value}
    (hg : goes l ops ⟨some i, .call ⟨.value f, args, at_⟩, ty, ps, af, gd⟩ = some true) (hi : Nat.ble (i + 1) c.n = true) (hca : callArgs l f args = some (g, vs)) (eg : Enters c.P g) (hk : L[k]? = some (r, o))
    (hp : (∀ p ∈ Rl, p.1 ≠ r) → PureMR c.P g vs.toArray v r o o' Rl) (hR : ∀ p ∈ Rl, p ∈ c.R) (hL : L.set k (r, o') = L') (h : HL c d ((i, v) :: l) L' X ops rest Q) : HL c d l L X ops (⟨some i, .call ⟨.value f, args, at_⟩, ty, ps, af, gd⟩ :: rest) Q :=
  HL_callE (α := Unit) (V := fun _ => v) (L' := fun _ => L') (X' := fun _ => X) hg hi hca eg (fun w hs => ((hp fun p hq => hs.apart hk p (hR p hq)).run w (hs.get hk) (fun p hq => hs.readR (hR p hq))).mono fun _ _ ⟨he, hkp, ho⟩ => ⟨(), he, hL ▸ hs.set hk hkp ho⟩) (fun _ => h)
theorem HL_makeMap (hg : goes l ops ⟨some i, .makeMap t none, ty, ps, af, gd⟩ = some true) (hi : Nat.ble (i + 1) c.n = true)
    (h : ∀ r, HL c d ((i, .map (some r)) :: l) ((r, .map #[] 0) :: L) X ops rest Q) : HL c d l L X ops (⟨some i, .makeMap t none, ty, ps, af, gd⟩ :: rest) Q :=
  HL_runE (α := Nat) (V := fun r => .map (some r)) (L' := fun r => (r, .map #[] 0) :: L) (X' := fun _ => X) hg rfl rfl hi (fun a w _ hs => ⟨w.heap.size, w.alloc (.map #[] 0), by simp only [execOp, Sem.run_bind, Option.map]; rfl, hs.alloc _⟩) h
theorem HL_insert {m x y : Operand} {kt et r clock q : Nat} {es : Array MapEntry} {key val : Value} {dom : Value → Prop} {eq : Value → Value → Bool} {L' : List (Nat × Obj)} (K : KeyL c.P kt dom eq) (hg : goes l ops ⟨none, .insert t m x y, ty, ps, af, gd⟩ = some true)
    (hm : evl l m = some (.map (some r))) (hx : evl l x = some key) (hy : evl l y = some val) (hq : L[q]? = some (r, .map es clock)) (ht : mapTy c.P t = some (kt, et)) (hk : dom key) (he : ∀ e ∈ es.toList, dom e.key) (hn : mapGet eq key (es.toList.map kvOf) = none)
    (hL : L.set q (r, .map (es.push { key := key, val := val, born := clock }) (clock + 1)) = L') (h : HL c d l L' X ops rest Q) : HL c d l L X ops (⟨none, .insert t m x y, ty, ps, af, gd⟩ :: rest) Q :=
  HL_run0 hg rfl rfl (fun a w hf hs => ⟨_, by
    simp only [execOp, Sem.run_bind]
    rw [hf.eval hm, hf.eval hx, hf.eval hy, run_insert K ht (hs.get hq) hk he hn]; rfl, hL ▸ hs.set hq (Keep.putObj r _) (World.putObj_heap_same (lt_of_some (hs.get hq)))⟩) h
end
/-! ### Keys that are numbers -/
def isI (v : Value) : Prop := ∃ n, v = .int .i64 n
def intEq (x y : Value) : Bool := eqS x y
theorem run_checkKey_i {P : Program} {t : TypeId} (ht : P.underlying t = some (.int .i64)) (b : Bool) (n : Nat) (x : Int) (w : World) : (Instr.checkKey b (n + 1) t (.int .i64 x)).run P w = .ok () w := by
  simp [Instr.checkKey, Sem.run_bind, run_und ht, Result.andThen]
theorem keyI {P : Program} {t : TypeId} (ht : P.underlying t = some (.int .i64)) : KeyL P t isI intEq where
  now := ⟨_, ht, fun a b ⟨a1, ha⟩ ⟨b1, hb⟩ => by subst ha hb; exact .inr (by simp [Instr.sameNow, intEq, eqS])⟩
  equal := by
    rintro _ _ w ⟨a, rfl⟩ ⟨b, rfl⟩
    exact run_eqS (by simp [scalB, ht]) (by simp [scalB, ht]) 9999 w
  check := by
    rintro _ b w ⟨x, rfl⟩
    exact run_checkKey_i ht b 9999 x w
theorem intEq_mk (a b : Int) : intEq (.int .i64 a) (.int .i64 b) = (a == b) := rfl
end Go.SL
namespace Go.Proofs.YtlcbfphioeppaaaGreatDoor
set_option linter.all false
open Go.SL Go.RowKit Go.Shelf
/-! the table of kinds -/
def kfs : List (Nat × Nat × Nat × Bool) := [(139, 142, 145, false), (146, 148, 151, false), (152, 155, 157, false), (159, 160, 0, true),
  (161, 162, 164, false), (165, 166, 0, true), (167, 168, 169, false), (170, 171, 0, true)]
def kAt (k : Int) : Nat × Nat × Nat × Bool := kfs.getD (k - 1).toNat (0, 0, 0, false)
def isK (k : Int) : Bool := decide (1 ≤ k) && decide (k ≤ 8)
def formF (k : Int) : FuncId := (kAt k).1
def ofF (k : Int) : FuncId := (kAt k).2.1
def sizeF (k : Int) : FuncId := (kAt k).2.2.1
def varB (k : Int) : Bool := (kAt k).2.2.2
def fnV (b : Bool) (f : FuncId) : Value := if b then fV f else .nilFunc
def kCells (k : Int) : List Value := [fnV (isK k) (formF k), fnV (isK k) (ofF k), fnV (isK k && !varB k) (sizeF k), .bool (varB k)]
def kEnt (j : Nat) : MapEntry := { key := .int .i64 ((j : Int) + 1), val := .agg (kCells ((j : Int) + 1)).toArray, born := j }
def kMap : Array MapEntry := #[kEnt 0, kEnt 1, kEnt 2, kEnt 3, kEnt 4, kEnt 5, kEnt 6, kEnt 7]
def kObj : Obj := .map kMap 8
theorem kMap_dom : ∀ e ∈ kMap.toList, isI e.key := by
  intro e he; simp only [kMap, List.mem_cons, List.not_mem_nil, or_false] at he
  rcases he with rfl | rfl | rfl | rfl | rfl | rfl | rfl | rfl <;> exact ⟨_, rfl⟩
theorem kMap_get (k : Int) : mapGet intEq (.int .i64 k) (kMap.toList.map kvOf) = if isK k then some (.agg (kCells k).toArray) else none := by
  by_cases h : 1 ≤ k ∧ k ≤ 8
  · have : k = 1 ∨ k = 2 ∨ k = 3 ∨ k = 4 ∨ k = 5 ∨ k = 6 ∨ k = 7 ∨ k = 8 := by omega
    rcases this with rfl | rfl | rfl | rfl | rfl | rfl | rfl | rfl <;> rfl
  · have e : isK k = false := by unfold isK; simp; omega
    rw [e]
    have h1 : k ≠ 1 := by omega
    have h2 : k ≠ 2 := by omega
    have h3 : k ≠ 3 := by omega
    have h4 : k ≠ 4 := by omega
    have h5 : k ≠ 5 := by omega
    have h6 : k ≠ 6 := by omega
    have h7 : k ≠ 7 := by omega
    have h8 : k ≠ 8 := by omega
    simp [kMap, kEnt, kvOf, mapGet, intEq_mk, h1, h2, h3, h4, h5, h6, h7, h8]
theorem kMap_val (k : Int) : (if true = true then Value.tuple #[((mapGet intEq (.int .i64 k) (kMap.toList.map kvOf)).getD (.agg #[.nilFunc, .nilFunc, .nilFunc, .bool false])), .bool (mapGet intEq (.int .i64 k) (kMap.toList.map kvOf)).isSome] else (mapGet intEq (.int .i64 k) (kMap.toList.map kvOf)).getD (.agg #[.nilFunc, .nilFunc, .nilFunc, .bool false])) =
    .tuple #[.agg (kCells k).toArray, .bool (isK k)] := by
  rw [kMap_get, if_pos rfl]
  cases h : isK k with
  | true => rfl
  | false =>
    have : varB k = false := by
      unfold isK at h
      simp at h
      unfold varB kAt
      by_cases h1 : 1 ≤ k
      · have := h h1
        rw [List.getD_eq_getElem?_getD, List.getElem?_eq_none (by show 8 ≤ _; omega)]; rfl
      · have : (k - 1).toNat = 0 := by omega
        rw [this]; rfl
    simp [kCells, fnV, h, this]
theorem kMap_val0 {k : Int} (h : isK k = true) : (if false = true then Value.tuple #[((mapGet intEq (.int .i64 k) (kMap.toList.map kvOf)).getD (.agg #[.nilFunc, .nilFunc, .nilFunc, .bool false])), .bool (mapGet intEq (.int .i64 k) (kMap.toList.map kvOf)).isSome] else (mapGet intEq (.int .i64 k) (kMap.toList.map kvOf)).getD (.agg #[.nilFunc, .nilFunc, .nilFunc, .bool false])) =
    .agg (kCells k).toArray := by
  rw [kMap_get, h]; rfl
set_option maxRecDepth 10000 in
theorem E_kinds : PureE (α := Nat) Tryz.prog 91 [].toArray (fun r => .map (some r)) (fun r => [(r, kObj)]) := by
  refine pureE_of_HC Tryz.func91 rfl rfl fun w => ?_; refine HC_seq fun K1 hK1 => HC_region ?_; refine HLm rfl ?_; refine HL_nil (hK1 _ _ _ _ ?_); refine HC_seq fun K2 hK2 => HC_region ?_; refine HL_makeMap rfl rfl fun mr => ?_; refine HL_r rfl rfl rfl rfl (R_build (r := [_, _, _, _]) rfl rfl) ?_; refine HL_insert (q := 0) (key := .int .i64 1) (keyI (t := 3) (by kernel_rfl)) rfl rfl rfl rfl rfl rfl ⟨_, rfl⟩ (by intro e he; simp at he) rfl rfl ?_; refine HL_r rfl rfl rfl rfl (R_build (r := [_, _, _, _]) rfl rfl) ?_
  refine HL_insert (q := 0) (key := .int .i64 2) (keyI (t := 3) (by kernel_rfl)) rfl rfl rfl rfl rfl rfl ⟨_, rfl⟩ (by intro e he; simp at he; rcases he with rfl <;> exact ⟨_, rfl⟩) rfl rfl ?_; refine HL_r rfl rfl rfl rfl (R_build (r := [_, _, _, _]) rfl rfl) ?_
  refine HL_insert (q := 0) (key := .int .i64 3) (keyI (t := 3) (by kernel_rfl)) rfl rfl rfl rfl rfl rfl ⟨_, rfl⟩ (by intro e he; simp at he; rcases he with rfl | rfl <;> exact ⟨_, rfl⟩) rfl rfl ?_; refine HL_r rfl rfl rfl rfl (R_build (r := [_, _, _, _]) rfl rfl) ?_
  refine HL_insert (q := 0) (key := .int .i64 4) (keyI (t := 3) (by kernel_rfl)) rfl rfl rfl rfl rfl rfl ⟨_, rfl⟩ (by intro e he; simp at he; rcases he with rfl | rfl | rfl <;> exact ⟨_, rfl⟩) rfl rfl ?_; refine HL_r rfl rfl rfl rfl (R_build (r := [_, _, _, _]) rfl rfl) ?_
  refine HL_insert (q := 0) (key := .int .i64 5) (keyI (t := 3) (by kernel_rfl)) rfl rfl rfl rfl rfl rfl ⟨_, rfl⟩ (by intro e he; simp at he; rcases he with rfl | rfl | rfl | rfl <;> exact ⟨_, rfl⟩) rfl rfl ?_; refine HL_r rfl rfl rfl rfl (R_build (r := [_, _, _, _]) rfl rfl) ?_
  refine HL_insert (q := 0) (key := .int .i64 6) (keyI (t := 3) (by kernel_rfl)) rfl rfl rfl rfl rfl rfl ⟨_, rfl⟩ (by intro e he; simp at he; rcases he with rfl | rfl | rfl | rfl | rfl <;> exact ⟨_, rfl⟩) rfl rfl ?_; refine HL_r rfl rfl rfl rfl (R_build (r := [_, _, _, _]) rfl rfl) ?_
  refine HL_insert (q := 0) (key := .int .i64 7) (keyI (t := 3) (by kernel_rfl)) rfl rfl rfl rfl rfl rfl ⟨_, rfl⟩ (by intro e he; simp at he; rcases he with rfl | rfl | rfl | rfl | rfl | rfl <;> exact ⟨_, rfl⟩) rfl rfl ?_; refine HL_r rfl rfl rfl rfl (R_build (r := [_, _, _, _]) rfl rfl) ?_
  refine HL_insert (q := 0) (key := .int .i64 8) (keyI (t := 3) (by kernel_rfl)) rfl rfl rfl rfl rfl rfl ⟨_, rfl⟩ (by intro e he; simp at he; rcases he with rfl | rfl | rfl | rfl | rfl | rfl | rfl <;> exact ⟨_, rfl⟩) rfl rfl ?_; refine HLm rfl (HLm rfl ?_); refine HL_nil (hK2 _ _ _ _ ?_); refine HC_ret ?_; refine HQ_post rfl rfl (.cons (res_tmp rfl) .nil) (fun w1 hs1 => ?_); exact ⟨mr, rfl, hs1⟩
end Go.Proofs.YtlcbfphioeppaaaGreatDoor
namespace Go.Proofs.YtlcbfphioeppaaaGreatDoor
set_option linter.all false
open Go.SL Go.RowKit Go.Shelf
set_option maxRecDepth 10000 in
theorem S_none {R : List (Nat × Obj)} {k n : Int} {p : Pl} {ins : List Ty} (ht : Ty.In R (.mk k n p ins)) : PureR Tryz.prog 140 [Ty.val (.mk k n p ins)].toArray (.bool (decide (ins.length = 0))) R := by
  cases ht with
  | mk hk hn hl hs hi =>
  refine pureR_of_HC Tryz.func140 rfl rfl fun w => ?_; refine HC_seq fun K1 hK1 => HC_region ?_; refine HL_box (cs := #[_, _, _]) rfl rfl rfl rfl fun r1 => ?_; refine HLm rfl ?_; refine HL_nil (hK1 _ _ _ _ ?_); refine HC_seq fun K2 hK2 => HC_region ?_
  refine HL_r rfl rfl rfl rfl (R_fieldAddr rfl rfl (by first | (simp only [Nat.zero_add, Nat.reduceAdd, Nat.reduceMul, Nat.zero_mul, Nat.mul_one, Nat.add_zero]; exact rfl) | exact rfl)) ?_; refine HL_r rfl rfl rfl rfl (R_load rfl (known_L (k := 0) rfl) rfl rfl) ?_; refine HL_r rfl rfl rfl rfl (R_lenPl rfl hs rfl) ?_; refine HLp rfl (HLm rfl ?_); refine HL_nil (hK2 _ _ _ _ ?_); refine HC_ret ?_; refine HQ_post rfl rfl (.cons (res_tmp rfl) .nil) (fun w1 hs1 => ?_); exact ⟨congrArg (fun b => Ending.returned (Value.bool b)) (by rw [Bool.eq_iff_iff]; simp only [beq_iff_eq, decide_eq_true_eq]; omega), hs1.keep⟩
set_option maxRecDepth 10000 in
theorem S_plain {R : List (Nat × Obj)} {k n : Int} {p : Pl} {ins : List Ty} (ht : Ty.In R (.mk k n p ins)) : PureR Tryz.prog 147 [Ty.val (.mk k n p ins)].toArray (.bool (decide (n = 0))) R := by
  cases ht with
  | mk hk hn hl hs hi =>
  refine pureR_of_HC Tryz.func147 rfl rfl fun w => ?_; refine HC_seq fun K1 hK1 => HC_region ?_; refine HL_box (cs := #[_, _, _]) rfl rfl rfl rfl fun r1 => ?_; refine HLm rfl ?_; refine HL_nil (hK1 _ _ _ _ ?_); clear hK1 K1; refine HC_seq fun K2 hK2 => HC_region ?_
  refine HL_r rfl rfl rfl rfl (R_fieldAddr rfl rfl (by first | (simp only [Nat.zero_add, Nat.reduceAdd, Nat.reduceMul, Nat.zero_mul, Nat.mul_one, Nat.add_zero]; exact rfl) | exact rfl)) ?_; refine HL_r rfl rfl rfl rfl (R_load rfl (known_L (k := 0) rfl) rfl rfl) ?_; refine HLp rfl (HLm rfl ?_); refine HL_nil (hK2 _ _ _ _ ?_); clear hK2 K2; refine HC_ret ?_; refine HQ_post rfl rfl (.cons (res_tmp rfl) .nil) (fun w1 hs1 => ?_); refine ⟨?_, hs1.keep⟩
  simp_all [resVal]
  first | done | rfl | omega | (rw [Bool.eq_iff_iff]; simp only [Bool.and_eq_true, Bool.or_eq_true, decide_eq_true_eq, beq_iff_eq]; omega) | (simp only [decide_eq_true_eq, decide_eq_false_iff_not]; omega)
set_option maxRecDepth 10000 in
theorem S_row {R : List (Nat × Obj)} {k n : Int} {p : Pl} {ins : List Ty} (ht : Ty.In R (.mk k n p ins)) : PureR Tryz.prog 154 [Ty.val (.mk k n p ins)].toArray (.bool (decide (1 ≤ n) && decide (n ≤ 512))) R := by
  cases ht with
  | mk hk hn hl hs hi =>
  refine pureR_of_HC Tryz.func154 rfl rfl fun w => ?_; refine HC_seq fun K1 hK1 => HC_region ?_; refine HL_box (cs := #[_, _, _]) rfl rfl rfl rfl fun r1 => ?_; refine HLm rfl ?_; refine HL_nil (hK1 _ _ _ _ ?_); clear hK1 K1; refine HC_seq fun K2 hK2 => HC_region ?_
  refine HL_r rfl rfl rfl rfl (R_fieldAddr rfl rfl (by first | (simp only [Nat.zero_add, Nat.reduceAdd, Nat.reduceMul, Nat.zero_mul, Nat.mul_one, Nat.add_zero]; exact rfl) | exact rfl)) ?_; refine HL_r rfl rfl rfl rfl (R_load rfl (known_L (k := 0) rfl) rfl rfl) ?_; refine HLp rfl (HLm rfl ?_)
  refine HL_case 6 rfl (fun hb3 => ?_) (fun hb3 => ?_) <;> (try simp only [ZZ] at hb3) <;> first | (refine HL_r rfl rfl rfl rfl (R_fieldAddr rfl rfl (by first | (simp only [Nat.zero_add, Nat.reduceAdd, Nat.reduceMul, Nat.zero_mul, Nat.mul_one, Nat.add_zero]; exact rfl) | exact rfl)) ?_) | (refine HL_skip rfl rfl rfl ?_)
  all_goals first
    | (refine HL_r rfl rfl rfl rfl (R_load rfl (known_L (k := 0) rfl) rfl rfl) ?_)
    | (refine HL_skip rfl rfl rfl ?_)
  all_goals first
    | (refine HLp rfl ?_)
    | (refine HL_skip rfl rfl rfl ?_)
  all_goals first
    | (refine HL_r rfl rfl rfl rfl (R_pickT rfl rfl) ?_)
    | (refine HL_r rfl rfl rfl rfl (R_pickF rfl rfl) ?_)
  all_goals refine HLm rfl ?_
  all_goals refine HL_nil ?_
  all_goals (
   refine hK2 _ _ _ _ ?_; clear hK2 K2; refine HC_ret ?_; refine HQ_post rfl rfl (.cons (res_tmp rfl) .nil) (fun w1 hs1 => ?_); refine ⟨?_, hs1.keep⟩
   simp_all [resVal]
   all_goals first | done | rfl | omega | (rw [Bool.eq_iff_iff]; simp only [Bool.and_eq_true, Bool.or_eq_true, decide_eq_true_eq, beq_iff_eq]; omega) | (simp only [decide_eq_true_eq, decide_eq_false_iff_not]; omega)
   skip)
set_option maxRecDepth 10000 in
theorem S_many {R : List (Nat × Obj)} {k n : Int} {p : Pl} {ins : List Ty} (ht : Ty.In R (.mk k n p ins)) (most : Int) : PureR Tryz.prog 153 [Ty.val (.mk k n p ins), .int .i64 most].toArray (.bool (decide (1 ≤ ins.length) && decide ((ins.length : Int) ≤ most))) R := by
  cases ht with
  | mk hk hn hl hs hi =>
  refine pureR_of_HC Tryz.func153 rfl rfl fun w => ?_; refine HC_seq fun K1 hK1 => HC_region ?_; refine HL_box (cs := #[_, _, _]) rfl rfl rfl rfl fun r1 => ?_; refine HLm rfl ?_; refine HL_nil (hK1 _ _ _ _ ?_); clear hK1 K1; refine HC_seq fun K2 hK2 => HC_region ?_
  refine HL_r rfl rfl rfl rfl (R_fieldAddr rfl rfl (by first | (simp only [Nat.zero_add, Nat.reduceAdd, Nat.reduceMul, Nat.zero_mul, Nat.mul_one, Nat.add_zero]; exact rfl) | exact rfl)) ?_; refine HL_r rfl rfl rfl rfl (R_load rfl (known_L (k := 0) rfl) rfl rfl) ?_; refine HL_r rfl rfl rfl rfl (R_lenPl rfl hs rfl) ?_; refine HLp rfl (HLm rfl ?_)
  refine HL_case 9 rfl (fun hb3 => ?_) (fun hb3 => ?_) <;> (try simp only [ZZ] at hb3) <;> first | (refine HL_r rfl rfl rfl rfl (R_fieldAddr rfl rfl (by first | (simp only [Nat.zero_add, Nat.reduceAdd, Nat.reduceMul, Nat.zero_mul, Nat.mul_one, Nat.add_zero]; exact rfl) | exact rfl)) ?_) | (refine HL_skip rfl rfl rfl ?_)
  all_goals first
    | (refine HL_r rfl rfl rfl rfl (R_load rfl (known_L (k := 0) rfl) rfl rfl) ?_)
    | (refine HL_skip rfl rfl rfl ?_)
  all_goals first
    | (refine HL_r rfl rfl rfl rfl (R_lenPl rfl hs rfl) ?_)
    | (refine HL_skip rfl rfl rfl ?_)
  all_goals first
    | (refine HLm rfl ?_)
    | (refine HL_skip rfl rfl rfl ?_)
  all_goals first
    | (refine HLp rfl ?_)
    | (refine HL_skip rfl rfl rfl ?_)
  all_goals first
    | (refine HL_r rfl rfl rfl rfl (R_pickT rfl rfl) ?_)
    | (refine HL_r rfl rfl rfl rfl (R_pickF rfl rfl) ?_)
  all_goals refine HLm rfl ?_
  all_goals refine HL_nil ?_
  all_goals (
   refine hK2 _ _ _ _ ?_; clear hK2 K2; refine HC_ret ?_; refine HQ_post rfl rfl (.cons (res_tmp rfl) .nil) (fun w1 hs1 => ?_); refine ⟨?_, hs1.keep⟩
   simp_all [resVal]
   first | done | rfl | omega | (rw [Bool.eq_iff_iff]; simp only [Bool.and_eq_true, Bool.or_eq_true, decide_eq_true_eq, beq_iff_eq]; omega) | (simp only [decide_eq_true_eq, decide_eq_false_iff_not]; omega)
   skip)
def idxL : List Int → Int → Int → Int
  | [], _, _ => -1
  | y :: ys, x, j => if x = y then j else idxL ys x (j + 1)
def intsC (l : List Int) : List Value := l.map (Value.int .i64)
set_option maxRecDepth 10000 in
theorem S_Index {R : List (Nat × Obj)} {xs : List Int} {p : Pl} (x : Int) (hl : xs.length ≤ 9223372036854775807) (hs : Seg R xs.length (intsC xs) p) : PureR Tryz.prog 199 [plV xs.length p, .int .i64 x].toArray (.int .i64 (idxL xs x 0)) R := by
  refine pureR_of_HC Tryz.func199 rfl rfl fun w => ?_; refine HC_seq fun K1 hK1 => HC_region ?_; refine HLm rfl ?_; refine HL_nil (hK1 _ _ _ _ ?_); refine HC_seq fun K2 hK2 => ?_; refine HC_seq fun K3 hK3 => HC_region ?_; refine HLm rfl (HL_r rfl rfl rfl rfl (R_lenPl rfl hs rfl) (HLm rfl ?_)); refine HL_nil (hK3 _ _ _ _ ?_); refine HC_block (HC_loop (σ := Nat) (fun i => i ≤ xs.length ∧ idxL (xs.drop i) x (i : Int) = idxL xs x 0) (fun i => [(0, plV xs.length p), (1, .int .i64 x), (7, .int .i64 (xs.length : Int)), (8, .int .i64 (i : Int))]) (fun _ => []) (fun _ _ _ => True) (fun i => xs.length - i) 0 ⟨by omega, rfl⟩ (.cons rfl (.cons rfl (.cons rfl (.cons rfl .nil)))) (List.nil_sublist _) (fun _ _ h => h) ?_); rintro i ⟨hi1, hinv⟩; refine HC_seq fun K4 hK4 => HC_region ?_; refine HLp rfl ?_; refine HL_nil (hK4 _ _ _ _ ?_); refine HC_seq fun K5 hK5 => ?_; refine HC_cond rfl (fun h6 => ?_) (fun h6 => ?_)
  · try exact Bool.noConfusion h6
    try simp only [ZZ] at h6
    refine HC_skip (hK5 _ _ _ _ ?_); refine HC_seq fun K7 hK7 => HC_block ?_; refine HC_seq fun K8 hK8 => HC_region ?_; refine HLm rfl (HLm rfl ?_); refine HL_nil (hK8 _ _ _ _ ?_); refine HC_seq fun K9 hK9 => ?_
    obtain ⟨y, hy, hmy⟩ := getI (show i < xs.length by omega)
    rw [dropI hy, idxL] at hinv; refine HC_region (HLm rfl ?_); refine HLm rfl (HLm rfl (HL_r rfl rfl rfl rfl (R_indexPl (j := i) rfl hs rfl rfl rfl rfl (by omega)) ?_)); refine HL_r rfl rfl rfl rfl (R_loadPl1 (v := .int .i64 y) (j := i) (fun q hq => Or.inr hq) rfl hs (by omega) rfl (by unfold intsC; rw [List.getElem?_map, hy]; rfl)) ?_; refine HLp rfl ?_; refine HL_nil (hK9 _ _ _ _ ?_); refine HC_cond rfl (fun h10 => ?_) (fun h10 => ?_)
    · try exact Bool.noConfusion h10
      try simp only [ZZ] at h10
      refine HC_seq fun K11 hK11 => HC_region ?_; refine HLm rfl (HLm rfl ?_); refine HL_nil (hK11 _ _ _ _ ?_); refine HC_ret (HQ_blockR (HQ_thenR ?_)); refine HQ_thenR (HQ_blockR (HQ_thenR ?_)); refine HQ_post rfl rfl (.cons (res_tmp rfl) .nil) (fun w1 hs1 => ?_); refine ⟨?_, hs1.keep⟩; rw [← hinv, if_pos (by assumption)]; rfl
    · try exact Bool.noConfusion h10
      try simp only [ZZ] at h10
      refine HC_skip (HQ_blockN (hK7 _ _ _ _ ?_)); refine HC_region (HLp rfl (HL_wrap_i64 (by omega) (by omega) ?_)); refine HLm rfl (HL_nil (HQ_then ?_)); exact HQ_again (i + 1) ⟨by omega, by rw [if_neg (by assumption)] at hinv; exact hinv⟩ (by omega) (.cons rfl (.cons rfl (.cons rfl (.cons rfl .nil)))) (List.nil_sublist _) (fun _ _ h => h)
  · try exact Bool.noConfusion h6
    try simp only [ZZ] at h6
    refine HC_exit (HQ_thenE ?_); refine HQ_thenE (HQ_blockE (hK2 _ _ _ _ ?_)); refine HC_seq fun K12 hK12 => HC_region ?_; refine HLm rfl ?_; refine HL_nil (hK12 _ _ _ _ ?_); refine HC_ret ?_; refine HQ_post rfl rfl (.cons (res_tmp rfl) .nil) (fun w1 hs1 => ?_); refine ⟨?_, hs1.keep⟩; rw [← hinv, List.drop_of_length_le (by omega), idxL]; rfl
set_option maxRecDepth 10000 in
theorem S_Contains {R : List (Nat × Obj)} {xs : List Int} {p : Pl} (x : Int) (hl : xs.length ≤ 9223372036854775807) (hs : Seg R xs.length (intsC xs) p) : PureR Tryz.prog 141 [plV xs.length p, .int .i64 x].toArray (.bool (decide (0 ≤ idxL xs x 0))) R := by
  have h := S_Index x hl hs
  refine pureR_of_HC Tryz.func141 rfl rfl fun w => ?_; refine HC_seq fun K1 hK1 => HC_region ?_; refine HLm rfl ?_; refine HL_nil (hK1 _ _ _ _ ?_); refine HC_seq fun K2 hK2 => HC_region ?_; refine HLm rfl (HLm rfl (HL_callR rfl rfl rfl (enters_of Tryz.func199 (by kernel_rfl) rfl) h (fun q hq => Or.inr hq) ?_)); refine HLp rfl (HLm rfl ?_); refine HL_nil (hK2 _ _ _ _ ?_); refine HC_ret ?_; refine HQ_post rfl rfl (.cons (res_tmp rfl) .nil) (fun w1 hs1 => ?_); exact ⟨rfl, hs1.keep⟩
theorem idx5 (n : Int) : decide (0 ≤ idxL [1, 2, 4, 8, 32] n 0) = (decide (n = 1) || decide (n = 2) || decide (n = 4) || decide (n = 8) || decide (n = 32)) := by
  simp only [idxL]
  by_cases h1 : n = 1
  · simp [h1]
  by_cases h2 : n = 2
  · simp [h2]
  by_cases h4 : n = 4
  · simp [h4]
  by_cases h8 : n = 8
  · simp [h8]
  by_cases h32 : n = 32
  · simp [h32]
  simp [h1, h2, h4, h8, h32]
set_option maxRecDepth 10000 in
theorem F_1 {R : List (Nat × Obj)} {n : Int} {p : Pl} {ins : List Ty} (ht : Ty.In R (.mk 1 n p ins)) : PureR Tryz.prog 139 [Ty.val (.mk 1 n p ins)].toArray (.bool (okForm 1 n ins.length)) R := by
  have hno := S_none ht
  have hpl := S_plain ht
  have hro := S_row ht
  have hma := fun m => S_many ht m
  cases ht with
  | mk hk hn hl hs hi =>
  refine pureR_of_HC Tryz.func139 rfl rfl fun w => ?_; refine HC_seq fun K1 hK1 => HC_region ?_; refine HL_box (cs := #[_, _, _]) rfl rfl rfl rfl fun r1 => ?_; refine HLm rfl ?_; refine HL_nil (hK1 _ _ _ _ ?_); clear hK1 K1; refine HC_seq fun K2 hK2 => HC_region ?_; refine HL_r rfl rfl rfl rfl (R_loadA (vs := [_, _, _]) rfl (known_L (k := 0) rfl) rfl rfl rfl rfl) ?_; refine HL_callR rfl rfl rfl (enters_of Tryz.func140 (by kernel_rfl) rfl) hno (fun q hq => Or.inr hq) ?_; refine HLm rfl ?_
  refine HL_case 5 rfl (fun hb3 => ?_) (fun hb3 => ?_) <;> (try simp only [ZZ] at hb3) <;> first | (refine HL_buildSlice (vs := [_, _, _, _, _]) (zs := [_, _, _, _, _]) (r := [_, _, _, _, _]) rfl rfl rfl rfl rfl rfl rfl rfl rfl (by show (madeCells #[_] _).toList = _; rw [made_one]; exact rfl) rfl fun r2 => ?_) | (refine HL_skip rfl rfl rfl ?_)
  all_goals first
    | (refine HL_r rfl rfl rfl rfl (R_fieldAddr rfl rfl (by first | (simp only [Nat.zero_add, Nat.reduceAdd, Nat.reduceMul, Nat.zero_mul, Nat.mul_one, Nat.add_zero]; exact rfl) | exact rfl)) ?_)
    | (refine HL_skip rfl rfl rfl ?_)
  all_goals first
    | (refine HL_r rfl rfl rfl rfl (R_load rfl (known_L (k := 1) rfl) rfl rfl) ?_)
    | (refine HL_skip rfl rfl rfl ?_)
  all_goals first
    | (refine HL_callR rfl rfl rfl (enters_of Tryz.func141 (by kernel_rfl) rfl) (S_Contains (R := [(r2, _)]) (xs := [1, 2, 4, 8, 32]) (p := some (⟨r2, 0, none⟩, 5)) n (by decide) ⟨by decide, fun _ => ⟨rfl, _, _, _, List.mem_cons_self, rfl⟩⟩) (fun q hq => .inl (by rw [List.mem_singleton.1 hq]; exact List.mem_cons_self)) ?_; refine HL_as (congrArg Value.bool (idx5 n)) ?_)
    | (refine HL_skip rfl rfl rfl ?_)
  all_goals first
    | (refine HL_r rfl rfl rfl rfl (R_pickT rfl rfl) ?_)
    | (refine HL_r rfl rfl rfl rfl (R_pickF rfl rfl) ?_)
  all_goals refine HLm rfl ?_
  all_goals refine HL_nil ?_
  all_goals (
   refine hK2 _ _ _ _ ?_; clear hK2 K2; refine HC_ret ?_; refine HQ_post rfl rfl (.cons (res_tmp rfl) .nil) (fun w1 hs1 => ?_); refine ⟨?_, hs1.keep⟩
   unfold okForm
   simp_all [resVal]
   skip)
set_option maxRecDepth 10000 in
theorem F_2 {R : List (Nat × Obj)} {n : Int} {p : Pl} {ins : List Ty} (ht : Ty.In R (.mk 2 n p ins)) : PureR Tryz.prog 146 [Ty.val (.mk 2 n p ins)].toArray (.bool (okForm 2 n ins.length)) R := by
  have hno := S_none ht
  have hpl := S_plain ht
  have hro := S_row ht
  have hma := fun m => S_many ht m
  cases ht with
  | mk hk hn hl hs hi =>
  refine pureR_of_HC Tryz.func146 rfl rfl fun w => ?_; refine HC_seq fun K1 hK1 => HC_region ?_; refine HL_box (cs := #[_, _, _]) rfl rfl rfl rfl fun r1 => ?_; refine HLm rfl ?_; refine HL_nil (hK1 _ _ _ _ ?_); clear hK1 K1; refine HC_seq fun K2 hK2 => HC_region ?_; refine HL_r rfl rfl rfl rfl (R_loadA (vs := [_, _, _]) rfl (known_L (k := 0) rfl) rfl rfl rfl rfl) ?_; refine HL_callR rfl rfl rfl (enters_of Tryz.func140 (by kernel_rfl) rfl) hno (fun q hq => Or.inr hq) ?_; refine HLm rfl ?_
  refine HL_case 5 rfl (fun hb3 => ?_) (fun hb3 => ?_) <;> (try simp only [ZZ] at hb3) <;> first | (refine HL_r rfl rfl rfl rfl (R_loadA (vs := [_, _, _]) rfl (known_L (k := 0) rfl) rfl rfl rfl rfl) ?_) | (refine HL_skip rfl rfl rfl ?_)
  all_goals first
    | (refine HL_callR rfl rfl rfl (enters_of Tryz.func147 (by kernel_rfl) rfl) hpl (fun q hq => Or.inr hq) ?_)
    | (refine HL_skip rfl rfl rfl ?_)
  all_goals first
    | (refine HL_r rfl rfl rfl rfl (R_pickT rfl rfl) ?_)
    | (refine HL_r rfl rfl rfl rfl (R_pickF rfl rfl) ?_)
  all_goals refine HLm rfl ?_
  all_goals refine HL_nil ?_
  all_goals (
   refine hK2 _ _ _ _ ?_; clear hK2 K2; refine HC_ret ?_; refine HQ_post rfl rfl (.cons (res_tmp rfl) .nil) (fun w1 hs1 => ?_); refine ⟨?_, hs1.keep⟩
   unfold okForm
   simp_all [resVal]
   skip)
set_option maxRecDepth 10000 in
theorem F_3 {R : List (Nat × Obj)} {n : Int} {p : Pl} {ins : List Ty} (ht : Ty.In R (.mk 3 n p ins)) : PureR Tryz.prog 152 [Ty.val (.mk 3 n p ins)].toArray (.bool (okForm 3 n ins.length)) R := by
  have hno := S_none ht
  have hpl := S_plain ht
  have hro := S_row ht
  have hma := fun m => S_many ht m
  cases ht with
  | mk hk hn hl hs hi =>
  refine pureR_of_HC Tryz.func152 rfl rfl fun w => ?_; refine HC_seq fun K1 hK1 => HC_region ?_; refine HL_box (cs := #[_, _, _]) rfl rfl rfl rfl fun r1 => ?_; refine HLm rfl ?_; refine HL_nil (hK1 _ _ _ _ ?_); clear hK1 K1; refine HC_seq fun K2 hK2 => HC_region ?_; refine HL_r rfl rfl rfl rfl (R_loadA (vs := [_, _, _]) rfl (known_L (k := 0) rfl) rfl rfl rfl rfl) ?_; refine HL_callR rfl rfl rfl (enters_of Tryz.func153 (by kernel_rfl) rfl) (hma 1) (fun q hq => Or.inr hq) ?_; refine HLm rfl ?_
  refine HL_case 5 rfl (fun hb3 => ?_) (fun hb3 => ?_) <;> (try simp only [ZZ] at hb3) <;> first | (refine HL_r rfl rfl rfl rfl (R_loadA (vs := [_, _, _]) rfl (known_L (k := 0) rfl) rfl rfl rfl rfl) ?_) | (refine HL_skip rfl rfl rfl ?_)
  all_goals first
    | (refine HL_callR rfl rfl rfl (enters_of Tryz.func154 (by kernel_rfl) rfl) hro (fun q hq => Or.inr hq) ?_)
    | (refine HL_skip rfl rfl rfl ?_)
  all_goals first
    | (refine HL_r rfl rfl rfl rfl (R_pickT rfl rfl) ?_)
    | (refine HL_r rfl rfl rfl rfl (R_pickF rfl rfl) ?_)
  all_goals refine HLm rfl ?_
  all_goals refine HL_nil ?_
  all_goals (
   refine hK2 _ _ _ _ ?_; clear hK2 K2; refine HC_ret ?_; refine HQ_post rfl rfl (.cons (res_tmp rfl) .nil) (fun w1 hs1 => ?_); refine ⟨?_, hs1.keep⟩
   unfold okForm
   simp_all [resVal]
   first | done | rfl | omega | (rw [Bool.eq_iff_iff]; simp only [Bool.and_eq_true, Bool.or_eq_true, decide_eq_true_eq, beq_iff_eq]; omega) | (simp only [decide_eq_true_eq, decide_eq_false_iff_not]; omega)
   skip)
set_option maxRecDepth 10000 in
theorem F_4 {R : List (Nat × Obj)} {n : Int} {p : Pl} {ins : List Ty} (ht : Ty.In R (.mk 4 n p ins)) : PureR Tryz.prog 159 [Ty.val (.mk 4 n p ins)].toArray (.bool (okForm 4 n ins.length)) R := by
  have hno := S_none ht
  have hpl := S_plain ht
  have hro := S_row ht
  have hma := fun m => S_many ht m
  cases ht with
  | mk hk hn hl hs hi =>
  refine pureR_of_HC Tryz.func159 rfl rfl fun w => ?_; refine HC_seq fun K1 hK1 => HC_region ?_; refine HL_box (cs := #[_, _, _]) rfl rfl rfl rfl fun r1 => ?_; refine HLm rfl ?_; refine HL_nil (hK1 _ _ _ _ ?_); clear hK1 K1; refine HC_seq fun K2 hK2 => HC_region ?_; refine HL_r rfl rfl rfl rfl (R_loadA (vs := [_, _, _]) rfl (known_L (k := 0) rfl) rfl rfl rfl rfl) ?_; refine HL_callR rfl rfl rfl (enters_of Tryz.func153 (by kernel_rfl) rfl) (hma 1) (fun q hq => Or.inr hq) ?_; refine HLm rfl ?_
  refine HL_case 5 rfl (fun hb3 => ?_) (fun hb3 => ?_) <;> (try simp only [ZZ] at hb3) <;> first | (refine HL_r rfl rfl rfl rfl (R_loadA (vs := [_, _, _]) rfl (known_L (k := 0) rfl) rfl rfl rfl rfl) ?_) | (refine HL_skip rfl rfl rfl ?_)
  all_goals first
    | (refine HL_callR rfl rfl rfl (enters_of Tryz.func154 (by kernel_rfl) rfl) hro (fun q hq => Or.inr hq) ?_)
    | (refine HL_skip rfl rfl rfl ?_)
  all_goals first
    | (refine HL_r rfl rfl rfl rfl (R_pickT rfl rfl) ?_)
    | (refine HL_r rfl rfl rfl rfl (R_pickF rfl rfl) ?_)
  all_goals refine HLm rfl ?_
  all_goals refine HL_nil ?_
  all_goals (
   refine hK2 _ _ _ _ ?_; clear hK2 K2; refine HC_ret ?_; refine HQ_post rfl rfl (.cons (res_tmp rfl) .nil) (fun w1 hs1 => ?_); refine ⟨?_, hs1.keep⟩
   unfold okForm
   simp_all [resVal]
   first | done | rfl | omega | (rw [Bool.eq_iff_iff]; simp only [Bool.and_eq_true, Bool.or_eq_true, decide_eq_true_eq, beq_iff_eq]; omega) | (simp only [decide_eq_true_eq, decide_eq_false_iff_not]; omega)
   skip)
set_option maxRecDepth 10000 in
theorem F_5 {R : List (Nat × Obj)} {n : Int} {p : Pl} {ins : List Ty} (ht : Ty.In R (.mk 5 n p ins)) : PureR Tryz.prog 161 [Ty.val (.mk 5 n p ins)].toArray (.bool (okForm 5 n ins.length)) R := by
  have hno := S_none ht
  have hpl := S_plain ht
  have hro := S_row ht
  have hma := fun m => S_many ht m
  cases ht with
  | mk hk hn hl hs hi =>
  refine pureR_of_HC Tryz.func161 rfl rfl fun w => ?_; refine HC_seq fun K1 hK1 => HC_region ?_; refine HL_box (cs := #[_, _, _]) rfl rfl rfl rfl fun r1 => ?_; refine HLm rfl ?_; refine HL_nil (hK1 _ _ _ _ ?_); clear hK1 K1; refine HC_seq fun K2 hK2 => HC_region ?_; refine HL_r rfl rfl rfl rfl (R_loadA (vs := [_, _, _]) rfl (known_L (k := 0) rfl) rfl rfl rfl rfl) ?_; refine HL_callR rfl rfl rfl (enters_of Tryz.func140 (by kernel_rfl) rfl) hno (fun q hq => Or.inr hq) ?_; refine HLm rfl ?_
  refine HL_case 5 rfl (fun hb3 => ?_) (fun hb3 => ?_) <;> (try simp only [ZZ] at hb3) <;> first | (refine HL_r rfl rfl rfl rfl (R_loadA (vs := [_, _, _]) rfl (known_L (k := 0) rfl) rfl rfl rfl rfl) ?_) | (refine HL_skip rfl rfl rfl ?_)
  all_goals first
    | (refine HL_callR rfl rfl rfl (enters_of Tryz.func154 (by kernel_rfl) rfl) hro (fun q hq => Or.inr hq) ?_)
    | (refine HL_skip rfl rfl rfl ?_)
  all_goals first
    | (refine HL_r rfl rfl rfl rfl (R_pickT rfl rfl) ?_)
    | (refine HL_r rfl rfl rfl rfl (R_pickF rfl rfl) ?_)
  all_goals refine HLm rfl ?_
  all_goals refine HL_nil ?_
  all_goals (
   refine hK2 _ _ _ _ ?_; clear hK2 K2; refine HC_ret ?_; refine HQ_post rfl rfl (.cons (res_tmp rfl) .nil) (fun w1 hs1 => ?_); refine ⟨?_, hs1.keep⟩
   unfold okForm
   simp_all [resVal]
   skip)
set_option maxRecDepth 10000 in
theorem F_6 {R : List (Nat × Obj)} {n : Int} {p : Pl} {ins : List Ty} (ht : Ty.In R (.mk 6 n p ins)) : PureR Tryz.prog 165 [Ty.val (.mk 6 n p ins)].toArray (.bool (okForm 6 n ins.length)) R := by
  have hno := S_none ht
  have hpl := S_plain ht
  have hro := S_row ht
  have hma := fun m => S_many ht m
  cases ht with
  | mk hk hn hl hs hi =>
  refine pureR_of_HC Tryz.func165 rfl rfl fun w => ?_; refine HC_seq fun K1 hK1 => HC_region ?_; refine HL_box (cs := #[_, _, _]) rfl rfl rfl rfl fun r1 => ?_; refine HLm rfl ?_; refine HL_nil (hK1 _ _ _ _ ?_); clear hK1 K1; refine HC_seq fun K2 hK2 => HC_region ?_; refine HL_r rfl rfl rfl rfl (R_loadA (vs := [_, _, _]) rfl (known_L (k := 0) rfl) rfl rfl rfl rfl) ?_; refine HL_callR rfl rfl rfl (enters_of Tryz.func140 (by kernel_rfl) rfl) hno (fun q hq => Or.inr hq) ?_; refine HLm rfl ?_
  refine HL_case 5 rfl (fun hb3 => ?_) (fun hb3 => ?_) <;> (try simp only [ZZ] at hb3) <;> first | (refine HL_r rfl rfl rfl rfl (R_loadA (vs := [_, _, _]) rfl (known_L (k := 0) rfl) rfl rfl rfl rfl) ?_) | (refine HL_skip rfl rfl rfl ?_)
  all_goals first
    | (refine HL_callR rfl rfl rfl (enters_of Tryz.func154 (by kernel_rfl) rfl) hro (fun q hq => Or.inr hq) ?_)
    | (refine HL_skip rfl rfl rfl ?_)
  all_goals first
    | (refine HL_r rfl rfl rfl rfl (R_pickT rfl rfl) ?_)
    | (refine HL_r rfl rfl rfl rfl (R_pickF rfl rfl) ?_)
  all_goals refine HLm rfl ?_
  all_goals refine HL_nil ?_
  all_goals (
   refine hK2 _ _ _ _ ?_; clear hK2 K2; refine HC_ret ?_; refine HQ_post rfl rfl (.cons (res_tmp rfl) .nil) (fun w1 hs1 => ?_); refine ⟨?_, hs1.keep⟩
   unfold okForm
   simp_all [resVal]
   skip)
set_option maxRecDepth 10000 in
theorem F_7 {R : List (Nat × Obj)} {n : Int} {p : Pl} {ins : List Ty} (ht : Ty.In R (.mk 7 n p ins)) : PureR Tryz.prog 167 [Ty.val (.mk 7 n p ins)].toArray (.bool (okForm 7 n ins.length)) R := by
  have hno := S_none ht
  have hpl := S_plain ht
  have hro := S_row ht
  have hma := fun m => S_many ht m
  cases ht with
  | mk hk hn hl hs hi =>
  refine pureR_of_HC Tryz.func167 rfl rfl fun w => ?_; refine HC_seq fun K1 hK1 => HC_region ?_; refine HL_box (cs := #[_, _, _]) rfl rfl rfl rfl fun r1 => ?_; refine HLm rfl ?_; refine HL_nil (hK1 _ _ _ _ ?_); clear hK1 K1; refine HC_seq fun K2 hK2 => HC_region ?_; refine HL_r rfl rfl rfl rfl (R_loadA (vs := [_, _, _]) rfl (known_L (k := 0) rfl) rfl rfl rfl rfl) ?_; refine HL_callR rfl rfl rfl (enters_of Tryz.func153 (by kernel_rfl) rfl) (hma 16) (fun q hq => Or.inr hq) ?_; refine HLm rfl ?_
  refine HL_case 5 rfl (fun hb3 => ?_) (fun hb3 => ?_) <;> (try simp only [ZZ] at hb3) <;> first | (refine HL_r rfl rfl rfl rfl (R_loadA (vs := [_, _, _]) rfl (known_L (k := 0) rfl) rfl rfl rfl rfl) ?_) | (refine HL_skip rfl rfl rfl ?_)
  all_goals first
    | (refine HL_callR rfl rfl rfl (enters_of Tryz.func147 (by kernel_rfl) rfl) hpl (fun q hq => Or.inr hq) ?_)
    | (refine HL_skip rfl rfl rfl ?_)
  all_goals first
    | (refine HL_r rfl rfl rfl rfl (R_pickT rfl rfl) ?_)
    | (refine HL_r rfl rfl rfl rfl (R_pickF rfl rfl) ?_)
  all_goals refine HLm rfl ?_
  all_goals refine HL_nil ?_
  all_goals (
   refine hK2 _ _ _ _ ?_; clear hK2 K2; refine HC_ret ?_; refine HQ_post rfl rfl (.cons (res_tmp rfl) .nil) (fun w1 hs1 => ?_); refine ⟨?_, hs1.keep⟩
   unfold okForm
   simp_all [resVal]
   first | done | rfl | omega | (rw [Bool.eq_iff_iff]; simp only [Bool.and_eq_true, Bool.or_eq_true, decide_eq_true_eq, beq_iff_eq]; omega) | (simp only [decide_eq_true_eq, decide_eq_false_iff_not]; omega)
   skip)
set_option maxRecDepth 10000 in
theorem F_8 {R : List (Nat × Obj)} {n : Int} {p : Pl} {ins : List Ty} (ht : Ty.In R (.mk 8 n p ins)) : PureR Tryz.prog 170 [Ty.val (.mk 8 n p ins)].toArray (.bool (okForm 8 n ins.length)) R := by
  have hno := S_none ht
  have hpl := S_plain ht
  have hro := S_row ht
  have hma := fun m => S_many ht m
  cases ht with
  | mk hk hn hl hs hi =>
  refine pureR_of_HC Tryz.func170 rfl rfl fun w => ?_; refine HC_seq fun K1 hK1 => HC_region ?_; refine HL_box (cs := #[_, _, _]) rfl rfl rfl rfl fun r1 => ?_; refine HLm rfl ?_; refine HL_nil (hK1 _ _ _ _ ?_); clear hK1 K1; refine HC_seq fun K2 hK2 => HC_region ?_; refine HL_r rfl rfl rfl rfl (R_loadA (vs := [_, _, _]) rfl (known_L (k := 0) rfl) rfl rfl rfl rfl) ?_; refine HL_callR rfl rfl rfl (enters_of Tryz.func153 (by kernel_rfl) rfl) (hma 8) (fun q hq => Or.inr hq) ?_; refine HLm rfl ?_
  refine HL_case 5 rfl (fun hb3 => ?_) (fun hb3 => ?_) <;> (try simp only [ZZ] at hb3) <;> first | (refine HL_r rfl rfl rfl rfl (R_loadA (vs := [_, _, _]) rfl (known_L (k := 0) rfl) rfl rfl rfl rfl) ?_) | (refine HL_skip rfl rfl rfl ?_)
  all_goals first
    | (refine HL_callR rfl rfl rfl (enters_of Tryz.func147 (by kernel_rfl) rfl) hpl (fun q hq => Or.inr hq) ?_)
    | (refine HL_skip rfl rfl rfl ?_)
  all_goals first
    | (refine HL_r rfl rfl rfl rfl (R_pickT rfl rfl) ?_)
    | (refine HL_r rfl rfl rfl rfl (R_pickF rfl rfl) ?_)
  all_goals refine HLm rfl ?_
  all_goals refine HL_nil ?_
  all_goals (
   refine hK2 _ _ _ _ ?_; clear hK2 K2; refine HC_ret ?_; refine HQ_post rfl rfl (.cons (res_tmp rfl) .nil) (fun w1 hs1 => ?_); refine ⟨?_, hs1.keep⟩
   unfold okForm
   simp_all [resVal]
   first | done | rfl | omega | (rw [Bool.eq_iff_iff]; simp only [Bool.and_eq_true, Bool.or_eq_true, decide_eq_true_eq, beq_iff_eq]; omega) | (simp only [decide_eq_true_eq, decide_eq_false_iff_not]; omega)
   skip)
theorem isK_iff {k : Int} : isK k = true ↔ 1 ≤ k ∧ k ≤ 8 := by unfold isK; simp
theorem F_all {R : List (Nat × Obj)} {k n : Int} {p : Pl} {ins : List Ty} (ht : Ty.In R (.mk k n p ins)) (h : isK k = true) : Enters Tryz.prog (formF k) ∧ PureR Tryz.prog (formF k) [Ty.val (.mk k n p ins)].toArray (.bool (okForm k n ins.length)) R := by
  have := isK_iff.1 h
  have : k = 1 ∨ k = 2 ∨ k = 3 ∨ k = 4 ∨ k = 5 ∨ k = 6 ∨ k = 7 ∨ k = 8 := by omega
  rcases this with rfl | rfl | rfl | rfl | rfl | rfl | rfl | rfl
  · exact ⟨enters_of Tryz.func139 (by kernel_rfl) rfl, F_1 ht⟩
  · exact ⟨enters_of Tryz.func146 (by kernel_rfl) rfl, F_2 ht⟩
  · exact ⟨enters_of Tryz.func152 (by kernel_rfl) rfl, F_3 ht⟩
  · exact ⟨enters_of Tryz.func159 (by kernel_rfl) rfl, F_4 ht⟩
  · exact ⟨enters_of Tryz.func161 (by kernel_rfl) rfl, F_5 ht⟩
  · exact ⟨enters_of Tryz.func165 (by kernel_rfl) rfl, F_6 ht⟩
  · exact ⟨enters_of Tryz.func167 (by kernel_rfl) rfl, F_7 ht⟩
  · exact ⟨enters_of Tryz.func170 (by kernel_rfl) rfl, F_8 ht⟩
end Go.Proofs.YtlcbfphioeppaaaGreatDoor
/-! ### A region that draws its order, in an order of one's own: several operations that lay new blocks may be ready at once -/
namespace Go.SL
set_option linter.all false
open Go Go.RowKit Go.Shelf
open Go.Proofs (Enters enters_of)
/-- What lays new blocks: what it names, and the blocks. -/
structure GE where
  α : Type
  V : α → Value
  LL : α → List (Nat × Obj)
  x0 : α
inductive Kb
  | quiet
  | pure
  | grow (e : GE)
  | turn
abbrev Kbs := Nat → Kb
def Kb.isGrow : Kb → Bool
  | .grow _ => true
  | _ => false
def Kb.isTurn : Kb → Bool
  | .turn => true
  | _ => false
def Kb.isQuiet : Kb → Bool
  | .quiet => true
  | _ => false
section
variable {c : Cx} {X : XP} {S : List (Nat × Obj)} {ops : Array Oper} {md : Region.Mode}
def Fresh (LL : List (Nat × Obj)) (w w' : World) : Prop := Keep [] w w' ∧ (∀ p ∈ LL, w.heap.size ≤ p.1 ∧ w'.heap[p.1]? = some p.2) ∧ LL.Pairwise fun p q => p.1 ≠ q.1
def YG (c : Cx) (X : XP) (S : List (Nat × Obj)) (ops : Array Oper) (o : Oper) (e : GE) (a : Act) : Prop :=
  Region.wanted o (yielded ops a.tmps) = true ∧ ∀ E, SubS S E → ∀ w, St c E X w → actAt c o a w fun u w' => ∃ x, u = e.V x ∧ Fresh (e.LL x) w w'
theorem YG.same {o : Oper} {e : GE} {a a' : Act} (hy : YG c X S ops o e a) (he : execOp a'.eval o = execOp a.eval o) (hw : Region.wanted o (yielded ops a'.tmps) = Region.wanted o (yielded ops a.tmps)) : YG c X S ops o e a' :=
  ⟨hw.trans hy.1, fun E hE w hs => (hy.2 E hE w hs).same he⟩
def YT (c : Cx) (E : List (Nat × Obj)) (X : XP) (ops : Array Oper) (o : Oper) {α : Type} (V : α → Value) (G : α → List (Nat × Obj)) (a : Act) : Prop :=
  Region.wanted o (yielded ops a.tmps) = true ∧ ∀ w, St c E X w → actAt c o a w fun u w' => ∃ x, u = V x ∧ St c (G x) X w'
def stB (c : Cx) (X : XP) (S : List (Nat × Obj)) (ops : Array Oper) (tb : Kbs) (i : Nat) (K : List (Nat × Obj) → Act → Prop) (E : List (Nat × Obj)) (a : Act) : Prop :=
  ∃ o, ops[i]? = some o ∧ match tb i with
    | .quiet => ∃ v, YQ c E X ops o v a ∧ K E (a.put o.dst v)
    | .pure => ∃ v, YP c X S ops o v a ∧ K E (a.put o.dst v)
    | .grow e => (YG c X S ops o e a ∧ ∀ x, K (e.LL x ++ E) (a.put o.dst (e.V x))) ∨ (Region.wanted o (yielded ops a.tmps) = false ∧ K E (a.put o.dst undef))
    | .turn => (∃ (α : Type) (V : α → Value) (G : α → List (Nat × Obj)), YT c E X ops o V G a ∧ ∀ x, SubS S (G x) ∧ K (G x) (a.put o.dst (V x))) ∨ (Region.wanted o (yielded ops a.tmps) = false ∧ K E (a.put o.dst undef))
def anyB (c : Cx) (X : XP) (S : List (Nat × Obj)) (ops : Array Oper) (md : Region.Mode) (tb : Kbs) (m : Nat) (T : List (Nat × Obj) → Array Bool → Act → Prop) : Nat → Array Bool → List (Nat × Obj) → Act → Prop
  | 0, listed, E, a => T E listed a
  | f + 1, listed, E, a => Region.ready md ops listed ≠ [] ∧ ∀ i ∈ Region.ready md ops listed, i < m ∧ stB c X S ops tb i (fun E' a' => anyB c X S ops md tb m T f (listed.setIfInBounds i true) E' a') E a
theorem SubS.grow {E LL : List (Nat × Obj)} (h : SubS S E) : SubS S (LL ++ E) := fun p hp => List.mem_append_right _ (h p hp)
theorem YQ.perm {E E' : List (Nat × Obj)} {o : Oper} {v : Value} {a : Act} (hy : YQ c E X ops o v a) (hp : E.Perm E') : YQ c E' X ops o v a := by
  rcases hy with ⟨h1, h2⟩ | h
  · exact .inl ⟨h1, fun w hs => h2 w (hs.perm hp.symm)⟩
  · exact .inr h
theorem anyB_perm {tb : Kbs} {m : Nat} {T : List (Nat × Obj) → Array Bool → Act → Prop} (hTp : ∀ E E' listed a, E.Perm E' → T E listed a → T E' listed a) :
    ∀ (f : Nat) (listed : Array Bool) (E E' : List (Nat × Obj)) (a : Act), E.Perm E' → anyB c X S ops md tb m T f listed E a → anyB c X S ops md tb m T f listed E' a
  | 0, listed, E, E', a, hp, h => hTp _ _ _ _ hp h
  | f + 1, listed, E, E', a, hp, h => by
    refine ⟨h.1, fun i hi => ⟨(h.2 i hi).1, ?_⟩⟩
    obtain ⟨o, ho, hm⟩ := (h.2 i hi).2
    refine ⟨o, ho, ?_⟩
    cases ha : tb i with
    | quiet => rw [ha] at hm; obtain ⟨v, h1, h2⟩ := hm; exact ⟨v, h1.perm hp, anyB_perm hTp f _ _ _ _ hp h2⟩
    | pure => rw [ha] at hm; obtain ⟨v, h1, h2⟩ := hm; exact ⟨v, h1, anyB_perm hTp f _ _ _ _ hp h2⟩
    | grow e =>
      rw [ha] at hm
      rcases hm with ⟨h1, h2⟩ | ⟨h1, h2⟩
      · exact .inl ⟨h1, fun x => anyB_perm hTp f _ _ _ _ (hp.append_left _) (h2 x)⟩
      · exact .inr ⟨h1, anyB_perm hTp f _ _ _ _ hp h2⟩
    | turn =>
      rw [ha] at hm
      rcases hm with ⟨α, V, G, ⟨h1, h2⟩, h3⟩ | ⟨h1, h2⟩
      · exact .inl ⟨α, V, G, ⟨h1, fun w hs => h2 w (hs.perm hp.symm)⟩, h3⟩
      · exact .inr ⟨h1, anyB_perm hTp f _ _ _ _ hp h2⟩
theorem stB_wp {tb : Kbs} {i : Nat} {K : List (Nat × Obj) → Act → Prop} {K' : Act → World → Prop} {Q' : Exit → Act → World → Prop} {E : List (Nat × Obj)} {a : Act} {w : World} (hnd : ∀ (j : Nat) (o : Oper), ops[j]? = some o → noDefer o.op = true)
    (hs : St c E X w) (hE : SubS S E) (h : ∀ E a w', SubS S E → St c E X w' → K E a → K' a w') (hh : stB c X S ops tb i K E a) : wpOpIn (FW c.ro) 0 c.P ops Q' i K' a w := by
  obtain ⟨o, ho, hm⟩ := hh
  have no : Region.wanted o (yielded ops a.tmps) = false → K E (a.put o.dst undef) → wpOpIn (FW c.ro) 0 c.P ops Q' i K' a w := fun hw hk => by
    unfold wpOpIn
    simp only [ho]
    rw [if_neg (by rw [hw]; simp)]
    exact ⟨wide_about, h E _ w hE hs hk⟩
  have yes : ∀ v, YQ c E X ops o v a → K E (a.put o.dst v) → wpOpIn (FW c.ro) 0 c.P ops Q' i K' a w := fun v hy hk => by
    rcases hy with ⟨hw, hq⟩ | ⟨hw, rfl⟩
    · exact act_wp ho (hnd i o ho) hw (hq w hs) fun u w' ⟨e, hk'⟩ => h E _ w' hE (hs.more hk') (e ▸ hk)
    · exact no hw hk
  cases ha : tb i with
  | quiet => rw [ha] at hm; obtain ⟨v, h1, h2⟩ := hm; exact yes v h1 h2
  | pure => rw [ha] at hm; obtain ⟨v, h1, h2⟩ := hm; exact yes v (h1.quiet hE) h2
  | grow e =>
    rw [ha] at hm
    rcases hm with ⟨⟨hw, hr⟩, h2⟩ | ⟨hw, h2⟩
    · exact act_wp ho (hnd i o ho) hw (hr E hE w hs) fun u w' ⟨x, e', hk, hf, hd⟩ => h _ _ w' hE.grow (hs.freshs hk hf hd) (e' ▸ (h2 x))
    · exact no hw h2
  | turn =>
    rw [ha] at hm
    rcases hm with ⟨α, V, G, ⟨hw, hr⟩, h2⟩ | ⟨hw, h2⟩
    · exact act_wp ho (hnd i o ho) hw (hr w hs) fun u w' ⟨x, e', hs'⟩ => h _ _ w' (h2 x).1 hs' (e' ▸ (h2 x).2)
    · exact no hw h2
theorem anyB_wp {tb : Kbs} {m g : Nat} {T : List (Nat × Obj) → Array Bool → Act → Prop} {Q' : Exit → Act → World → Prop} (hnd : ∀ (j : Nat) (o : Oper), ops[j]? = some o → noDefer o.op = true)
    (hT : ∀ E listed a w, SubS S E → St c E X w → T E listed a → wpAnyIn (FW c.ro) 0 c.P md ops Q' g listed a w) :
    ∀ (f : Nat) (listed : Array Bool) (E : List (Nat × Obj)) (a : Act) (w : World), SubS S E → St c E X w → anyB c X S ops md tb m T f listed E a → wpAnyIn (FW c.ro) 0 c.P md ops Q' (f + g) listed a w
  | 0, listed, E, a, w, hE, hw, h => by rw [Nat.zero_add]; exact hT _ _ _ _ hE hw h
  | f + 1, listed, E, a, w, hE, hw, h => by
    rw [show f + 1 + g = (f + g) + 1 from by omega]
    exact ⟨fun h0 => absurd h0 h.1, fun i hi => stB_wp hnd hw hE (fun E' a' w' hE' hw' h' => anyB_wp hnd hT f _ E' a' w' hE' hw' h') (h.2 i hi).2⟩
def BoundB (md : Region.Mode) (ops : Array Oper) (tb : Kbs) (m i : Nat) : Prop :=
  tb i = .quiet → ∀ j, j < m → tb j = .turn → ∀ listed, i ∈ Region.ready md ops listed → j ∈ Region.ready md ops listed → False
/-- Nothing but what lays new blocks can be carried out ahead of i. -/
def okG (md : Region.Mode) (ops : Array Oper) (tb : Kbs) (i : Nat) : Nat → Array Bool → Bool
  | 0, listed => (Region.ready md ops listed).all fun j => j == i
  | f + 1, listed => (Region.ready md ops listed).all fun j => j == i || ((tb j).isGrow && okG md ops tb i f (listed.setIfInBounds j true))
theorem anyB_first {tb : Kbs} {m i : Nat} {oi : Oper} {v : Value} {T : List (Nat × Obj) → Array Bool → Act → Prop} (hi : ops[i]? = some oi) (hai : tb i = .quiet ∨ tb i = .pure) (hsel : ∀ (j : Nat) (o : Oper) cs b, ops[j]? = some o → o.op ≠ .select cs b)
    (hbd : BoundB md ops tb m i)
    (hlt : ∀ listed, HeadInv md ops m listed → listed.getD i true = false → ∀ j ∈ Region.ready md ops listed, j < m)
    (hT : ∀ E listed a, T E listed a → ∀ j ∈ Region.ready md ops listed, m ≤ j) :
    ∀ (f : Nat) (listed : Array Bool) (E : List (Nat × Obj)) (a : Act), HeadInv md ops m listed →
      (∀ j oj, ops[j]? = some oj → j ≠ i → listed.getD j true = false → (∀ e ∈ oj.after, Region.binds md e = true → e.on ≠ i) → oi.apart ops oj = true) →
      SubS S E → i ∈ Region.ready md ops listed → (YQ c E X ops oi v a ∧ (tb i = .pure → YP c X S ops oi v a)) →
      anyB c X S ops md tb m T f (listed.setIfInBounds i true) E (a.put oi.dst v) → anyB c X S ops md tb m T (f + 1) listed E a := by
  have self : ∀ {K : List (Nat × Obj) → Act → Prop} {E : List (Nat × Obj)} {a : Act}, (YQ c E X ops oi v a ∧ (tb i = .pure → YP c X S ops oi v a)) → K E (a.put oi.dst v) → stB c X S ops tb i K E a := by
    intro K E a hy H
    refine ⟨oi, hi, ?_⟩
    rcases hai with h | h <;> rw [h]
    · exact ⟨v, hy.1, H⟩
    · exact ⟨v, hy.2 h, H⟩
  intro f
  induction f with
  | zero =>
    intro listed E a inv _ hSE hr hy H
    refine ⟨fun h => (by rw [h] at hr; cases hr), fun j hj => ⟨hlt _ inv (mem_ready.1 hr).1 j hj, ?_⟩⟩
    by_cases hji : j = i
    · subst hji; exact self hy H
    · have h1 := hT _ _ _ H j (ready_mono hj hji)
      have h2 := hlt _ inv (mem_ready.1 hr).1 j hj
      omega
  | succ f ih =>
    intro listed E a inv hfree hSE hr hy H
    refine ⟨fun h => (by rw [h] at hr; cases hr), fun j hj => ?_⟩
    have hjm := hlt _ inv (mem_ready.1 hr).1 j hj
    refine ⟨hjm, ?_⟩
    by_cases hji : j = i
    · subst hji; exact self hy H
    · obtain ⟨oj, hoj, hm⟩ := (H.2 j (ready_mono hj hji)).2
      obtain ⟨hjun, oj', hoj', hall⟩ := mem_ready.1 hj
      rw [hoj] at hoj'
      cases hoj'
      have hnot : ∀ e ∈ oj.after, Region.binds md e = true → e.on ≠ i := fun e he hb heq => by
        have h2 := hall e he hb
        rw [heq, getD_both (mem_ready.1 hr).1] at h2
        cases h2
      obtain ⟨h1, h2, h3⟩ := Oper.apart_spec (hfree j oj hoj hji hjun hnot)
      have hfree' : ∀ k ok, ops[k]? = some ok → k ≠ i → (listed.setIfInBounds j true).getD k true = false →
          (∀ e ∈ ok.after, Region.binds md e = true → e.on ≠ i) → oi.apart ops ok = true := fun k ok hk hki hun hno => by
        refine hfree k ok hk hki ?_ hno
        by_cases hjk : j = k
        · subst hjk; exact hjun
        · rw [getD_set_ne true hjk] at hun; exact hun
      have back1 := fun u => (execOp_put oj (fun cs b => hsel j oj cs b hoj) a oi.dst u h1)
      have back2 := fun u => (wanted_put oj a oi.dst u h1)
      have forth1 := fun u => (execOp_put oi (fun cs b => hsel i oi cs b hi) a oj.dst u h3)
      have forth2 := fun u => (wanted_put oi a oj.dst u h3)
      have go : ∀ E' u, SubS S E' → (E.Sublist E' ∨ tb i = .pure) → anyB c X S ops md tb m T f ((listed.setIfInBounds i true).setIfInBounds j true) E' ((a.put oi.dst v).put oj.dst u) →
          anyB c X S ops md tb m T (f + 1) (listed.setIfInBounds j true) E' (a.put oj.dst u) := fun E' u hSE' hsub hK => by
        refine ih (listed.setIfInBounds j true) E' (a.put oj.dst u) (inv.set hj hjm) hfree' hSE' (ready_mono hr (Ne.symm hji)) ⟨?_, fun hp => (hy.2 hp).same (forth1 u) (forth2 u)⟩ ?_
        · rcases hsub with hsub | hp
          · exact (hy.1.weak hsub).same (forth1 u) (forth2 u)
          · exact ((hy.2 hp).same (forth1 u) (forth2 u)).quiet hSE'
        · rw [Array.setIfInBounds_comm _ _ hji, ← Act.put_comm a v u h2]
          exact hK
      refine ⟨oj, hoj, ?_⟩
      cases ha : tb j with
      | quiet => rw [ha] at hm; obtain ⟨u, g1, g2⟩ := hm; exact ⟨u, g1.same (back1 v).symm (back2 v).symm, go E u hSE (.inl (List.Sublist.refl _)) g2⟩
      | pure => rw [ha] at hm; obtain ⟨u, g1, g2⟩ := hm; exact ⟨u, g1.same (back1 v).symm (back2 v).symm, go E u hSE (.inl (List.Sublist.refl _)) g2⟩
      | grow e =>
        rw [ha] at hm
        rcases hm with ⟨g1, g2⟩ | ⟨g1, g2⟩
        · exact .inl ⟨g1.same (back1 v).symm (back2 v).symm, fun x => go _ _ hSE.grow (.inl (List.sublist_append_right _ _)) (g2 x)⟩
        · exact .inr ⟨(back2 v).symm.trans g1, go E undef hSE (.inl (List.Sublist.refl _)) g2⟩
      | turn =>
        rw [ha] at hm
        rcases hm with ⟨α, V, G, ⟨g0, g1⟩, g2⟩ | ⟨g1, g2⟩
        · refine .inl ⟨α, V, G, ⟨(back2 v).symm.trans g0, fun w hs => (g1 w hs).same (back1 v).symm⟩, fun x => ⟨(g2 x).1, go _ _ (g2 x).1 ?_ (g2 x).2⟩⟩
          rcases hai with hq | hp
          · exact (hbd hq j hjm ha listed hr hj).elim
          · exact .inr hp
        · exact .inr ⟨(back2 v).symm.trans g1, go E undef hSE (.inl (List.Sublist.refl _)) g2⟩
theorem anyB_off {tb : Kbs} {m i : Nat} {oi : Oper} {ei : GE} {T : List (Nat × Obj) → Array Bool → Act → Prop} (hi : ops[i]? = some oi) (hai : tb i = .grow ei) (hsel : ∀ (j : Nat) (o : Oper) cs b, ops[j]? = some o → o.op ≠ .select cs b)
    (hlt : ∀ listed, HeadInv md ops m listed → listed.getD i true = false → ∀ j ∈ Region.ready md ops listed, j < m)
    (hT : ∀ E listed a, T E listed a → ∀ j ∈ Region.ready md ops listed, m ≤ j) :
    ∀ (f : Nat) (listed : Array Bool) (E : List (Nat × Obj)) (a : Act), HeadInv md ops m listed →
      (∀ j oj, ops[j]? = some oj → j ≠ i → listed.getD j true = false → (∀ e ∈ oj.after, Region.binds md e = true → e.on ≠ i) → oi.apart ops oj = true) →
      SubS S E → i ∈ Region.ready md ops listed → Region.wanted oi (yielded ops a.tmps) = false →
      anyB c X S ops md tb m T f (listed.setIfInBounds i true) E (a.put oi.dst undef) → anyB c X S ops md tb m T (f + 1) listed E a := by
  have self : ∀ {K : List (Nat × Obj) → Act → Prop} {E : List (Nat × Obj)} {a : Act}, Region.wanted oi (yielded ops a.tmps) = false → K E (a.put oi.dst undef) → stB c X S ops tb i K E a := by
    intro K E a hy H
    refine ⟨oi, hi, ?_⟩
    rw [hai]
    exact .inr ⟨hy, H⟩
  intro f
  induction f with
  | zero =>
    intro listed E a inv _ hSE hr hy H
    refine ⟨fun h => (by rw [h] at hr; cases hr), fun j hj => ⟨hlt _ inv (mem_ready.1 hr).1 j hj, ?_⟩⟩
    by_cases hji : j = i
    · subst hji; exact self hy H
    · have h1 := hT _ _ _ H j (ready_mono hj hji)
      have h2 := hlt _ inv (mem_ready.1 hr).1 j hj
      omega
  | succ f ih =>
    intro listed E a inv hfree hSE hr hy H
    refine ⟨fun h => (by rw [h] at hr; cases hr), fun j hj => ?_⟩
    have hjm := hlt _ inv (mem_ready.1 hr).1 j hj
    refine ⟨hjm, ?_⟩
    by_cases hji : j = i
    · subst hji; exact self hy H
    · obtain ⟨oj, hoj, hm⟩ := (H.2 j (ready_mono hj hji)).2
      obtain ⟨hjun, oj', hoj', hall⟩ := mem_ready.1 hj
      rw [hoj] at hoj'
      cases hoj'
      have hnot : ∀ e ∈ oj.after, Region.binds md e = true → e.on ≠ i := fun e he hb heq => by
        have h2 := hall e he hb
        rw [heq, getD_both (mem_ready.1 hr).1] at h2
        cases h2
      obtain ⟨h1, h2, h3⟩ := Oper.apart_spec (hfree j oj hoj hji hjun hnot)
      have hfree' : ∀ k ok, ops[k]? = some ok → k ≠ i → (listed.setIfInBounds j true).getD k true = false →
          (∀ e ∈ ok.after, Region.binds md e = true → e.on ≠ i) → oi.apart ops ok = true := fun k ok hk hki hun hno => by
        refine hfree k ok hk hki ?_ hno
        by_cases hjk : j = k
        · subst hjk; exact hjun
        · rw [getD_set_ne true hjk] at hun; exact hun
      have back1 := fun u => (execOp_put oj (fun cs b => hsel j oj cs b hoj) a oi.dst u h1)
      have back2 := fun u => (wanted_put oj a oi.dst u h1)
      have forth1 := fun u => (execOp_put oi (fun cs b => hsel i oi cs b hi) a oj.dst u h3)
      have forth2 := fun u => (wanted_put oi a oj.dst u h3)
      have go : ∀ E' u, SubS S E' → anyB c X S ops md tb m T f ((listed.setIfInBounds i true).setIfInBounds j true) E' ((a.put oi.dst undef).put oj.dst u) →
          anyB c X S ops md tb m T (f + 1) (listed.setIfInBounds j true) E' (a.put oj.dst u) := fun E' u hSE' hK => by
        refine ih (listed.setIfInBounds j true) E' (a.put oj.dst u) (inv.set hj hjm) hfree' hSE' (ready_mono hr (Ne.symm hji)) ((forth2 u).trans hy) ?_
        rw [Array.setIfInBounds_comm _ _ hji, ← Act.put_comm a undef u h2]
        exact hK
      refine ⟨oj, hoj, ?_⟩
      cases ha : tb j with
      | quiet => rw [ha] at hm; obtain ⟨u, g1, g2⟩ := hm; exact ⟨u, g1.same (back1 undef).symm (back2 undef).symm, go E u hSE g2⟩
      | pure => rw [ha] at hm; obtain ⟨u, g1, g2⟩ := hm; exact ⟨u, g1.same (back1 undef).symm (back2 undef).symm, go E u hSE g2⟩
      | grow e =>
        rw [ha] at hm
        rcases hm with ⟨g1, g2⟩ | ⟨g1, g2⟩
        · exact .inl ⟨g1.same (back1 undef).symm (back2 undef).symm, fun x => go _ _ hSE.grow (g2 x)⟩
        · exact .inr ⟨(back2 undef).symm.trans g1, go E undef hSE g2⟩
      | turn =>
        rw [ha] at hm
        rcases hm with ⟨α, V, G, ⟨g0, g1⟩, g2⟩ | ⟨g1, g2⟩
        · exact .inl ⟨α, V, G, ⟨(back2 undef).symm.trans g0, fun w hs => (g1 w hs).same (back1 undef).symm⟩, fun x => ⟨(g2 x).1, go _ _ (g2 x).1 (g2 x).2⟩⟩
        · exact .inr ⟨(back2 undef).symm.trans g1, go E undef hSE g2⟩
theorem anyB_grow {tb : Kbs} {m i : Nat} {oi : Oper} {ei : GE} {T : List (Nat × Obj) → Array Bool → Act → Prop} (hi : ops[i]? = some oi) (hai : tb i = .grow ei) (hsel : ∀ (j : Nat) (o : Oper) cs b, ops[j]? = some o → o.op ≠ .select cs b)
    (hTp : ∀ E E' listed a, E.Perm E' → T E listed a → T E' listed a)
    (hlt : ∀ listed, HeadInv md ops m listed → listed.getD i true = false → ∀ j ∈ Region.ready md ops listed, j < m)
    (hT : ∀ E listed a, T E listed a → ∀ j ∈ Region.ready md ops listed, m ≤ j) :
    ∀ (f : Nat) (listed : Array Bool) (E : List (Nat × Obj)) (a : Act), HeadInv md ops m listed →
      (∀ j oj, ops[j]? = some oj → j ≠ i → listed.getD j true = false → (∀ e ∈ oj.after, Region.binds md e = true → e.on ≠ i) → oi.apart ops oj = true) →
      SubS S E → i ∈ Region.ready md ops listed → okG md ops tb i f listed = true → YG c X S ops oi ei a →
      (∀ x, anyB c X S ops md tb m T f (listed.setIfInBounds i true) (ei.LL x ++ E) (a.put oi.dst (ei.V x))) → anyB c X S ops md tb m T (f + 1) listed E a := by
  have self : ∀ {K : List (Nat × Obj) → Act → Prop} {E : List (Nat × Obj)} {a : Act}, YG c X S ops oi ei a → (∀ x, K (ei.LL x ++ E) (a.put oi.dst (ei.V x))) → stB c X S ops tb i K E a := by
    intro K E a hy H
    refine ⟨oi, hi, ?_⟩
    rw [hai]
    exact .inl ⟨hy, H⟩
  intro f
  induction f with
  | zero =>
    intro listed E a inv _ hSE hr hok hy H
    refine ⟨fun h => (by rw [h] at hr; cases hr), fun j hj => ⟨hlt _ inv (mem_ready.1 hr).1 j hj, ?_⟩⟩
    by_cases hji : j = i
    · subst hji; exact self hy H
    · have h1 := hT _ _ _ (H ei.x0) j (ready_mono hj hji)
      have h2 := hlt _ inv (mem_ready.1 hr).1 j hj
      omega
  | succ f ih =>
    intro listed E a inv hfree hSE hr hok hy H
    refine ⟨fun h => (by rw [h] at hr; cases hr), fun j hj => ?_⟩
    have hjm := hlt _ inv (mem_ready.1 hr).1 j hj
    refine ⟨hjm, ?_⟩
    by_cases hji : j = i
    · subst hji; exact self hy H
    · unfold okG at hok
      have hokj := List.all_eq_true.1 hok j hj
      simp only [Bool.or_eq_true, beq_iff_eq, hji, false_or, Bool.and_eq_true] at hokj
      obtain ⟨hgj, hok'⟩ := hokj
      obtain ⟨ej, ha⟩ : ∃ ej, tb j = .grow ej := by
        cases h : tb j with
        | grow e => exact ⟨e, rfl⟩
        | _ => rw [h] at hgj; cases hgj
      obtain ⟨hjun, oj, hoj, hall⟩ := mem_ready.1 hj
      have hnot : ∀ e ∈ oj.after, Region.binds md e = true → e.on ≠ i := fun e he hb heq => by
        have h2 := hall e he hb
        rw [heq, getD_both (mem_ready.1 hr).1] at h2
        cases h2
      obtain ⟨h1, h2, h3⟩ := Oper.apart_spec (hfree j oj hoj hji hjun hnot)
      have hfree' : ∀ k ok, ops[k]? = some ok → k ≠ i → (listed.setIfInBounds j true).getD k true = false →
          (∀ e ∈ ok.after, Region.binds md e = true → e.on ≠ i) → oi.apart ops ok = true := fun k ok hk hki hun hno => by
        refine hfree k ok hk hki ?_ hno
        by_cases hjk : j = k
        · subst hjk; exact hjun
        · rw [getD_set_ne true hjk] at hun; exact hun
      have back1 := fun u => (execOp_put oj (fun cs b => hsel j oj cs b hoj) a oi.dst u h1)
      have back2 := fun u => (wanted_put oj a oi.dst u h1)
      have forth1 := fun u => (execOp_put oi (fun cs b => hsel i oi cs b hi) a oj.dst u h3)
      have forth2 := fun u => (wanted_put oi a oj.dst u h3)
      have hstep : ∀ x, (YG c X S ops oj ej (a.put oi.dst (ei.V x)) ∧ ∀ y, anyB c X S ops md tb m T f ((listed.setIfInBounds i true).setIfInBounds j true) (ej.LL y ++ (ei.LL x ++ E)) ((a.put oi.dst (ei.V x)).put oj.dst (ej.V y))) ∨
          (Region.wanted oj (yielded ops (a.put oi.dst (ei.V x)).tmps) = false ∧ anyB c X S ops md tb m T f ((listed.setIfInBounds i true).setIfInBounds j true) (ei.LL x ++ E) ((a.put oi.dst (ei.V x)).put oj.dst undef)) := fun x => by
        obtain ⟨o', ho', hm⟩ := ((H x).2 j (ready_mono hj hji)).2
        rw [hoj] at ho'
        cases ho'
        rw [ha] at hm
        exact hm
      refine ⟨oj, hoj, ?_⟩
      rw [ha]
      cases hw : Region.wanted oj (yielded ops a.tmps) with
      | true =>
        have hpos : ∀ x, YG c X S ops oj ej (a.put oi.dst (ei.V x)) ∧ ∀ y, anyB c X S ops md tb m T f ((listed.setIfInBounds i true).setIfInBounds j true) (ej.LL y ++ (ei.LL x ++ E)) ((a.put oi.dst (ei.V x)).put oj.dst (ej.V y)) := fun x => by
          rcases hstep x with h | h
          · exact h
          · have := (back2 (ei.V x)).symm.trans h.1; rw [hw] at this; cases this
        refine .inl ⟨(hpos ei.x0).1.same (back1 _).symm (back2 _).symm, fun y => ?_⟩
        refine ih (listed.setIfInBounds j true) (ej.LL y ++ E) (a.put oj.dst (ej.V y)) (inv.set hj hjm) hfree' hSE.grow (ready_mono hr (Ne.symm hji)) hok' (hy.same (forth1 _) (forth2 _)) fun x => ?_
        rw [Array.setIfInBounds_comm _ _ hji, ← Act.put_comm a _ _ h2]
        refine anyB_perm hTp f _ _ _ _ ?_ ((hpos x).2 y)
        rw [← List.append_assoc, ← List.append_assoc]
        exact List.Perm.append_right _ List.perm_append_comm
      | false =>
        have hneg : ∀ x, anyB c X S ops md tb m T f ((listed.setIfInBounds i true).setIfInBounds j true) (ei.LL x ++ E) ((a.put oi.dst (ei.V x)).put oj.dst undef) := fun x => by
          rcases hstep x with h | h
          · have := (back2 (ei.V x)).symm.trans h.1.1; rw [hw] at this; cases this
          · exact h.2
        refine .inr ⟨rfl, ?_⟩
        refine ih (listed.setIfInBounds j true) E (a.put oj.dst undef) (inv.set hj hjm) hfree' hSE (ready_mono hr (Ne.symm hji)) hok' (hy.same (forth1 _) (forth2 _)) fun x => ?_
        rw [Array.setIfInBounds_comm _ _ hji, ← Act.put_comm a _ _ h2]
        exact hneg x
/-- The head in an order of one's own. -/
def wlkB (c : Cx) (X : XP) (S : List (Nat × Obj)) (ops : Array Oper) (tb : Kbs) (T : List (Nat × Obj) → Act → Prop) : List Nat → List (Nat × Obj) → Act → Prop
  | [], E, a => T E a
  | k :: rest, E, a => stB c X S ops tb k (fun E' a' => wlkB c X S ops tb T rest E' a') E a
def lexB (md : Region.Mode) (ops : Array Oper) (tb : Kbs) (m g : Nat) : List Nat → Array Bool → Bool
  | [], listed => Region.seqB md ops g m listed
  | k :: r, listed => Nat.blt k m && (match (tb k).isTurn with
      | true => decide (Region.ready md ops listed = [k])
      | false => (Region.ready md ops listed).contains k && Region.free md ops listed k && (!(tb k).isGrow || okG md ops tb k r.length listed)) && lexB md ops tb m g r (listed.setIfInBounds k true)
theorem anyB_lex {tb : Kbs} {m g : Nat} {T : List (Nat × Obj) → Act → Prop} (hsel : Region.noSelect ops = true) (hTp : ∀ E E' a, E.Perm E' → T E a → T E' a) (hbd : ∀ i, i < m → BoundB md ops tb m i) (hlt : ∀ i, i < m → ∀ listed, HeadInv md ops m listed → listed.getD i true = false → ∀ j ∈ Region.ready md ops listed, j < m)
    (hseq : ∀ listed, Region.seqB md ops g m listed = true → ∀ j ∈ Region.ready md ops listed, m ≤ j) :
    ∀ (l : List Nat) (listed : Array Bool) (E : List (Nat × Obj)) (a : Act), HeadInv md ops m listed → SubS S E →
    lexB md ops tb m g l listed = true → wlkB c X S ops tb T l E a →
    anyB c X S ops md tb m (fun E' listed' a' => Region.seqB md ops g m listed' = true ∧ T E' a') l.length listed E a
  | [], listed, E, a, _, _, hB, h => ⟨by simpa [lexB] using hB, h⟩
  | k :: l, listed, E, a, inv, hSE, hB, h => by
    simp only [lexB, Bool.and_eq_true] at hB
    obtain ⟨⟨hkm, hr⟩, hB'⟩ := hB
    have hkm : k < m := by
      have : k + 1 ≤ m := Nat.le_of_ble_eq_true hkm
      omega
    have hr' : k ∈ Region.ready md ops listed := by
      cases ht : (tb k).isTurn with
      | true => rw [ht] at hr; simp only [decide_eq_true_eq] at hr; rw [hr]; exact List.mem_cons_self
      | false => rw [ht] at hr; simp only [Bool.and_eq_true] at hr; simpa using hr.1.1
    have next : ∀ E' a', SubS S E' → wlkB c X S ops tb T l E' a' → anyB c X S ops md tb m (fun E' listed' a' => Region.seqB md ops g m listed' = true ∧ T E' a') l.length (listed.setIfInBounds k true) E' a' := fun E' a' hSE' hw =>
      anyB_lex hsel hTp hbd hlt hseq l _ E' a' (inv.set hr' hkm) hSE' hB' hw
    obtain ⟨o, h0, hm⟩ := h
    have quiet : (tb k).isTurn = false → ∀ v, (tb k = .quiet ∨ tb k = .pure) → (YQ c E X ops o v a ∧ (tb k = .pure → YP c X S ops o v a)) → wlkB c X S ops tb T l E (a.put o.dst v) →
        anyB c X S ops md tb m (fun E' listed' a' => Region.seqB md ops g m listed' = true ∧ T E' a') (l.length + 1) listed E a := fun hnt v hai hy hw => by
      rw [hnt] at hr
      simp only [Bool.and_eq_true] at hr
      exact anyB_first h0 hai (Region.noSelect_spec hsel) (hbd k hkm) (hlt k hkm) (fun E' listed' a' hL => hseq _ hL.1) l.length listed E a inv (Region.free_spec h0 hr.1.2) hSE hr' hy (next _ _ hSE hw)
    cases ha : tb k with
    | quiet => rw [ha] at hm; obtain ⟨v, hy, hw⟩ := hm; exact quiet (by rw [ha]; rfl) v (.inl ha) ⟨hy, fun e => by rw [ha] at e; cases e⟩ hw
    | pure => rw [ha] at hm; obtain ⟨v, hy, hw⟩ := hm; exact quiet (by rw [ha]; rfl) v (.inr ha) ⟨hy.quiet hSE, fun _ => hy⟩ hw
    | grow e =>
      rw [ha] at hm hr
      simp only [Kb.isTurn, Kb.isGrow, Bool.not_true, Bool.false_or, Bool.and_eq_true] at hr
      rcases hm with ⟨h1, h2⟩ | ⟨h1, h2⟩
      · exact anyB_grow h0 ha (Region.noSelect_spec hsel) (fun E E' listed a hp hT => ⟨hT.1, hTp _ _ _ hp hT.2⟩) (hlt k hkm) (fun E' listed' a' hL => hseq _ hL.1) l.length listed E a inv (Region.free_spec h0 hr.1.2) hSE hr' hr.2 h1 fun x => next _ _ hSE.grow (h2 x)
      · exact anyB_off h0 ha (Region.noSelect_spec hsel) (hlt k hkm) (fun E' listed' a' hL => hseq _ hL.1) l.length listed E a inv (Region.free_spec h0 hr.1.2) hSE hr' h1 (next _ _ hSE h2)
    | turn =>
      rw [ha] at hm hr
      simp only [Kb.isTurn, decide_eq_true_eq] at hr
      refine ⟨fun e => (by rw [e] at hr'; cases hr'), fun i hi => ?_⟩
      rw [hr] at hi
      have hik : i = k := by simpa using hi
      subst hik
      refine ⟨hkm, o, h0, ?_⟩
      rw [ha]
      rcases hm with ⟨α, V, G, h1, h2⟩ | ⟨h1, h2⟩
      · exact .inl ⟨α, V, G, h1, fun x => ⟨(h2 x).1, next _ _ (h2 x).1 (h2 x).2⟩⟩
      · exact .inr ⟨h1, next _ _ hSE h2⟩
/-- The closed facts. -/
def lookKb : List (Nat × Kb) → Kbs
  | [], _ => .quiet
  | (j, p) :: r, k => match Nat.beq k j with | true => p | false => lookKb r k
def crossBB (md : Region.Mode) (ops : Array Oper) (tb : Kbs) (m : Nat) : Bool :=
  (List.range m).all fun j => if (tb j).isTurn then (List.range m).all fun i => !(tb i).isQuiet || onB md ops j i || onB md ops i j else true
theorem cross_boundB {tb : Kbs} {m : Nat} (h : crossBB md ops tb m = true) {i : Nat} (hi : i < m) : BoundB md ops tb m i := fun hq j hj he listed hir hjr => by
  have h1 := List.all_eq_true.1 h j (List.mem_range.2 hj)
  rw [he] at h1
  simp only [Kb.isTurn, if_true] at h1
  have h2 := List.all_eq_true.1 h1 i (List.mem_range.2 hi)
  rw [hq] at h2
  simp only [Kb.isQuiet, Bool.not_true, Bool.false_or, Bool.or_eq_true] at h2
  rcases h2 with h2 | h2
  · exact on_not h2 hjr hir
  · exact on_not h2 hir hjr
end
section
variable {c : Cx} {l : List (Nat × Value)} {L E : List (Nat × Obj)} {X : XP} {Q : Exit → Act → World → Prop} {d : List Deferred}
variable {ops : Array Oper} {rest : List Nat} {i k : Nat} {v : Value} {o : Oper} {tb : Kbs} {S : List (Nat × Obj)} {T : List (Nat × Obj) → Act → Prop}
def HB (c : Cx) (d : List Deferred) (l : List (Nat × Value)) (E : List (Nat × Obj)) (X : XP) (S : List (Nat × Obj)) (ops : Array Oper) (tb : Kbs) (rest : List Nat) (T : List (Nat × Obj) → Act → Prop) : Prop :=
  ∀ a, Fr c.n d l a → wlkB c X S ops tb T rest E a
def drawBB (ops : List Oper) (tb : Kbs) (m : Nat) (order : List Nat) : Bool :=
  (ops.all fun o => noDefer o.op) && Region.noSelect ops.toArray && Nat.ble m ops.length && Nat.beq order.length m &&
  (Nat.beq m ops.length || (Region.sinkB .any ops.toArray m && Region.chainB .any ops.toArray m)) && crossBB .any ops.toArray tb m &&
  lexB .any ops.toArray tb m (ops.length - m) order (Array.replicate ops.length false)
theorem HC_drawB {id : Nat} {ops : List Oper} (S : List (Nat × Obj)) (tab : List (Nat × Kb)) (m : Nat) (order : List Nat) (hm : c.P.follows .mixedOrders = true) (hB : drawBB ops (lookKb tab) m order = true) (hSL : SubS S L)
    (h : HB c d l L X S ops.toArray (lookKb tab) order (fun E a' => ∀ w, St c E X w → wpListIn (FW c.ro) 0 c.P ops.toArray Q (ops.drop m) a' w)) : HC c d l L X (.region id ops.toArray true) Q := fun a w hf hs => by
  simp only [drawBB, Bool.and_eq_true, Bool.or_eq_true] at hB
  obtain ⟨⟨⟨⟨⟨⟨h1, hsel⟩, hle⟩, hol⟩, hsc⟩, hcr⟩, hlex⟩ := hB
  have hle' := Nat.le_of_ble_eq_true hle
  have hol' := Nat.eq_of_beq_eq_true hol
  have hnd : ∀ (j : Nat) (o : Oper), ops.toArray[j]? = some o → noDefer o.op = true := fun j o ho => List.all_eq_true.1 h1 o (List.mem_of_getElem? (by simpa using ho))
  have hdl : (ops.drop m).length = ops.length - m := by simp
  have hlt : ∀ i, i < m → ∀ listed, HeadInv .any ops.toArray m listed → listed.getD i true = false → ∀ j ∈ Region.ready .any ops.toArray listed, j < m := by
    intro i hi listed inv hun j hj
    rcases Nat.lt_or_ge j m with hjm | hjm
    · exact hjm
    · have hjs : j < ops.length := by obtain ⟨_, oj, hoj, _⟩ := mem_ready.1 hj; simpa using (Array.getElem?_eq_some_iff.1 hoj).1
      rcases hsc with h0 | ⟨h2, h3⟩
      · have := Nat.eq_of_beq_eq_true h0; omega
      · exact absurd hj (tail_waits h2 h3 (by simpa using (show m < ops.length by omega)) inv _ i rfl hi hun j hjm)
  have inv0 : HeadInv .any ops.toArray m (Array.replicate ops.length false) :=
    ⟨by simp, fun j oj _ hl => (by rw [getD_replicate_false] at hl; cases hl), fun t _ ht => getD_in (by simpa using ht) (getD_replicate_false _ _)⟩
  have H := anyB_lex (c := c) (X := X) (md := .any) (g := ops.length - m) hsel (fun E E' a hp hT w hs => hT w (hs.perm hp.symm)) (fun i hi => cross_boundB hcr hi) hlt (fun listed hq => seqB_ready hq) order _ L a inv0 hSL hlex (h a hf)
  refine wpIn_region_any hm ?_
  have := anyB_wp (Q' := Q) (g := ops.length - m) hnd (fun E' listed a' w' _ hw' hL => by
    have := anyIn_of_seq (ro := c.ro) (P := c.P) (md := .any) (Q' := Q) (ops.drop m) m listed a' w' (fun j => by simp [List.getElem?_drop]) (by rw [hdl]; exact hL.1) (hL.2 w' hw')
    rwa [hdl] at this) _ _ _ _ _ hSL (show St c L X w.drew from hs.drew) H
  rw [hol', show m + (ops.length - m) = ops.toArray.size from by simp; omega] at this
  simpa using this
theorem HB_end {tail : List Oper} (h : HL c d l E X ops tail Q) : HB c d l E X S ops tb [] (fun E' a' => ∀ w, St c E' X w → wpListIn (FW c.ro) 0 c.P ops Q tail a' w) :=
  fun a hf w hs => h a w hf hs
theorem HB_r (hk : nth ops.toList k = some o) (hg : goes l ops o = some true) (hd : o.dst = some i) (hi : Nat.ble (i + 1) c.n = true) (hA : tb k = .quiet) (hr : RunsTo c d l E X o v) (h : HB c d ((i, v) :: l) E X S ops tb rest T) : HB c d l E X S ops tb (k :: rest) T := fun a hf => by
  refine ⟨o, nth_arr hk, ?_⟩
  rw [hA]
  refine ⟨v, .inl ⟨goes_wanted hf hg, fun w hs => act_run (hr a w hf hs) ⟨rfl, Keep.refl _ _⟩⟩, ?_⟩
  rw [hd]; exact h _ (hf.put (Nat.le_of_ble_eq_true hi))
theorem HB_p (hk : nth ops.toList k = some o) (hg : goes l ops o = some true) (hd : o.dst = some i) (hi : Nat.ble (i + 1) c.n = true) (hA : tb k = .pure) (hr : ∀ E', SubS S E' → RunsTo c d l E' X o v) (h : HB c d ((i, v) :: l) E X S ops tb rest T) : HB c d l E X S ops tb (k :: rest) T := fun a hf => by
  refine ⟨o, nth_arr hk, ?_⟩
  rw [hA]
  refine ⟨v, .inl ⟨goes_wanted hf hg, fun E' hE' w hs => act_run (hr E' hE' a w hf hs) ⟨rfl, Keep.refl _ _⟩⟩, ?_⟩
  rw [hd]; exact h _ (hf.put (Nat.le_of_ble_eq_true hi))
/-- What is passed over. -/
theorem HB_skip (hk : nth ops.toList k = some o) (hg : goes l ops o = some false) (hd : o.dst = some i) (hi : Nat.ble (i + 1) c.n = true) (h : HB c d ((i, undef) :: l) E X S ops tb rest T) : HB c d l E X S ops tb (k :: rest) T := fun a hf => by
  refine ⟨o, nth_arr hk, ?_⟩
  have hw := goes_wanted hf hg
  have hn : wlkB c X S ops tb T rest E (a.put o.dst undef) := by rw [hd]; exact h _ (hf.put (Nat.le_of_ble_eq_true hi))
  cases tb k with
  | quiet => exact ⟨undef, .inr ⟨hw, rfl⟩, hn⟩
  | pure => exact ⟨undef, .inr ⟨hw, rfl⟩, hn⟩
  | grow e => exact .inr ⟨hw, hn⟩
  | turn => exact .inr ⟨hw, hn⟩
theorem HB_case {b : Bool} (t : Nat) (ht : look l t = some (.bool b)) (h1 : b = true → HB c d ((t, .bool true) :: l) E X S ops tb rest T) (h0 : b = false → HB c d ((t, .bool false) :: l) E X S ops tb rest T) : HB c d l E X S ops tb rest T := fun a hf => by
  cases hb : b with
  | true => exact h1 hb a (fr_case hf ht hb.symm)
  | false => exact h0 hb a (fr_case hf ht hb.symm)
theorem HB_as {v' : Value} (e : v = v') (h : HB c d ((i, v') :: l) E X S ops tb rest T) : HB c d ((i, v) :: l) E X S ops tb rest T := e ▸ h
theorem HB_callP {f : Operand} {args : Array Operand} {at_ : Array TypeId} {g : FuncId} {vs : List Value} {ty : TypeId} {ps : String} {af : Array Edge} {gd : Option (Nat × Bool)}
    (hk : nth ops.toList k = some ⟨some i, .call ⟨.value f, args, at_⟩, ty, ps, af, gd⟩) (hg : goes l ops ⟨some i, .call ⟨.value f, args, at_⟩, ty, ps, af, gd⟩ = some true) (hi : Nat.ble (i + 1) c.n = true) (hA : tb k = .pure) (hca : callArgs l f args = some (g, vs)) (eg : Enters c.P g)
    (hp : Pure c.P g vs.toArray v) (h : HB c d ((i, v) :: l) E X S ops tb rest T) : HB c d l E X S ops tb (k :: rest) T := fun a hf => by
  refine ⟨_, nth_arr hk, ?_⟩
  rw [hA]
  exact ⟨v, .inl ⟨goes_wanted hf hg, fun _ _ w _ => act_call hf hca eg ((hp.run w).mono fun _ _ ⟨he, hk⟩ => ⟨v, he, rfl, hk⟩)⟩, h _ (hf.put (Nat.le_of_ble_eq_true hi))⟩
theorem HB_callR {f : Operand} {args : Array Operand} {at_ : Array TypeId} {g : FuncId} {vs : List Value} {Rl : List (Nat × Obj)} {ty : TypeId} {ps : String} {af : Array Edge} {gd : Option (Nat × Bool)}
    (hk : nth ops.toList k = some ⟨some i, .call ⟨.value f, args, at_⟩, ty, ps, af, gd⟩) (hg : goes l ops ⟨some i, .call ⟨.value f, args, at_⟩, ty, ps, af, gd⟩ = some true) (hi : Nat.ble (i + 1) c.n = true) (hA : tb k = .quiet) (hca : callArgs l f args = some (g, vs)) (eg : Enters c.P g)
    (hp : PureR c.P g vs.toArray v Rl) (hR : ∀ p ∈ Rl, known c E p.1 p.2) (h : HB c d ((i, v) :: l) E X S ops tb rest T) : HB c d l E X S ops tb (k :: rest) T := fun a hf => by
  refine ⟨_, nth_arr hk, ?_⟩
  rw [hA]
  exact ⟨v, .inl ⟨goes_wanted hf hg, fun w hs => act_call hf hca eg ((hp.run w fun p hp => hs.known (hR p hp)).mono fun _ _ ⟨he, hk⟩ => ⟨v, he, rfl, hk⟩)⟩, h _ (hf.put (Nat.le_of_ble_eq_true hi))⟩
def geNew (V : Nat → Value) (ob : Obj) : GE := ⟨Nat, V, fun r => [(r, ob)], 0⟩
def geCall {α : Type} (x0 : α) (V : α → Value) (LL : α → List (Nat × Obj)) : GE := ⟨α, V, LL, x0⟩
theorem HB_grow {e : GE} (hk : nth ops.toList k = some o) (hg : goes l ops o = some true) (hd : o.dst = some i) (hi : Nat.ble (i + 1) c.n = true) (hA : tb k = .grow e) (hr : ∀ E', SubS S E' → ∀ a w, Fr c.n d l a → St c E' X w → actAt c o a w fun u w' => ∃ x, u = e.V x ∧ Fresh (e.LL x) w w')
    (h : ∀ x, HB c d ((i, e.V x) :: l) (e.LL x ++ E) X S ops tb rest T) : HB c d l E X S ops tb (k :: rest) T := fun a hf => by
  refine ⟨o, nth_arr hk, ?_⟩
  rw [hA]
  refine .inl ⟨⟨goes_wanted hf hg, fun E' hE' w hs => hr E' hE' a w hf hs⟩, fun x => ?_⟩
  rw [hd]; exact h x _ (hf.put (Nat.le_of_ble_eq_true hi))
theorem HB_new {V : Nat → Value} {ob : Obj} (hk : nth ops.toList k = some o) (hg : goes l ops o = some true) (hd : o.dst = some i) (hi : Nat.ble (i + 1) c.n = true) (hA : tb k = .grow (geNew V ob)) (hr : ∀ a w, Fr c.n d l a → (execOp a.eval o).run c.P w = .ok (.value (V w.heap.size)) (w.alloc ob))
    (h : ∀ r, HB c d ((i, V r) :: l) ((r, ob) :: E) X S ops tb rest T) : HB c d l E X S ops tb (k :: rest) T :=
  HB_grow (e := geNew V ob) hk hg hd hi hA (fun E' _ a w hf hs => act_run (hr a w hf) ⟨w.heap.size, rfl, Keep.alloc ob, fun p hp => by rw [List.mem_singleton.1 hp]; exact ⟨Nat.le_refl _, (MapKept.heap_alloc w _).1⟩, List.pairwise_singleton _ _⟩) h
theorem HB_alloc {z : Value} {cs : Array Value} {t ty : TypeId} {ps : String} {af : Array Edge} {gd : Option (Nat × Bool)} (hk : nth ops.toList k = some ⟨some i, .alloc t, ty, ps, af, gd⟩) (hg : goes l ops ⟨some i, .alloc t, ty, ps, af, gd⟩ = some true) (hi : Nat.ble (i + 1) c.n = true) (hA : tb k = .grow (geNew ptrV (.cells cs t (0, 0)))) (hz : zeroOf c.P t = some z) (hc : z.cells = cs)
    (h : ∀ r, HB c d ((i, .pointer (some ⟨r, 0, none⟩)) :: l) ((r, .cells cs t (0, 0)) :: E) X S ops tb rest T) : HB c d l E X S ops tb (k :: rest) T :=
  HB_new (V := ptrV) hk hg rfl hi hA (fun a w hf => by simp [execOp, Instr.alloc, Sem.run_bind, run_zero hz, Result.andThen, newVar, newRow, hc, ptrV]) h
theorem HB_callPE {α : Type} {x0 : α} {V : α → Value} {LL : α → List (Nat × Obj)} {f : Operand} {args : Array Operand} {at_ : Array TypeId} {g : FuncId} {vs : List Value} {ty : TypeId} {ps : String} {af : Array Edge} {gd : Option (Nat × Bool)}
    (hk : nth ops.toList k = some ⟨some i, .call ⟨.value f, args, at_⟩, ty, ps, af, gd⟩) (hg : goes l ops ⟨some i, .call ⟨.value f, args, at_⟩, ty, ps, af, gd⟩ = some true) (hi : Nat.ble (i + 1) c.n = true) (hA : tb k = .grow (geCall x0 V LL)) (hca : callArgs l f args = some (g, vs)) (eg : Enters c.P g)
    (hp : PureE c.P g vs.toArray V LL) (h : ∀ x, HB c d ((i, V x) :: l) (LL x ++ E) X S ops tb rest T) : HB c d l E X S ops tb (k :: rest) T :=
  HB_grow (e := geCall x0 V LL) hk hg rfl hi hA (fun E' _ a w hf hs => act_call hf hca eg ((hp.run w).mono fun _ _ ⟨x, he, hk, h1, h2⟩ => ⟨V x, he, x, rfl, hk, h1, h2⟩)) h
/-- A store, and anything else that turns blocks, once nothing else is ready. -/
theorem HB_turn0 {E' : List (Nat × Obj)} (hk : nth ops.toList k = some o) (hg : goes l ops o = some true) (hd : o.dst = none) (hA : tb k = .turn) (hr : ∀ a w, Fr c.n d l a → St c E X w → ∃ w', (execOp a.eval o).run c.P w = .ok .skip w' ∧ St c E' X w') (hS : SubS S E')
    (h : HB c d l E' X S ops tb rest T) : HB c d l E X S ops tb (k :: rest) T := fun a hf => by
  refine ⟨o, nth_arr hk, ?_⟩
  rw [hA]
  refine .inl ⟨Unit, fun _ => undef, fun _ => E', ⟨goes_wanted hf hg, fun w hs => ?_⟩, fun _ => ⟨hS, ?_⟩⟩
  · obtain ⟨w', h1, h2⟩ := hr a w hf hs
    exact act_run0 h1 ⟨(), rfl, h2⟩
  · rw [hd]; exact h _ hf
theorem HB_storeArr {t ty : TypeId} {ps : String} {af : Array Edge} {gd : Option (Nat × Bool)} {x y : Operand} {q r n : Nat} {cs : Array Value} {ys : List Value} {e : TypeId} {E' : List (Nat × Obj)} (hko : nth ops.toList k = some ⟨none, .store t x y, ty, ps, af, gd⟩) (hg : goes l ops ⟨none, .store t x y, ty, ps, af, gd⟩ = some true) (hA : tb k = .turn)
    (hx : evl l x = some (.pointer (some ⟨r, 0, none⟩))) (hk : E[q]? = some (r, .cells cs e (0, 0))) (hy : evl l y = some (.agg ys.toArray)) (ht : szOf c.P t = some n) (hn : ys.length = n) (hcz : cs.size = n) (ho : ys.all oneB = true) (hL : E.set q (r, .cells ys.toArray e (0, 0)) = E') (hS : SubS S E')
    (h : HB c d l E' X S ops tb rest T) : HB c d l E X S ops tb (k :: rest) T :=
  HB_turn0 hko hg rfl hA (fun a w hf hst => ⟨w.setRow r ys.toArray, by
    have hcs : (cs.toList.take 0 ++ ys.toArray.toList ++ cs.toList.drop (0 + n)).toArray = ys.toArray := by
      apply Array.toList_inj.1
      simp [← hcz]
    simp only [execOp]; rw [hf.eval hx, hf.eval hy]
    have h1 := run_storeCells_at (P := c.P) r 0 e ys.toArray.toList 0 cs w (hst.get hk) (by simp [hn]; omega) (fun u hu => by rw [oneB_eq]; exact List.all_eq_true.1 ho u (by simpa using hu))
    simp only [Nat.add_zero, Array.length_toList, List.size_toArray, hn] at h1
    rw [hcs] at h1
    simp [Instr.storeAt, Instr.sureAddr, Sem.run_bind, Result.andThen, storeVar, run_sz ht, Value.cells, hn, h1], by
    subst hL
    exact hst.set hk (Keep.setRow r ys.toArray) (setRow_heap _ _ _ _ _ _ (hst.get hk))⟩) hS h
theorem HB_store {t ty : TypeId} {ps : String} {af : Array Edge} {gd : Option (Nat × Bool)} {x y : Operand} {q r off : Nat} {cs cs' : Array Value} {e : TypeId} {E' : List (Nat × Obj)} (hko : nth ops.toList k = some ⟨none, .store t x y, ty, ps, af, gd⟩) (hg : goes l ops ⟨none, .store t x y, ty, ps, af, gd⟩ = some true) (hA : tb k = .turn)
    (hx : evl l x = some (.pointer (some ⟨r, off, none⟩))) (hk : E[q]? = some (r, .cells cs e (0, 0))) (hy : evl l y = some v) (ht : szOf c.P t = some 1) (ho : oneB v = true) (hc : (cs[off]?).isSome = true)
    (hcs : cs.setIfInBounds off v = cs') (hL : E.set q (r, .cells cs' e (0, 0)) = E') (hS : SubS S E')
    (h : HB c d l E' X S ops tb rest T) : HB c d l E X S ops tb (k :: rest) T :=
  HB_turn0 hko hg rfl hA (fun a w hf hs => ⟨w.setCell ⟨r, off, none⟩ v, by
    simp only [execOp]; rw [hf.eval hx, hf.eval hy]
    obtain ⟨old, hold⟩ := Option.isSome_iff_exists.1 hc
    have h1 := run_store c.P w ⟨r, off, none⟩ v .plain (by rw [oneB_eq]; exact ho)
    rw [cell_at (hs.get hk), hold, frozen_at (hs.get hk) (frB0 off)] at h1
    have hcell : v.cells = #[v] := by cases v <;> first | rfl | cases ho
    simp [Instr.storeAt, Instr.sureAddr, Sem.run_bind, Result.andThen, storeVar, run_sz ht, hcell, storeCells, Addr.add, h1], by
    subst hL; subst hcs
    exact hs.set hk (Keep.setCell r off v) (heap_setCell_same v (hs.get hk))⟩) hS h
end
end Go.SL
