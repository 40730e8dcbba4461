import Derived.Test.YtlcbfphioeppaaaGreatDoorQpa
import Derived.Test.YtlcbfphioeppaaaGreatDoorProg
import Derived.Laws.Externs
import Derived.Shelf.Spec.BitsCarry
import Derived.Test.YtlcbfphioeppaaaGreatDoorShelf
namespace Go.Proofs.YtlcbfphioeppaaaGreatDoor
set_option linter.all false
open Go.SL Go.RowKit Go.Shelf
set_option maxRecDepth 10000 in
theorem S_ref_Types {R : List (Nat × Obj)} {t : Ty} (ht : t.In R) : ∀ most deep : Int, 0 ≤ most → most ≤ 1000 → -1 ≤ deep → deep ≤ 100 → PureR Tryz.prog 65 [t.val, .int .i64 most, .int .i64 deep].toArray (.int .i64 (typN t most deep)) R := by
  induction ht with
  | @mk k n p ins hk hn hl hs hi ih =>
  intro most deep hm0 hm1 hd0 hd1; refine pureR_of_HC Tryz.func65 rfl rfl fun w => ?_; refine HC_seq fun K1 hK1 => HC_region ?_; refine HL_box (cs := #[_, _, _]) rfl rfl rfl rfl fun r1 => ?_; refine HLm rfl ?_; refine HL_nil (hK1 _ _ _ _ ?_); refine HC_seq fun K2 hK2 => HC_region ?_; refine HLm rfl ?_; refine HL_nil (hK2 _ _ _ _ ?_); refine HC_seq fun K3 hK3 => ?_; refine HC_seq fun K4 hK4 => HC_region ?_; refine HLm rfl (HLp rfl ?_); refine HL_nil (hK4 _ _ _ _ ?_); refine HC_cond rfl (fun h5 => ?_) (fun h5 => ?_)
  · try exact Bool.noConfusion h5
    try simp only [ZZ] at h5
    refine HC_seq fun K6 hK6 => HC_region ?_; refine HLm rfl (HLp rfl (HL_wrap_i64 (by omega) (by omega) ?_)); refine HLm rfl ?_; refine HL_nil (hK6 _ _ _ _ ?_); refine HC_ret (HQ_thenR ?_); refine HQ_post rfl rfl (.cons (res_tmp rfl) .nil) (fun w1 hs1 => ?_); refine ⟨?_, hs1.keep⟩; rw [typN, if_pos (by omega)]; rfl
  · try exact Bool.noConfusion h5
    try simp only [ZZ] at h5
    refine HC_skip (hK3 _ _ _ _ ?_); refine HC_seq fun K7 hK7 => ?_; refine HC_seq fun K8 hK8 => HC_region ?_; refine HLm rfl ?_; refine HL_nil (hK8 _ _ _ _ ?_); refine HC_block (HC_loop (σ := Nat × Int) (fun s => s.1 ≤ ins.length ∧ 1 ≤ s.2 ∧ s.2 ≤ most + 1 ∧ typL (ins.drop s.1) most deep s.2 = typL ins most deep 1) (fun s => [(1, .int .i64 most), (2, .int .i64 deep), (3, .pointer (some ⟨r1, 0, none⟩)), (7, .int .i64 s.2), (8, .int .i64 (s.1 : Int))]) (fun _ => [(r1, .cells #[.int .i64 k, .int .i64 n, plV ins.length p] 24 (0, 0))]) (fun _ _ _ => True) (fun s => ins.length - s.1) (0, 1) ⟨by omega, by omega, by omega, rfl⟩ (.cons rfl (.cons rfl (.cons rfl (.cons rfl (.cons rfl .nil))))) (List.Sublist.refl _) (fun _ _ h => h) ?_); rintro ⟨i, m⟩ ⟨hi1, hm2, hm3, hinv⟩; refine HC_seq fun K9 hK9 => ?_; refine HC_seq fun K10 hK10 => HC_region ?_; refine HLm rfl ?_
    refine HL_r rfl rfl rfl rfl (R_fieldAddr rfl rfl (by first | (simp only [Nat.zero_add, Nat.reduceAdd, Nat.reduceMul, Nat.zero_mul, Nat.mul_one, Nat.add_zero]; exact rfl) | exact rfl)) ?_; refine HL_r rfl rfl rfl rfl (R_load rfl (known_L (k := 0) rfl) rfl rfl) ?_; refine HL_r rfl rfl rfl rfl (R_lenPl rfl hs rfl) ?_; refine HLp rfl (HLm rfl ?_)
    refine HL_case 18 rfl (fun hb11 => ?_) (fun hb11 => ?_) <;> (try simp only [ZZ] at hb11) <;> first | (refine HLm rfl ?_) | (refine HL_skip rfl rfl rfl ?_)
    all_goals first
      | (refine HLm rfl ?_)
      | (refine HL_skip rfl rfl rfl ?_)
    all_goals first
      | (refine HLp rfl ?_)
      | (refine HL_skip rfl rfl rfl ?_)
    all_goals first
      | (refine HL_r rfl rfl rfl rfl (R_pickT rfl rfl) ?_)
      | (refine HL_r rfl rfl rfl rfl (R_pickF rfl rfl) ?_)
    all_goals refine HL_nil ?_
    all_goals (
     refine hK10 _ _ _ _ ?_; refine HC_cond rfl (fun h14 => ?_) (fun h14 => ?_)
     · try exact Bool.noConfusion h14
       all_goals try simp only [ZZ] at h14
       all_goals (
        refine HC_skip (hK9 _ _ _ _ ?_); refine HC_seq fun K15 hK15 => HC_block ?_
        obtain ⟨y, hy, hmem⟩ := getI (show i < ins.length by omega)
        have hyb := typN_le y (most - m) (deep - 1) (by omega)
        rw [dropI hy, typL, if_pos (by omega)] at hinv; refine HC_region (HLm rfl ?_)
        refine HL_r rfl rfl rfl rfl (R_fieldAddr rfl rfl (by first | (simp only [Nat.zero_add, Nat.reduceAdd, Nat.reduceMul, Nat.zero_mul, Nat.mul_one, Nat.add_zero]; exact rfl) | exact rfl)) ?_; refine HL_r rfl rfl rfl rfl (R_load rfl (known_L (k := 0) rfl) rfl rfl) ?_; refine HLm rfl (HL_r rfl rfl rfl rfl (R_indexPl (j := i) rfl hs rfl rfl rfl rfl (by omega)) (HL_r rfl rfl rfl rfl (R_loadTy (fun q hq => Or.inr hq) rfl hs hy rfl rfl) ?_)); refine HLm rfl (HLm rfl ?_); refine HLp rfl (HL_wrap_i64 (by omega) (by omega) ?_); refine HLm rfl (HLp rfl (HL_wrap_i64 (by omega) (by omega) ?_)); refine HL_callR rfl rfl rfl (enters_of Tryz.func65 (by kernel_rfl) rfl) (ih y hmem (most - m) (deep - 1) (by omega) (by omega) (by omega) (by omega)) (fun q hq => Or.inr hq) ?_; refine HLp rfl (HL_wrap_i64 (by omega) (by omega) ?_); refine HLm rfl (HL_nil ?_); refine HQ_blockN (hK15 _ _ _ _ ?_); refine HC_region (HLm rfl ?_); refine HLp rfl (HL_wrap_i64 (by omega) (by omega) ?_); refine HLm rfl (HL_nil (HQ_then ?_)); exact HQ_again (i + 1, m + typN y (most - m) (deep - 1)) ⟨by omega, by omega, by omega, hinv⟩ (by simp only; omega) (.cons rfl (.cons rfl (.cons rfl (.cons rfl (.cons rfl .nil))))) (List.Sublist.refl _) (fun _ _ h => h)
        skip)
     · try exact Bool.noConfusion h14
       try simp only [ZZ] at h14
       refine HC_exit (HQ_thenE ?_); refine HQ_thenE (HQ_blockE (hK7 _ _ _ _ ?_)); refine HC_seq fun K16 hK16 => HC_region ?_; refine HLm rfl (HLm rfl ?_); refine HL_nil (hK16 _ _ _ _ ?_); refine HC_ret ?_; refine HQ_post rfl rfl (.cons (res_tmp rfl) .nil) (fun w1 hs1 => ?_); refine ⟨?_, hs1.keep⟩
       rw [typN, if_neg (by omega), ← hinv]; first | (rw [List.drop_of_length_le (by omega), typL]; rfl) | (obtain ⟨y, hy, _⟩ := getI (show i < ins.length by omega); rw [dropI hy, typL, if_neg (by omega)]; rfl)
     skip)
set_option maxRecDepth 10000 in
theorem S_ref_Vals {R : List (Nat × Obj)} {t : Vl} (ht : t.In R) : ∀ most deep : Int, 0 ≤ most → most ≤ 1000 → -1 ≤ deep → deep ≤ 100 → PureR Tryz.prog 66 [t.val, .int .i64 most, .int .i64 deep].toArray (.int .i64 (valN t most deep)) R := by
  induction ht with
  | @mk a b c d bits pb items pi pick ha hb hc hd hlb hsb hl hs hp hi ih =>
  intro most deep hm0 hm1 hd0 hd1; refine pureR_of_HC Tryz.func66 rfl rfl fun w => ?_; refine HC_seq fun K1 hK1 => HC_region ?_; refine HL_box (cs := #[_, _, _, _, _, _, _]) rfl rfl rfl rfl fun r1 => ?_; refine HLm rfl ?_; refine HL_nil (hK1 _ _ _ _ ?_); refine HC_seq fun K2 hK2 => HC_region ?_
  refine HL_r rfl rfl rfl rfl (R_fieldAddr rfl rfl (by first | (simp only [Nat.zero_add, Nat.reduceAdd, Nat.reduceMul, Nat.zero_mul, Nat.mul_one, Nat.add_zero]; exact rfl) | exact rfl)) ?_; refine HL_r rfl rfl rfl rfl (R_load rfl (known_L (k := 0) rfl) rfl rfl) ?_; refine HL_r rfl rfl rfl rfl (R_lenPl rfl hsb rfl) ?_; refine HLp rfl (HL_quo (by omega) (by omega) (by omega) ?_); refine HLp rfl (HL_wrap_i64 (by omega) (by omega) (HLm rfl ?_)); refine HL_nil (hK2 _ _ _ _ ?_); refine HC_seq fun K3 hK3 => ?_; refine HC_seq fun K4 hK4 => HC_region ?_; refine HLm rfl (HLp rfl (HLm rfl ?_))
  refine HL_case 16 rfl (fun hb5 => ?_) (fun hb5 => ?_) <;> (try simp only [ZZ] at hb5) <;> first | (refine HLm rfl ?_) | (refine HL_skip rfl rfl rfl ?_)
  all_goals first
    | (refine HLm rfl ?_)
    | (refine HL_skip rfl rfl rfl ?_)
  all_goals first
    | (refine HLp rfl ?_)
    | (refine HL_skip rfl rfl rfl ?_)
  all_goals first
    | (refine HL_r rfl rfl rfl rfl (R_pickT rfl rfl) ?_)
    | (refine HL_r rfl rfl rfl rfl (R_pickF rfl rfl) ?_)
  all_goals refine HL_nil ?_
  all_goals (
   refine hK4 _ _ _ _ ?_; refine HC_cond rfl (fun h8 => ?_) (fun h8 => ?_)
   · try exact Bool.noConfusion h8
     try simp only [ZZ] at h8
     refine HC_seq fun K9 hK9 => HC_region ?_; refine HLm rfl (HLp rfl (HL_wrap_i64 (by omega) (by omega) ?_)); refine HLm rfl ?_; refine HL_nil (hK9 _ _ _ _ ?_); refine HC_ret (HQ_thenR ?_); refine HQ_post rfl rfl (.cons (res_tmp rfl) .nil) (fun w1 hs1 => ?_); refine ⟨?_, hs1.keep⟩; rw [valN, if_pos (by omega)]; rfl
   · try exact Bool.noConfusion h8
     all_goals try simp only [ZZ] at h8
     all_goals (
      refine HC_skip (hK3 _ _ _ _ ?_); refine HC_seq fun K10 hK10 => ?_; refine HC_seq fun K11 hK11 => HC_region ?_; refine HLm rfl ?_; refine HL_nil (hK11 _ _ _ _ ?_); refine HC_block ?_
      obtain ⟨z, hz⟩ : ∃ z : Int, z = 1 + (bits.length : Int) / 8 := ⟨_, rfl⟩
      refine HC_loop (σ := Nat × Int) (fun s => s.1 ≤ items.length ∧ 1 ≤ s.2 ∧ s.2 ≤ most + 1 ∧ valL (items.drop s.1) most deep s.2 = valL items most deep z) (fun s => [(1, .int .i64 most), (2, .int .i64 deep), (3, .pointer (some ⟨r1, 0, none⟩)), (7, .int .i64 s.2), (8, .int .i64 (s.1 : Int))]) (fun _ => [(r1, .cells #[uV a, uV b, uV c, uV d, plV bits.length pb, plV items.length pi, .int .i64 pick] 31 (0, 0))]) (fun _ _ _ => True) (fun s => items.length - s.1) (0, z) ⟨by omega, by omega, by omega, rfl⟩ (by rw [hz]; exact (.cons rfl (.cons rfl (.cons rfl (.cons rfl (.cons rfl .nil)))))) (List.Sublist.refl _) (fun _ _ h => h) ?_; rintro ⟨i, m⟩ ⟨hi1, hm2, hm3, hinv⟩; refine HC_seq fun K12 hK12 => ?_; refine HC_seq fun K13 hK13 => HC_region ?_; refine HLm rfl ?_
      refine HL_r rfl rfl rfl rfl (R_fieldAddr rfl rfl (by first | (simp only [Nat.zero_add, Nat.reduceAdd, Nat.reduceMul, Nat.zero_mul, Nat.mul_one, Nat.add_zero]; exact rfl) | exact rfl)) ?_; refine HL_r rfl rfl rfl rfl (R_load rfl (known_L (k := 0) rfl) rfl rfl) ?_; refine HL_r rfl rfl rfl rfl (R_lenPl rfl hs rfl) ?_; refine HLp rfl (HLm rfl ?_)
      refine HL_case 28 rfl (fun hb14 => ?_) (fun hb14 => ?_) <;> (try simp only [ZZ] at hb14) <;> first | (refine HLm rfl ?_) | (refine HL_skip rfl rfl rfl ?_)
      all_goals first
        | (refine HLm rfl ?_)
        | (refine HL_skip rfl rfl rfl ?_)
      all_goals first
        | (refine HLp rfl ?_)
        | (refine HL_skip rfl rfl rfl ?_)
      all_goals first
        | (refine HL_r rfl rfl rfl rfl (R_pickT rfl rfl) ?_)
        | (refine HL_r rfl rfl rfl rfl (R_pickF rfl rfl) ?_)
      all_goals refine HL_nil ?_
      all_goals (
       refine hK13 _ _ _ _ ?_; refine HC_cond rfl (fun h17 => ?_) (fun h17 => ?_)
       · try exact Bool.noConfusion h17
         all_goals try simp only [ZZ] at h17
         all_goals (
          refine HC_skip (hK12 _ _ _ _ ?_); refine HC_seq fun K18 hK18 => HC_block ?_
          obtain ⟨y, hy, hmem⟩ := getI (show i < items.length by omega)
          have hyb := valN_le y (most - m) (deep - 1) (by omega)
          rw [dropI hy, valL, if_pos (by omega)] at hinv; refine HC_region (HLm rfl ?_)
          refine HL_r rfl rfl rfl rfl (R_fieldAddr rfl rfl (by first | (simp only [Nat.zero_add, Nat.reduceAdd, Nat.reduceMul, Nat.zero_mul, Nat.mul_one, Nat.add_zero]; exact rfl) | exact rfl)) ?_; refine HL_r rfl rfl rfl rfl (R_load rfl (known_L (k := 0) rfl) rfl rfl) ?_; refine HLm rfl (HL_r rfl rfl rfl rfl (R_indexPl (j := i) rfl hs rfl rfl rfl rfl (by omega)) (HL_r rfl rfl rfl rfl (R_loadVl (fun q hq => Or.inr hq) rfl hs hy rfl rfl) ?_)); refine HLm rfl (HLm rfl ?_); refine HLp rfl (HL_wrap_i64 (by omega) (by omega) ?_); refine HLm rfl (HLp rfl (HL_wrap_i64 (by omega) (by omega) ?_)); refine HL_callR rfl rfl rfl (enters_of Tryz.func66 (by kernel_rfl) rfl) (ih y hmem (most - m) (deep - 1) (by omega) (by omega) (by omega) (by omega)) (fun q hq => Or.inr hq) ?_; refine HLp rfl (HL_wrap_i64 (by omega) (by omega) ?_); refine HLm rfl (HL_nil ?_); refine HQ_blockN (hK18 _ _ _ _ ?_); refine HC_region (HLm rfl ?_); refine HLp rfl (HL_wrap_i64 (by omega) (by omega) ?_); refine HLm rfl (HL_nil (HQ_then ?_)); exact HQ_again (i + 1, m + valN y (most - m) (deep - 1)) ⟨by omega, by omega, by omega, hinv⟩ (by simp only; omega) (.cons rfl (.cons rfl (.cons rfl (.cons rfl (.cons rfl .nil))))) (List.Sublist.refl _) (fun _ _ h => h)
          skip)
       · try exact Bool.noConfusion h17
         try simp only [ZZ] at h17
         refine HC_exit (HQ_thenE ?_); refine HQ_thenE (HQ_blockE (hK10 _ _ _ _ ?_)); refine HC_seq fun K19 hK19 => HC_region ?_; refine HLm rfl (HLm rfl ?_); refine HL_nil (hK19 _ _ _ _ ?_); refine HC_ret ?_; refine HQ_post rfl rfl (.cons (res_tmp rfl) .nil) (fun w1 hs1 => ?_); refine ⟨?_, hs1.keep⟩
         rw [valN, if_neg (by omega), show 1 + ((bits.length / 8 : Nat) : Int) = z by omega, ← hinv]; first | (rw [List.drop_of_length_le (by omega), valL]; rfl) | (obtain ⟨y, hy, _⟩ := getI (show i < items.length by omega); rw [dropI hy, valL, if_neg (by omega)]; rfl)
       skip)
      skip)
   skip)
set_option maxRecDepth 10000 in
theorem S_ref_form {R : List (Nat × Obj)} {k n : Int} {p : Pl} {ins : List Ty} (ht : Ty.In R (.mk k n p ins)) : PureR Tryz.prog 133 [Ty.val (.mk k n p ins)].toArray (.bool (okForm k n ins.length)) R := by
  cases ht with
  | mk hk hn hl hs hi =>
  refine pureR_of_HC Tryz.func133 rfl rfl fun w => ?_; refine HC_seq fun K1 hK1 => HC_region ?_; refine HL_box (cs := #[_, _, _]) rfl rfl rfl rfl fun r1 => ?_; refine HLm rfl ?_; refine HL_nil (hK1 _ _ _ _ ?_); clear hK1 K1; refine HC_seq fun K2 hK2 => ?_; refine HC_seq fun K3 hK3 => HC_region ?_
  refine HL_r rfl rfl rfl rfl (R_fieldAddr rfl rfl (by first | (simp only [Nat.zero_add, Nat.reduceAdd, Nat.reduceMul, Nat.zero_mul, Nat.mul_one, Nat.add_zero]; exact rfl) | exact rfl)) ?_; refine HL_r rfl rfl rfl rfl (R_load rfl (known_L (k := 0) rfl) rfl rfl) ?_; refine HL_nil (hK3 _ _ _ _ ?_); clear hK3 K3; refine HC_block (HC_seq fun K4 hK4 => HC_region ?_); refine HLp rfl (HLm rfl ?_); refine HL_nil (hK4 _ _ _ _ ?_); clear hK4 K4; refine HC_cond rfl (fun h5 => ?_) (fun h5 => ?_)
  · try exact Bool.noConfusion h5
    try simp only [ZZ] at h5
    refine HC_seq fun K6 hK6 => HC_region ?_
    refine HL_r rfl rfl rfl rfl (R_fieldAddr rfl rfl (by first | (simp only [Nat.zero_add, Nat.reduceAdd, Nat.reduceMul, Nat.zero_mul, Nat.mul_one, Nat.add_zero]; exact rfl) | exact rfl)) ?_; refine HL_r rfl rfl rfl rfl (R_load rfl (known_L (k := 0) rfl) rfl rfl) ?_; refine HL_r rfl rfl rfl rfl (R_lenPl rfl hs rfl) ?_; refine HLp rfl (HLm rfl ?_)
    refine HL_case 11 rfl (fun hb7 => ?_) (fun hb7 => ?_) <;> (try simp only [ZZ] at hb7) <;> first | (refine HL_r rfl rfl rfl rfl (R_fieldAddr rfl rfl (by first | (simp only [Nat.zero_add, Nat.reduceAdd, Nat.reduceMul, Nat.zero_mul, Nat.mul_one, Nat.add_zero]; exact rfl) | exact rfl)) ?_) | (refine HL_skip rfl rfl rfl ?_)
    all_goals first
      | (refine HL_r rfl rfl rfl rfl (R_load rfl (known_L (k := 0) rfl) rfl rfl) ?_)
      | (refine HL_skip rfl rfl rfl ?_)
    all_goals first
      | (refine HLp rfl ?_)
      | (refine HL_skip rfl rfl rfl ?_)
    all_goals first
      | (refine HLm rfl ?_)
      | (refine HL_skip rfl rfl rfl ?_)
    all_goals first
      | (refine HL_skip rfl rfl rfl ?_)
      | (refine HL_case 15 rfl (fun hb11 => ?_) (fun hb11 => ?_) <;> (try simp only [ZZ] at hb11) <;> first | (refine HL_r rfl rfl rfl rfl (R_fieldAddr rfl rfl (by first | (simp only [Nat.zero_add, Nat.reduceAdd, Nat.reduceMul, Nat.zero_mul, Nat.mul_one, Nat.add_zero]; exact rfl) | exact rfl)) ?_) | (refine HL_skip rfl rfl rfl ?_))
    all_goals first
      | (refine HL_r rfl rfl rfl rfl (R_load rfl (known_L (k := 0) rfl) rfl rfl) ?_)
      | (refine HL_skip rfl rfl rfl ?_)
    all_goals first
      | (refine HLp rfl ?_)
      | (refine HL_skip rfl rfl rfl ?_)
    all_goals first
      | (refine HL_r rfl rfl rfl rfl (R_pickT rfl rfl) ?_)
      | (refine HL_r rfl rfl rfl rfl (R_pickF rfl rfl) ?_)
      | (refine HL_skip rfl rfl rfl ?_)
    all_goals first
      | (refine HLm rfl ?_)
      | (refine HL_skip rfl rfl rfl ?_)
    all_goals first
      | (refine HL_skip rfl rfl rfl ?_)
      | (refine HL_case 20 rfl (fun hb16 => ?_) (fun hb16 => ?_) <;> (try simp only [ZZ] at hb16) <;> first | (refine HL_r rfl rfl rfl rfl (R_fieldAddr rfl rfl (by first | (simp only [Nat.zero_add, Nat.reduceAdd, Nat.reduceMul, Nat.zero_mul, Nat.mul_one, Nat.add_zero]; exact rfl) | exact rfl)) ?_) | (refine HL_skip rfl rfl rfl ?_))
    all_goals first
      | (refine HL_r rfl rfl rfl rfl (R_load rfl (known_L (k := 0) rfl) rfl rfl) ?_)
      | (refine HL_skip rfl rfl rfl ?_)
    all_goals first
      | (refine HLp rfl ?_)
      | (refine HL_skip rfl rfl rfl ?_)
    all_goals first
      | (refine HL_r rfl rfl rfl rfl (R_pickT rfl rfl) ?_)
      | (refine HL_r rfl rfl rfl rfl (R_pickF rfl rfl) ?_)
      | (refine HL_skip rfl rfl rfl ?_)
    all_goals first
      | (refine HLm rfl ?_)
      | (refine HL_skip rfl rfl rfl ?_)
    all_goals first
      | (refine HL_skip rfl rfl rfl ?_)
      | (refine HL_case 25 rfl (fun hb21 => ?_) (fun hb21 => ?_) <;> (try simp only [ZZ] at hb21) <;> first | (refine HL_r rfl rfl rfl rfl (R_fieldAddr rfl rfl (by first | (simp only [Nat.zero_add, Nat.reduceAdd, Nat.reduceMul, Nat.zero_mul, Nat.mul_one, Nat.add_zero]; exact rfl) | exact rfl)) ?_) | (refine HL_skip rfl rfl rfl ?_))
    all_goals first
      | (refine HL_r rfl rfl rfl rfl (R_load rfl (known_L (k := 0) rfl) rfl rfl) ?_)
      | (refine HL_skip rfl rfl rfl ?_)
    all_goals first
      | (refine HLp rfl ?_)
      | (refine HL_skip rfl rfl rfl ?_)
    all_goals first
      | (refine HL_r rfl rfl rfl rfl (R_pickT rfl rfl) ?_)
      | (refine HL_r rfl rfl rfl rfl (R_pickF rfl rfl) ?_)
      | (refine HL_skip rfl rfl rfl ?_)
    all_goals first
      | (refine HLm rfl ?_)
      | (refine HL_skip rfl rfl rfl ?_)
    all_goals first
      | (refine HL_skip rfl rfl rfl ?_)
      | (refine HL_case 30 rfl (fun hb26 => ?_) (fun hb26 => ?_) <;> (try simp only [ZZ] at hb26) <;> first | (refine HL_r rfl rfl rfl rfl (R_fieldAddr rfl rfl (by first | (simp only [Nat.zero_add, Nat.reduceAdd, Nat.reduceMul, Nat.zero_mul, Nat.mul_one, Nat.add_zero]; exact rfl) | exact rfl)) ?_) | (refine HL_skip rfl rfl rfl ?_))
    all_goals first
      | (refine HL_r rfl rfl rfl rfl (R_load rfl (known_L (k := 0) rfl) rfl rfl) ?_)
      | (refine HL_skip rfl rfl rfl ?_)
    all_goals first
      | (refine HLp rfl ?_)
      | (refine HL_skip rfl rfl rfl ?_)
    all_goals first
      | (refine HL_r rfl rfl rfl rfl (R_pickT rfl rfl) ?_)
      | (refine HL_r rfl rfl rfl rfl (R_pickF rfl rfl) ?_)
      | (refine HL_skip rfl rfl rfl ?_)
    all_goals first
      | (refine HL_r rfl rfl rfl rfl (R_pickT rfl rfl) ?_)
      | (refine HL_r rfl rfl rfl rfl (R_pickF rfl rfl) ?_)
    all_goals refine HLm rfl ?_
    all_goals refine HL_nil ?_
    all_goals (
     refine hK6 _ _ _ _ ?_; clear hK6 K6; refine HC_ret (HQ_blockR (HQ_thenR ?_)); clear hK2 K2; refine HQ_post rfl rfl (.cons (res_tmp rfl) .nil) (fun w1 hs1 => ?_); refine ⟨?_, hs1.keep⟩
     unfold okForm
     simp only [resVal]
     simp_all
     all_goals first | done | rfl | omega | (rw [Bool.eq_iff_iff]; simp only [Bool.and_eq_true, decide_eq_true_eq]; omega)
     skip)
  · try exact Bool.noConfusion h5
    try simp only [ZZ] at h5
    refine HC_seq fun K30 hK30 => HC_region ?_; refine HLp rfl (HLm rfl ?_); refine HL_nil (hK30 _ _ _ _ ?_); clear hK30 K30; refine HC_cond rfl (fun h31 => ?_) (fun h31 => ?_)
    · try exact Bool.noConfusion h31
      try simp only [ZZ] at h31
      refine HC_seq fun K32 hK32 => HC_region ?_
      refine HL_r rfl rfl rfl rfl (R_fieldAddr rfl rfl (by first | (simp only [Nat.zero_add, Nat.reduceAdd, Nat.reduceMul, Nat.zero_mul, Nat.mul_one, Nat.add_zero]; exact rfl) | exact rfl)) ?_; refine HL_r rfl rfl rfl rfl (R_load rfl (known_L (k := 0) rfl) rfl rfl) ?_; refine HL_r rfl rfl rfl rfl (R_lenPl rfl hs rfl) ?_; refine HLp rfl (HLm rfl ?_)
      refine HL_case 42 rfl (fun hb33 => ?_) (fun hb33 => ?_) <;> (try simp only [ZZ] at hb33) <;> first | (refine HL_r rfl rfl rfl rfl (R_fieldAddr rfl rfl (by first | (simp only [Nat.zero_add, Nat.reduceAdd, Nat.reduceMul, Nat.zero_mul, Nat.mul_one, Nat.add_zero]; exact rfl) | exact rfl)) ?_) | (refine HL_skip rfl rfl rfl ?_)
      all_goals first
        | (refine HL_r rfl rfl rfl rfl (R_load rfl (known_L (k := 0) rfl) rfl rfl) ?_)
        | (refine HL_skip rfl rfl rfl ?_)
      all_goals first
        | (refine HLp rfl ?_)
        | (refine HL_skip rfl rfl rfl ?_)
      all_goals first
        | (refine HL_r rfl rfl rfl rfl (R_pickT rfl rfl) ?_)
        | (refine HL_r rfl rfl rfl rfl (R_pickF rfl rfl) ?_)
      all_goals refine HLm rfl ?_
      all_goals refine HL_nil ?_
      all_goals (
       refine hK32 _ _ _ _ ?_; clear hK32 K32; refine HC_ret (HQ_blockR (HQ_thenR ?_)); clear hK2 K2; refine HQ_post rfl rfl (.cons (res_tmp rfl) .nil) (fun w1 hs1 => ?_); refine ⟨?_, hs1.keep⟩
       unfold okForm
       simp only [resVal]
       simp_all
       all_goals first | done | rfl | omega | (rw [Bool.eq_iff_iff]; simp only [Bool.and_eq_true, decide_eq_true_eq]; omega)
       skip)
    · try exact Bool.noConfusion h31
      try simp only [ZZ] at h31
      refine HC_seq fun K36 hK36 => ?_; refine HC_seq fun K37 hK37 => HC_region ?_; refine HLp rfl (HLm rfl ?_); refine HL_nil (hK37 _ _ _ _ ?_); clear hK37 K37; refine HC_cond rfl (fun h38 => ?_) (fun h38 => ?_)
      · try exact Bool.noConfusion h38
        try simp only [ZZ] at h38
        refine HC_skip (hK36 _ _ _ _ ?_); clear hK36 K36; refine HC_cond rfl (fun h39 => ?_) (fun h39 => ?_)
        · try exact Bool.noConfusion h39
          try simp only [ZZ] at h39
          refine HC_seq fun K40 hK40 => HC_region ?_
          refine HL_r rfl rfl rfl rfl (R_fieldAddr rfl rfl (by first | (simp only [Nat.zero_add, Nat.reduceAdd, Nat.reduceMul, Nat.zero_mul, Nat.mul_one, Nat.add_zero]; exact rfl) | exact rfl)) ?_; refine HL_r rfl rfl rfl rfl (R_load rfl (known_L (k := 0) rfl) rfl rfl) ?_; refine HL_r rfl rfl rfl rfl (R_lenPl rfl hs rfl) ?_; refine HLp rfl (HLm rfl ?_)
          refine HL_case 54 rfl (fun hb41 => ?_) (fun hb41 => ?_) <;> (try simp only [ZZ] at hb41) <;> first | (refine HL_r rfl rfl rfl rfl (R_fieldAddr rfl rfl (by first | (simp only [Nat.zero_add, Nat.reduceAdd, Nat.reduceMul, Nat.zero_mul, Nat.mul_one, Nat.add_zero]; exact rfl) | exact rfl)) ?_) | (refine HL_skip rfl rfl rfl ?_)
          all_goals first
            | (refine HL_r rfl rfl rfl rfl (R_load rfl (known_L (k := 0) rfl) rfl rfl) ?_)
            | (refine HL_skip rfl rfl rfl ?_)
          all_goals first
            | (refine HLp rfl ?_)
            | (refine HL_skip rfl rfl rfl ?_)
          all_goals first
            | (refine HL_r rfl rfl rfl rfl (R_pickT rfl rfl) ?_)
            | (refine HL_r rfl rfl rfl rfl (R_pickF rfl rfl) ?_)
          all_goals refine HLm rfl ?_
          all_goals first
            | (refine HL_skip rfl rfl rfl ?_)
            | (refine HL_case 59 rfl (fun hb44 => ?_) (fun hb44 => ?_) <;> (try simp only [ZZ] at hb44) <;> first | (refine HL_r rfl rfl rfl rfl (R_fieldAddr rfl rfl (by first | (simp only [Nat.zero_add, Nat.reduceAdd, Nat.reduceMul, Nat.zero_mul, Nat.mul_one, Nat.add_zero]; exact rfl) | exact rfl)) ?_) | (refine HL_skip rfl rfl rfl ?_))
          all_goals first
            | (refine HL_r rfl rfl rfl rfl (R_load rfl (known_L (k := 0) rfl) rfl rfl) ?_)
            | (refine HL_skip rfl rfl rfl ?_)
          all_goals first
            | (refine HLp rfl ?_)
            | (refine HL_skip rfl rfl rfl ?_)
          all_goals first
            | (refine HL_r rfl rfl rfl rfl (R_pickT rfl rfl) ?_)
            | (refine HL_r rfl rfl rfl rfl (R_pickF rfl rfl) ?_)
          all_goals refine HLm rfl ?_
          all_goals refine HL_nil ?_
          all_goals (
           refine hK40 _ _ _ _ ?_; clear hK40 K40; refine HC_ret (HQ_blockR (HQ_thenR ?_)); clear hK2 K2; refine HQ_post rfl rfl (.cons (res_tmp rfl) .nil) (fun w1 hs1 => ?_); refine ⟨?_, hs1.keep⟩
           unfold okForm
           simp only [resVal]
           simp_all
           first | done | rfl | omega | (rw [Bool.eq_iff_iff]; simp only [Bool.and_eq_true, decide_eq_true_eq]; omega)
           skip)
        · try exact Bool.noConfusion h39
          try simp only [ZZ] at h39
          refine HC_seq fun K47 hK47 => ?_; refine HC_seq fun K48 hK48 => HC_region ?_; refine HLp rfl (HLm rfl ?_); refine HL_nil (hK48 _ _ _ _ ?_); clear hK48 K48; refine HC_cond rfl (fun h49 => ?_) (fun h49 => ?_)
          · try exact Bool.noConfusion h49
            try simp only [ZZ] at h49
            refine HC_skip (hK47 _ _ _ _ ?_); clear hK47 K47; refine HC_cond rfl (fun h50 => ?_) (fun h50 => ?_)
            · try exact Bool.noConfusion h50
              try simp only [ZZ] at h50
              refine HC_seq fun K51 hK51 => HC_region ?_
              refine HL_r rfl rfl rfl rfl (R_fieldAddr rfl rfl (by first | (simp only [Nat.zero_add, Nat.reduceAdd, Nat.reduceMul, Nat.zero_mul, Nat.mul_one, Nat.add_zero]; exact rfl) | exact rfl)) ?_; refine HL_r rfl rfl rfl rfl (R_load rfl (known_L (k := 0) rfl) rfl rfl) ?_; refine HL_r rfl rfl rfl rfl (R_lenPl rfl hs rfl) ?_; refine HLp rfl (HLm rfl ?_)
              refine HL_case 71 rfl (fun hb52 => ?_) (fun hb52 => ?_) <;> (try simp only [ZZ] at hb52) <;> first | (refine HL_r rfl rfl rfl rfl (R_fieldAddr rfl rfl (by first | (simp only [Nat.zero_add, Nat.reduceAdd, Nat.reduceMul, Nat.zero_mul, Nat.mul_one, Nat.add_zero]; exact rfl) | exact rfl)) ?_) | (refine HL_skip rfl rfl rfl ?_)
              all_goals first
                | (refine HL_r rfl rfl rfl rfl (R_load rfl (known_L (k := 0) rfl) rfl rfl) ?_)
                | (refine HL_skip rfl rfl rfl ?_)
              all_goals first
                | (refine HLp rfl ?_)
                | (refine HL_skip rfl rfl rfl ?_)
              all_goals first
                | (refine HL_r rfl rfl rfl rfl (R_pickT rfl rfl) ?_)
                | (refine HL_r rfl rfl rfl rfl (R_pickF rfl rfl) ?_)
              all_goals refine HLm rfl ?_
              all_goals first
                | (refine HL_skip rfl rfl rfl ?_)
                | (refine HL_case 76 rfl (fun hb55 => ?_) (fun hb55 => ?_) <;> (try simp only [ZZ] at hb55) <;> first | (refine HL_r rfl rfl rfl rfl (R_fieldAddr rfl rfl (by first | (simp only [Nat.zero_add, Nat.reduceAdd, Nat.reduceMul, Nat.zero_mul, Nat.mul_one, Nat.add_zero]; exact rfl) | exact rfl)) ?_) | (refine HL_skip rfl rfl rfl ?_))
              all_goals first
                | (refine HL_r rfl rfl rfl rfl (R_load rfl (known_L (k := 0) rfl) rfl rfl) ?_)
                | (refine HL_skip rfl rfl rfl ?_)
              all_goals first
                | (refine HLp rfl ?_)
                | (refine HL_skip rfl rfl rfl ?_)
              all_goals first
                | (refine HL_r rfl rfl rfl rfl (R_pickT rfl rfl) ?_)
                | (refine HL_r rfl rfl rfl rfl (R_pickF rfl rfl) ?_)
              all_goals refine HLm rfl ?_
              all_goals refine HL_nil ?_
              all_goals (
               refine hK51 _ _ _ _ ?_; clear hK51 K51; refine HC_ret (HQ_blockR (HQ_thenR ?_)); clear hK2 K2; refine HQ_post rfl rfl (.cons (res_tmp rfl) .nil) (fun w1 hs1 => ?_); refine ⟨?_, hs1.keep⟩
               unfold okForm
               simp only [resVal]
               simp_all
               skip)
            · try exact Bool.noConfusion h50
              try simp only [ZZ] at h50
              refine HC_seq fun K58 hK58 => HC_region ?_; refine HLp rfl (HLm rfl ?_); refine HL_nil (hK58 _ _ _ _ ?_); clear hK58 K58; refine HC_cond rfl (fun h59 => ?_) (fun h59 => ?_)
              · try exact Bool.noConfusion h59
                try simp only [ZZ] at h59
                refine HC_seq fun K60 hK60 => HC_region ?_
                refine HL_r rfl rfl rfl rfl (R_fieldAddr rfl rfl (by first | (simp only [Nat.zero_add, Nat.reduceAdd, Nat.reduceMul, Nat.zero_mul, Nat.mul_one, Nat.add_zero]; exact rfl) | exact rfl)) ?_; refine HL_r rfl rfl rfl rfl (R_load rfl (known_L (k := 0) rfl) rfl rfl) ?_; refine HLp rfl (HLm rfl ?_)
                refine HL_case 86 rfl (fun hb61 => ?_) (fun hb61 => ?_) <;> (try simp only [ZZ] at hb61) <;> first | (refine HL_r rfl rfl rfl rfl (R_fieldAddr rfl rfl (by first | (simp only [Nat.zero_add, Nat.reduceAdd, Nat.reduceMul, Nat.zero_mul, Nat.mul_one, Nat.add_zero]; exact rfl) | exact rfl)) ?_) | (refine HL_skip rfl rfl rfl ?_)
                all_goals first
                  | (refine HL_r rfl rfl rfl rfl (R_load rfl (known_L (k := 0) rfl) rfl rfl) ?_)
                  | (refine HL_skip rfl rfl rfl ?_)
                all_goals first
                  | (refine HL_r rfl rfl rfl rfl (R_lenPl rfl hs rfl) ?_)
                  | (refine HL_skip rfl rfl rfl ?_)
                all_goals first
                  | (refine HLp rfl ?_)
                  | (refine HL_skip rfl rfl rfl ?_)
                all_goals first
                  | (refine HL_r rfl rfl rfl rfl (R_pickT rfl rfl) ?_)
                  | (refine HL_r rfl rfl rfl rfl (R_pickF rfl rfl) ?_)
                all_goals refine HLm rfl ?_
                all_goals first
                  | (refine HL_skip rfl rfl rfl ?_)
                  | (refine HL_case 92 rfl (fun hb65 => ?_) (fun hb65 => ?_) <;> (try simp only [ZZ] at hb65) <;> first | (refine HL_r rfl rfl rfl rfl (R_fieldAddr rfl rfl (by first | (simp only [Nat.zero_add, Nat.reduceAdd, Nat.reduceMul, Nat.zero_mul, Nat.mul_one, Nat.add_zero]; exact rfl) | exact rfl)) ?_) | (refine HL_skip rfl rfl rfl ?_))
                all_goals first
                  | (refine HL_r rfl rfl rfl rfl (R_load rfl (known_L (k := 0) rfl) rfl rfl) ?_)
                  | (refine HL_skip rfl rfl rfl ?_)
                all_goals first
                  | (refine HL_r rfl rfl rfl rfl (R_lenPl rfl hs rfl) ?_)
                  | (refine HL_skip rfl rfl rfl ?_)
                all_goals first
                  | (refine HLp rfl ?_)
                  | (refine HL_skip rfl rfl rfl ?_)
                all_goals first
                  | (refine HL_r rfl rfl rfl rfl (R_pickT rfl rfl) ?_)
                  | (refine HL_r rfl rfl rfl rfl (R_pickF rfl rfl) ?_)
                all_goals refine HLm rfl ?_
                all_goals refine HL_nil ?_
                all_goals (
                 refine hK60 _ _ _ _ ?_; clear hK60 K60; refine HC_ret (HQ_blockR (HQ_thenR ?_)); clear hK2 K2; refine HQ_post rfl rfl (.cons (res_tmp rfl) .nil) (fun w1 hs1 => ?_); refine ⟨?_, hs1.keep⟩
                 unfold okForm
                 simp only [resVal]
                 simp_all
                 skip)
              · try exact Bool.noConfusion h59
                try simp only [ZZ] at h59
                refine HC_skip (HQ_blockN (hK2 _ _ _ _ ?_)); clear hK2 K2; refine HC_seq fun K69 hK69 => HC_region ?_
                refine HL_r rfl rfl rfl rfl (R_fieldAddr rfl rfl (by first | (simp only [Nat.zero_add, Nat.reduceAdd, Nat.reduceMul, Nat.zero_mul, Nat.mul_one, Nat.add_zero]; exact rfl) | exact rfl)) ?_; refine HL_r rfl rfl rfl rfl (R_load rfl (known_L (k := 0) rfl) rfl rfl) ?_; refine HLp rfl (HLm rfl ?_)
                refine HL_case 101 rfl (fun hb70 => ?_) (fun hb70 => ?_) <;> (try simp only [ZZ] at hb70) <;> first | (refine HL_r rfl rfl rfl rfl (R_fieldAddr rfl rfl (by first | (simp only [Nat.zero_add, Nat.reduceAdd, Nat.reduceMul, Nat.zero_mul, Nat.mul_one, Nat.add_zero]; exact rfl) | exact rfl)) ?_) | (refine HL_skip rfl rfl rfl ?_)
                all_goals first
                  | (refine HL_r rfl rfl rfl rfl (R_load rfl (known_L (k := 0) rfl) rfl rfl) ?_)
                  | (refine HL_skip rfl rfl rfl ?_)
                all_goals first
                  | (refine HL_r rfl rfl rfl rfl (R_lenPl rfl hs rfl) ?_)
                  | (refine HL_skip rfl rfl rfl ?_)
                all_goals first
                  | (refine HLp rfl ?_)
                  | (refine HL_skip rfl rfl rfl ?_)
                all_goals first
                  | (refine HL_r rfl rfl rfl rfl (R_pickT rfl rfl) ?_)
                  | (refine HL_r rfl rfl rfl rfl (R_pickF rfl rfl) ?_)
                all_goals refine HLm rfl ?_
                all_goals first
                  | (refine HL_skip rfl rfl rfl ?_)
                  | (refine HL_case 107 rfl (fun hb74 => ?_) (fun hb74 => ?_) <;> (try simp only [ZZ] at hb74) <;> first | (refine HL_r rfl rfl rfl rfl (R_fieldAddr rfl rfl (by first | (simp only [Nat.zero_add, Nat.reduceAdd, Nat.reduceMul, Nat.zero_mul, Nat.mul_one, Nat.add_zero]; exact rfl) | exact rfl)) ?_) | (refine HL_skip rfl rfl rfl ?_))
                all_goals first
                  | (refine HL_r rfl rfl rfl rfl (R_load rfl (known_L (k := 0) rfl) rfl rfl) ?_)
                  | (refine HL_skip rfl rfl rfl ?_)
                all_goals first
                  | (refine HL_r rfl rfl rfl rfl (R_lenPl rfl hs rfl) ?_)
                  | (refine HL_skip rfl rfl rfl ?_)
                all_goals first
                  | (refine HLp rfl ?_)
                  | (refine HL_skip rfl rfl rfl ?_)
                all_goals first
                  | (refine HL_r rfl rfl rfl rfl (R_pickT rfl rfl) ?_)
                  | (refine HL_r rfl rfl rfl rfl (R_pickF rfl rfl) ?_)
                all_goals refine HLm rfl ?_
                all_goals refine HL_nil ?_
                all_goals (
                 refine hK69 _ _ _ _ ?_; clear hK69 K69; refine HC_ret ?_; refine HQ_post rfl rfl (.cons (res_tmp rfl) .nil) (fun w1 hs1 => ?_); refine ⟨?_, hs1.keep⟩
                 unfold okForm
                 simp only [resVal]
                 simp_all
                 skip)
          · try exact Bool.noConfusion h49
            try simp only [ZZ] at h49
            refine HC_region (HLp rfl (HLm rfl ?_)); refine HL_nil (hK47 _ _ _ _ ?_); clear hK47 K47; refine HC_cond rfl (fun h78 => ?_) (fun h78 => ?_)
            · try exact Bool.noConfusion h78
              try simp only [ZZ] at h78
              refine HC_seq fun K79 hK79 => HC_region ?_
              refine HL_r rfl rfl rfl rfl (R_fieldAddr rfl rfl (by first | (simp only [Nat.zero_add, Nat.reduceAdd, Nat.reduceMul, Nat.zero_mul, Nat.mul_one, Nat.add_zero]; exact rfl) | exact rfl)) ?_; refine HL_r rfl rfl rfl rfl (R_load rfl (known_L (k := 0) rfl) rfl rfl) ?_; refine HL_r rfl rfl rfl rfl (R_lenPl rfl hs rfl) ?_; refine HLp rfl (HLm rfl ?_)
              refine HL_case 71 rfl (fun hb80 => ?_) (fun hb80 => ?_) <;> (try simp only [ZZ] at hb80) <;> first | (refine HL_r rfl rfl rfl rfl (R_fieldAddr rfl rfl (by first | (simp only [Nat.zero_add, Nat.reduceAdd, Nat.reduceMul, Nat.zero_mul, Nat.mul_one, Nat.add_zero]; exact rfl) | exact rfl)) ?_) | (refine HL_skip rfl rfl rfl ?_)
              all_goals first
                | (refine HL_r rfl rfl rfl rfl (R_load rfl (known_L (k := 0) rfl) rfl rfl) ?_)
                | (refine HL_skip rfl rfl rfl ?_)
              all_goals first
                | (refine HLp rfl ?_)
                | (refine HL_skip rfl rfl rfl ?_)
              all_goals first
                | (refine HL_r rfl rfl rfl rfl (R_pickT rfl rfl) ?_)
                | (refine HL_r rfl rfl rfl rfl (R_pickF rfl rfl) ?_)
              all_goals refine HLm rfl ?_
              all_goals first
                | (refine HL_skip rfl rfl rfl ?_)
                | (refine HL_case 76 rfl (fun hb83 => ?_) (fun hb83 => ?_) <;> (try simp only [ZZ] at hb83) <;> first | (refine HL_r rfl rfl rfl rfl (R_fieldAddr rfl rfl (by first | (simp only [Nat.zero_add, Nat.reduceAdd, Nat.reduceMul, Nat.zero_mul, Nat.mul_one, Nat.add_zero]; exact rfl) | exact rfl)) ?_) | (refine HL_skip rfl rfl rfl ?_))
              all_goals first
                | (refine HL_r rfl rfl rfl rfl (R_load rfl (known_L (k := 0) rfl) rfl rfl) ?_)
                | (refine HL_skip rfl rfl rfl ?_)
              all_goals first
                | (refine HLp rfl ?_)
                | (refine HL_skip rfl rfl rfl ?_)
              all_goals first
                | (refine HL_r rfl rfl rfl rfl (R_pickT rfl rfl) ?_)
                | (refine HL_r rfl rfl rfl rfl (R_pickF rfl rfl) ?_)
              all_goals refine HLm rfl ?_
              all_goals refine HL_nil ?_
              all_goals (
               refine hK79 _ _ _ _ ?_; clear hK79 K79; refine HC_ret (HQ_blockR (HQ_thenR ?_)); clear hK2 K2; refine HQ_post rfl rfl (.cons (res_tmp rfl) .nil) (fun w1 hs1 => ?_); refine ⟨?_, hs1.keep⟩
               unfold okForm
               simp only [resVal]
               simp_all
               skip)
            · try exact Bool.noConfusion h78
              try simp only [ZZ] at h78
              refine HC_seq fun K86 hK86 => HC_region ?_; refine HLp rfl (HLm rfl ?_); refine HL_nil (hK86 _ _ _ _ ?_); clear hK86 K86; refine HC_cond rfl (fun h87 => ?_) (fun h87 => ?_)
              · try exact Bool.noConfusion h87
                try simp only [ZZ] at h87
                refine HC_seq fun K88 hK88 => HC_region ?_
                refine HL_r rfl rfl rfl rfl (R_fieldAddr rfl rfl (by first | (simp only [Nat.zero_add, Nat.reduceAdd, Nat.reduceMul, Nat.zero_mul, Nat.mul_one, Nat.add_zero]; exact rfl) | exact rfl)) ?_; refine HL_r rfl rfl rfl rfl (R_load rfl (known_L (k := 0) rfl) rfl rfl) ?_; refine HLp rfl (HLm rfl ?_)
                refine HL_case 86 rfl (fun hb89 => ?_) (fun hb89 => ?_) <;> (try simp only [ZZ] at hb89) <;> first | (refine HL_r rfl rfl rfl rfl (R_fieldAddr rfl rfl (by first | (simp only [Nat.zero_add, Nat.reduceAdd, Nat.reduceMul, Nat.zero_mul, Nat.mul_one, Nat.add_zero]; exact rfl) | exact rfl)) ?_) | (refine HL_skip rfl rfl rfl ?_)
                all_goals first
                  | (refine HL_r rfl rfl rfl rfl (R_load rfl (known_L (k := 0) rfl) rfl rfl) ?_)
                  | (refine HL_skip rfl rfl rfl ?_)
                all_goals first
                  | (refine HL_r rfl rfl rfl rfl (R_lenPl rfl hs rfl) ?_)
                  | (refine HL_skip rfl rfl rfl ?_)
                all_goals first
                  | (refine HLp rfl ?_)
                  | (refine HL_skip rfl rfl rfl ?_)
                all_goals first
                  | (refine HL_r rfl rfl rfl rfl (R_pickT rfl rfl) ?_)
                  | (refine HL_r rfl rfl rfl rfl (R_pickF rfl rfl) ?_)
                all_goals refine HLm rfl ?_
                all_goals first
                  | (refine HL_skip rfl rfl rfl ?_)
                  | (refine HL_case 92 rfl (fun hb93 => ?_) (fun hb93 => ?_) <;> (try simp only [ZZ] at hb93) <;> first | (refine HL_r rfl rfl rfl rfl (R_fieldAddr rfl rfl (by first | (simp only [Nat.zero_add, Nat.reduceAdd, Nat.reduceMul, Nat.zero_mul, Nat.mul_one, Nat.add_zero]; exact rfl) | exact rfl)) ?_) | (refine HL_skip rfl rfl rfl ?_))
                all_goals first
                  | (refine HL_r rfl rfl rfl rfl (R_load rfl (known_L (k := 0) rfl) rfl rfl) ?_)
                  | (refine HL_skip rfl rfl rfl ?_)
                all_goals first
                  | (refine HL_r rfl rfl rfl rfl (R_lenPl rfl hs rfl) ?_)
                  | (refine HL_skip rfl rfl rfl ?_)
                all_goals first
                  | (refine HLp rfl ?_)
                  | (refine HL_skip rfl rfl rfl ?_)
                all_goals first
                  | (refine HL_r rfl rfl rfl rfl (R_pickT rfl rfl) ?_)
                  | (refine HL_r rfl rfl rfl rfl (R_pickF rfl rfl) ?_)
                all_goals refine HLm rfl ?_
                all_goals refine HL_nil ?_
                all_goals (
                 refine hK88 _ _ _ _ ?_; clear hK88 K88; refine HC_ret (HQ_blockR (HQ_thenR ?_)); clear hK2 K2; refine HQ_post rfl rfl (.cons (res_tmp rfl) .nil) (fun w1 hs1 => ?_); refine ⟨?_, hs1.keep⟩
                 unfold okForm
                 simp only [resVal]
                 simp_all
                 skip)
              · try exact Bool.noConfusion h87
                try simp only [ZZ] at h87
                refine HC_skip (HQ_blockN (hK2 _ _ _ _ ?_)); clear hK2 K2; refine HC_seq fun K97 hK97 => HC_region ?_
                refine HL_r rfl rfl rfl rfl (R_fieldAddr rfl rfl (by first | (simp only [Nat.zero_add, Nat.reduceAdd, Nat.reduceMul, Nat.zero_mul, Nat.mul_one, Nat.add_zero]; exact rfl) | exact rfl)) ?_; refine HL_r rfl rfl rfl rfl (R_load rfl (known_L (k := 0) rfl) rfl rfl) ?_; refine HLp rfl (HLm rfl ?_)
                refine HL_case 101 rfl (fun hb98 => ?_) (fun hb98 => ?_) <;> (try simp only [ZZ] at hb98) <;> first | (refine HL_r rfl rfl rfl rfl (R_fieldAddr rfl rfl (by first | (simp only [Nat.zero_add, Nat.reduceAdd, Nat.reduceMul, Nat.zero_mul, Nat.mul_one, Nat.add_zero]; exact rfl) | exact rfl)) ?_) | (refine HL_skip rfl rfl rfl ?_)
                all_goals first
                  | (refine HL_r rfl rfl rfl rfl (R_load rfl (known_L (k := 0) rfl) rfl rfl) ?_)
                  | (refine HL_skip rfl rfl rfl ?_)
                all_goals first
                  | (refine HL_r rfl rfl rfl rfl (R_lenPl rfl hs rfl) ?_)
                  | (refine HL_skip rfl rfl rfl ?_)
                all_goals first
                  | (refine HLp rfl ?_)
                  | (refine HL_skip rfl rfl rfl ?_)
                all_goals first
                  | (refine HL_r rfl rfl rfl rfl (R_pickT rfl rfl) ?_)
                  | (refine HL_r rfl rfl rfl rfl (R_pickF rfl rfl) ?_)
                all_goals refine HLm rfl ?_
                all_goals first
                  | (refine HL_skip rfl rfl rfl ?_)
                  | (refine HL_case 107 rfl (fun hb102 => ?_) (fun hb102 => ?_) <;> (try simp only [ZZ] at hb102) <;> first | (refine HL_r rfl rfl rfl rfl (R_fieldAddr rfl rfl (by first | (simp only [Nat.zero_add, Nat.reduceAdd, Nat.reduceMul, Nat.zero_mul, Nat.mul_one, Nat.add_zero]; exact rfl) | exact rfl)) ?_) | (refine HL_skip rfl rfl rfl ?_))
                all_goals first
                  | (refine HL_r rfl rfl rfl rfl (R_load rfl (known_L (k := 0) rfl) rfl rfl) ?_)
                  | (refine HL_skip rfl rfl rfl ?_)
                all_goals first
                  | (refine HL_r rfl rfl rfl rfl (R_lenPl rfl hs rfl) ?_)
                  | (refine HL_skip rfl rfl rfl ?_)
                all_goals first
                  | (refine HLp rfl ?_)
                  | (refine HL_skip rfl rfl rfl ?_)
                all_goals first
                  | (refine HL_r rfl rfl rfl rfl (R_pickT rfl rfl) ?_)
                  | (refine HL_r rfl rfl rfl rfl (R_pickF rfl rfl) ?_)
                all_goals refine HLm rfl ?_
                all_goals refine HL_nil ?_
                all_goals (
                 refine hK97 _ _ _ _ ?_; clear hK97 K97; refine HC_ret ?_; refine HQ_post rfl rfl (.cons (res_tmp rfl) .nil) (fun w1 hs1 => ?_); refine ⟨?_, hs1.keep⟩
                 unfold okForm
                 simp only [resVal]
                 simp_all
                 skip)
      · try exact Bool.noConfusion h38
        try simp only [ZZ] at h38
        refine HC_region (HLp rfl (HLm rfl ?_)); refine HL_nil (hK36 _ _ _ _ ?_); clear hK36 K36; refine HC_cond rfl (fun h106 => ?_) (fun h106 => ?_)
        · try exact Bool.noConfusion h106
          try simp only [ZZ] at h106
          refine HC_seq fun K107 hK107 => HC_region ?_
          refine HL_r rfl rfl rfl rfl (R_fieldAddr rfl rfl (by first | (simp only [Nat.zero_add, Nat.reduceAdd, Nat.reduceMul, Nat.zero_mul, Nat.mul_one, Nat.add_zero]; exact rfl) | exact rfl)) ?_; refine HL_r rfl rfl rfl rfl (R_load rfl (known_L (k := 0) rfl) rfl rfl) ?_; refine HL_r rfl rfl rfl rfl (R_lenPl rfl hs rfl) ?_; refine HLp rfl (HLm rfl ?_)
          refine HL_case 54 rfl (fun hb108 => ?_) (fun hb108 => ?_) <;> (try simp only [ZZ] at hb108) <;> first | (refine HL_r rfl rfl rfl rfl (R_fieldAddr rfl rfl (by first | (simp only [Nat.zero_add, Nat.reduceAdd, Nat.reduceMul, Nat.zero_mul, Nat.mul_one, Nat.add_zero]; exact rfl) | exact rfl)) ?_) | (refine HL_skip rfl rfl rfl ?_)
          all_goals first
            | (refine HL_r rfl rfl rfl rfl (R_load rfl (known_L (k := 0) rfl) rfl rfl) ?_)
            | (refine HL_skip rfl rfl rfl ?_)
          all_goals first
            | (refine HLp rfl ?_)
            | (refine HL_skip rfl rfl rfl ?_)
          all_goals first
            | (refine HL_r rfl rfl rfl rfl (R_pickT rfl rfl) ?_)
            | (refine HL_r rfl rfl rfl rfl (R_pickF rfl rfl) ?_)
          all_goals refine HLm rfl ?_
          all_goals first
            | (refine HL_skip rfl rfl rfl ?_)
            | (refine HL_case 59 rfl (fun hb111 => ?_) (fun hb111 => ?_) <;> (try simp only [ZZ] at hb111) <;> first | (refine HL_r rfl rfl rfl rfl (R_fieldAddr rfl rfl (by first | (simp only [Nat.zero_add, Nat.reduceAdd, Nat.reduceMul, Nat.zero_mul, Nat.mul_one, Nat.add_zero]; exact rfl) | exact rfl)) ?_) | (refine HL_skip rfl rfl rfl ?_))
          all_goals first
            | (refine HL_r rfl rfl rfl rfl (R_load rfl (known_L (k := 0) rfl) rfl rfl) ?_)
            | (refine HL_skip rfl rfl rfl ?_)
          all_goals first
            | (refine HLp rfl ?_)
            | (refine HL_skip rfl rfl rfl ?_)
          all_goals first
            | (refine HL_r rfl rfl rfl rfl (R_pickT rfl rfl) ?_)
            | (refine HL_r rfl rfl rfl rfl (R_pickF rfl rfl) ?_)
          all_goals refine HLm rfl ?_
          all_goals refine HL_nil ?_
          all_goals (
           refine hK107 _ _ _ _ ?_; clear hK107 K107; refine HC_ret (HQ_blockR (HQ_thenR ?_)); clear hK2 K2; refine HQ_post rfl rfl (.cons (res_tmp rfl) .nil) (fun w1 hs1 => ?_); refine ⟨?_, hs1.keep⟩
           unfold okForm
           simp only [resVal]
           simp_all
           first | done | rfl | omega | (rw [Bool.eq_iff_iff]; simp only [Bool.and_eq_true, decide_eq_true_eq]; omega)
           skip)
        · try exact Bool.noConfusion h106
          try simp only [ZZ] at h106
          refine HC_seq fun K114 hK114 => ?_; refine HC_seq fun K115 hK115 => HC_region ?_; refine HLp rfl (HLm rfl ?_); refine HL_nil (hK115 _ _ _ _ ?_); clear hK115 K115; refine HC_cond rfl (fun h116 => ?_) (fun h116 => ?_)
          · try exact Bool.noConfusion h116
            try simp only [ZZ] at h116
            refine HC_skip (hK114 _ _ _ _ ?_); clear hK114 K114; refine HC_cond rfl (fun h117 => ?_) (fun h117 => ?_)
            · try exact Bool.noConfusion h117
              try simp only [ZZ] at h117
              refine HC_seq fun K118 hK118 => HC_region ?_
              refine HL_r rfl rfl rfl rfl (R_fieldAddr rfl rfl (by first | (simp only [Nat.zero_add, Nat.reduceAdd, Nat.reduceMul, Nat.zero_mul, Nat.mul_one, Nat.add_zero]; exact rfl) | exact rfl)) ?_; refine HL_r rfl rfl rfl rfl (R_load rfl (known_L (k := 0) rfl) rfl rfl) ?_; refine HL_r rfl rfl rfl rfl (R_lenPl rfl hs rfl) ?_; refine HLp rfl (HLm rfl ?_)
              refine HL_case 71 rfl (fun hb119 => ?_) (fun hb119 => ?_) <;> (try simp only [ZZ] at hb119) <;> first | (refine HL_r rfl rfl rfl rfl (R_fieldAddr rfl rfl (by first | (simp only [Nat.zero_add, Nat.reduceAdd, Nat.reduceMul, Nat.zero_mul, Nat.mul_one, Nat.add_zero]; exact rfl) | exact rfl)) ?_) | (refine HL_skip rfl rfl rfl ?_)
              all_goals first
                | (refine HL_r rfl rfl rfl rfl (R_load rfl (known_L (k := 0) rfl) rfl rfl) ?_)
                | (refine HL_skip rfl rfl rfl ?_)
              all_goals first
                | (refine HLp rfl ?_)
                | (refine HL_skip rfl rfl rfl ?_)
              all_goals first
                | (refine HL_r rfl rfl rfl rfl (R_pickT rfl rfl) ?_)
                | (refine HL_r rfl rfl rfl rfl (R_pickF rfl rfl) ?_)
              all_goals refine HLm rfl ?_
              all_goals first
                | (refine HL_skip rfl rfl rfl ?_)
                | (refine HL_case 76 rfl (fun hb122 => ?_) (fun hb122 => ?_) <;> (try simp only [ZZ] at hb122) <;> first | (refine HL_r rfl rfl rfl rfl (R_fieldAddr rfl rfl (by first | (simp only [Nat.zero_add, Nat.reduceAdd, Nat.reduceMul, Nat.zero_mul, Nat.mul_one, Nat.add_zero]; exact rfl) | exact rfl)) ?_) | (refine HL_skip rfl rfl rfl ?_))
              all_goals first
                | (refine HL_r rfl rfl rfl rfl (R_load rfl (known_L (k := 0) rfl) rfl rfl) ?_)
                | (refine HL_skip rfl rfl rfl ?_)
              all_goals first
                | (refine HLp rfl ?_)
                | (refine HL_skip rfl rfl rfl ?_)
              all_goals first
                | (refine HL_r rfl rfl rfl rfl (R_pickT rfl rfl) ?_)
                | (refine HL_r rfl rfl rfl rfl (R_pickF rfl rfl) ?_)
              all_goals refine HLm rfl ?_
              all_goals refine HL_nil ?_
              all_goals (
               refine hK118 _ _ _ _ ?_; clear hK118 K118; refine HC_ret (HQ_blockR (HQ_thenR ?_)); clear hK2 K2; refine HQ_post rfl rfl (.cons (res_tmp rfl) .nil) (fun w1 hs1 => ?_); refine ⟨?_, hs1.keep⟩
               unfold okForm
               simp only [resVal]
               simp_all
               all_goals first | done | rfl | omega | (rw [Bool.eq_iff_iff]; simp only [Bool.and_eq_true, decide_eq_true_eq]; omega)
               skip)
            · try exact Bool.noConfusion h117
              try simp only [ZZ] at h117
              refine HC_seq fun K125 hK125 => HC_region ?_; refine HLp rfl (HLm rfl ?_); refine HL_nil (hK125 _ _ _ _ ?_); clear hK125 K125; refine HC_cond rfl (fun h126 => ?_) (fun h126 => ?_)
              · try exact Bool.noConfusion h126
                try simp only [ZZ] at h126
                refine HC_seq fun K127 hK127 => HC_region ?_
                refine HL_r rfl rfl rfl rfl (R_fieldAddr rfl rfl (by first | (simp only [Nat.zero_add, Nat.reduceAdd, Nat.reduceMul, Nat.zero_mul, Nat.mul_one, Nat.add_zero]; exact rfl) | exact rfl)) ?_; refine HL_r rfl rfl rfl rfl (R_load rfl (known_L (k := 0) rfl) rfl rfl) ?_; refine HLp rfl (HLm rfl ?_)
                refine HL_case 86 rfl (fun hb128 => ?_) (fun hb128 => ?_) <;> (try simp only [ZZ] at hb128) <;> first | (refine HL_r rfl rfl rfl rfl (R_fieldAddr rfl rfl (by first | (simp only [Nat.zero_add, Nat.reduceAdd, Nat.reduceMul, Nat.zero_mul, Nat.mul_one, Nat.add_zero]; exact rfl) | exact rfl)) ?_) | (refine HL_skip rfl rfl rfl ?_)
                all_goals first
                  | (refine HL_r rfl rfl rfl rfl (R_load rfl (known_L (k := 0) rfl) rfl rfl) ?_)
                  | (refine HL_skip rfl rfl rfl ?_)
                all_goals first
                  | (refine HL_r rfl rfl rfl rfl (R_lenPl rfl hs rfl) ?_)
                  | (refine HL_skip rfl rfl rfl ?_)
                all_goals first
                  | (refine HLp rfl ?_)
                  | (refine HL_skip rfl rfl rfl ?_)
                all_goals first
                  | (refine HL_r rfl rfl rfl rfl (R_pickT rfl rfl) ?_)
                  | (refine HL_r rfl rfl rfl rfl (R_pickF rfl rfl) ?_)
                all_goals refine HLm rfl ?_
                all_goals first
                  | (refine HL_skip rfl rfl rfl ?_)
                  | (refine HL_case 92 rfl (fun hb132 => ?_) (fun hb132 => ?_) <;> (try simp only [ZZ] at hb132) <;> first | (refine HL_r rfl rfl rfl rfl (R_fieldAddr rfl rfl (by first | (simp only [Nat.zero_add, Nat.reduceAdd, Nat.reduceMul, Nat.zero_mul, Nat.mul_one, Nat.add_zero]; exact rfl) | exact rfl)) ?_) | (refine HL_skip rfl rfl rfl ?_))
                all_goals first
                  | (refine HL_r rfl rfl rfl rfl (R_load rfl (known_L (k := 0) rfl) rfl rfl) ?_)
                  | (refine HL_skip rfl rfl rfl ?_)
                all_goals first
                  | (refine HL_r rfl rfl rfl rfl (R_lenPl rfl hs rfl) ?_)
                  | (refine HL_skip rfl rfl rfl ?_)
                all_goals first
                  | (refine HLp rfl ?_)
                  | (refine HL_skip rfl rfl rfl ?_)
                all_goals first
                  | (refine HL_r rfl rfl rfl rfl (R_pickT rfl rfl) ?_)
                  | (refine HL_r rfl rfl rfl rfl (R_pickF rfl rfl) ?_)
                all_goals refine HLm rfl ?_
                all_goals refine HL_nil ?_
                all_goals (
                 refine hK127 _ _ _ _ ?_; clear hK127 K127; refine HC_ret (HQ_blockR (HQ_thenR ?_)); clear hK2 K2; refine HQ_post rfl rfl (.cons (res_tmp rfl) .nil) (fun w1 hs1 => ?_); refine ⟨?_, hs1.keep⟩
                 unfold okForm
                 simp only [resVal]
                 simp_all
                 skip)
              · try exact Bool.noConfusion h126
                try simp only [ZZ] at h126
                refine HC_skip (HQ_blockN (hK2 _ _ _ _ ?_)); clear hK2 K2; refine HC_seq fun K136 hK136 => HC_region ?_
                refine HL_r rfl rfl rfl rfl (R_fieldAddr rfl rfl (by first | (simp only [Nat.zero_add, Nat.reduceAdd, Nat.reduceMul, Nat.zero_mul, Nat.mul_one, Nat.add_zero]; exact rfl) | exact rfl)) ?_; refine HL_r rfl rfl rfl rfl (R_load rfl (known_L (k := 0) rfl) rfl rfl) ?_; refine HLp rfl (HLm rfl ?_)
                refine HL_case 101 rfl (fun hb137 => ?_) (fun hb137 => ?_) <;> (try simp only [ZZ] at hb137) <;> first | (refine HL_r rfl rfl rfl rfl (R_fieldAddr rfl rfl (by first | (simp only [Nat.zero_add, Nat.reduceAdd, Nat.reduceMul, Nat.zero_mul, Nat.mul_one, Nat.add_zero]; exact rfl) | exact rfl)) ?_) | (refine HL_skip rfl rfl rfl ?_)
                all_goals first
                  | (refine HL_r rfl rfl rfl rfl (R_load rfl (known_L (k := 0) rfl) rfl rfl) ?_)
                  | (refine HL_skip rfl rfl rfl ?_)
                all_goals first
                  | (refine HL_r rfl rfl rfl rfl (R_lenPl rfl hs rfl) ?_)
                  | (refine HL_skip rfl rfl rfl ?_)
                all_goals first
                  | (refine HLp rfl ?_)
                  | (refine HL_skip rfl rfl rfl ?_)
                all_goals first
                  | (refine HL_r rfl rfl rfl rfl (R_pickT rfl rfl) ?_)
                  | (refine HL_r rfl rfl rfl rfl (R_pickF rfl rfl) ?_)
                all_goals refine HLm rfl ?_
                all_goals first
                  | (refine HL_skip rfl rfl rfl ?_)
                  | (refine HL_case 107 rfl (fun hb141 => ?_) (fun hb141 => ?_) <;> (try simp only [ZZ] at hb141) <;> first | (refine HL_r rfl rfl rfl rfl (R_fieldAddr rfl rfl (by first | (simp only [Nat.zero_add, Nat.reduceAdd, Nat.reduceMul, Nat.zero_mul, Nat.mul_one, Nat.add_zero]; exact rfl) | exact rfl)) ?_) | (refine HL_skip rfl rfl rfl ?_))
                all_goals first
                  | (refine HL_r rfl rfl rfl rfl (R_load rfl (known_L (k := 0) rfl) rfl rfl) ?_)
                  | (refine HL_skip rfl rfl rfl ?_)
                all_goals first
                  | (refine HL_r rfl rfl rfl rfl (R_lenPl rfl hs rfl) ?_)
                  | (refine HL_skip rfl rfl rfl ?_)
                all_goals first
                  | (refine HLp rfl ?_)
                  | (refine HL_skip rfl rfl rfl ?_)
                all_goals first
                  | (refine HL_r rfl rfl rfl rfl (R_pickT rfl rfl) ?_)
                  | (refine HL_r rfl rfl rfl rfl (R_pickF rfl rfl) ?_)
                all_goals refine HLm rfl ?_
                all_goals refine HL_nil ?_
                all_goals (
                 refine hK136 _ _ _ _ ?_; clear hK136 K136; refine HC_ret ?_; refine HQ_post rfl rfl (.cons (res_tmp rfl) .nil) (fun w1 hs1 => ?_); refine ⟨?_, hs1.keep⟩
                 unfold okForm
                 simp only [resVal]
                 simp_all
                 skip)
          · try exact Bool.noConfusion h116
            try simp only [ZZ] at h116
            refine HC_region (HLp rfl (HLm rfl ?_)); refine HL_nil (hK114 _ _ _ _ ?_); clear hK114 K114; refine HC_cond rfl (fun h145 => ?_) (fun h145 => ?_)
            · try exact Bool.noConfusion h145
              try simp only [ZZ] at h145
              refine HC_seq fun K146 hK146 => HC_region ?_
              refine HL_r rfl rfl rfl rfl (R_fieldAddr rfl rfl (by first | (simp only [Nat.zero_add, Nat.reduceAdd, Nat.reduceMul, Nat.zero_mul, Nat.mul_one, Nat.add_zero]; exact rfl) | exact rfl)) ?_; refine HL_r rfl rfl rfl rfl (R_load rfl (known_L (k := 0) rfl) rfl rfl) ?_; refine HL_r rfl rfl rfl rfl (R_lenPl rfl hs rfl) ?_; refine HLp rfl (HLm rfl ?_)
              refine HL_case 71 rfl (fun hb147 => ?_) (fun hb147 => ?_) <;> (try simp only [ZZ] at hb147) <;> first | (refine HL_r rfl rfl rfl rfl (R_fieldAddr rfl rfl (by first | (simp only [Nat.zero_add, Nat.reduceAdd, Nat.reduceMul, Nat.zero_mul, Nat.mul_one, Nat.add_zero]; exact rfl) | exact rfl)) ?_) | (refine HL_skip rfl rfl rfl ?_)
              all_goals first
                | (refine HL_r rfl rfl rfl rfl (R_load rfl (known_L (k := 0) rfl) rfl rfl) ?_)
                | (refine HL_skip rfl rfl rfl ?_)
              all_goals first
                | (refine HLp rfl ?_)
                | (refine HL_skip rfl rfl rfl ?_)
              all_goals first
                | (refine HL_r rfl rfl rfl rfl (R_pickT rfl rfl) ?_)
                | (refine HL_r rfl rfl rfl rfl (R_pickF rfl rfl) ?_)
              all_goals refine HLm rfl ?_
              all_goals first
                | (refine HL_skip rfl rfl rfl ?_)
                | (refine HL_case 76 rfl (fun hb150 => ?_) (fun hb150 => ?_) <;> (try simp only [ZZ] at hb150) <;> first | (refine HL_r rfl rfl rfl rfl (R_fieldAddr rfl rfl (by first | (simp only [Nat.zero_add, Nat.reduceAdd, Nat.reduceMul, Nat.zero_mul, Nat.mul_one, Nat.add_zero]; exact rfl) | exact rfl)) ?_) | (refine HL_skip rfl rfl rfl ?_))
              all_goals first
                | (refine HL_r rfl rfl rfl rfl (R_load rfl (known_L (k := 0) rfl) rfl rfl) ?_)
                | (refine HL_skip rfl rfl rfl ?_)
              all_goals first
                | (refine HLp rfl ?_)
                | (refine HL_skip rfl rfl rfl ?_)
              all_goals first
                | (refine HL_r rfl rfl rfl rfl (R_pickT rfl rfl) ?_)
                | (refine HL_r rfl rfl rfl rfl (R_pickF rfl rfl) ?_)
              all_goals refine HLm rfl ?_
              all_goals refine HL_nil ?_
              all_goals (
               refine hK146 _ _ _ _ ?_; clear hK146 K146; refine HC_ret (HQ_blockR (HQ_thenR ?_)); clear hK2 K2; refine HQ_post rfl rfl (.cons (res_tmp rfl) .nil) (fun w1 hs1 => ?_); refine ⟨?_, hs1.keep⟩
               unfold okForm
               simp only [resVal]
               simp_all
               all_goals first | done | rfl | omega | (rw [Bool.eq_iff_iff]; simp only [Bool.and_eq_true, decide_eq_true_eq]; omega)
               skip)
            · try exact Bool.noConfusion h145
              try simp only [ZZ] at h145
              refine HC_seq fun K153 hK153 => HC_region ?_; refine HLp rfl (HLm rfl ?_); refine HL_nil (hK153 _ _ _ _ ?_); clear hK153 K153; refine HC_cond rfl (fun h154 => ?_) (fun h154 => ?_)
              · try exact Bool.noConfusion h154
                try simp only [ZZ] at h154
                refine HC_seq fun K155 hK155 => HC_region ?_
                refine HL_r rfl rfl rfl rfl (R_fieldAddr rfl rfl (by first | (simp only [Nat.zero_add, Nat.reduceAdd, Nat.reduceMul, Nat.zero_mul, Nat.mul_one, Nat.add_zero]; exact rfl) | exact rfl)) ?_; refine HL_r rfl rfl rfl rfl (R_load rfl (known_L (k := 0) rfl) rfl rfl) ?_; refine HLp rfl (HLm rfl ?_)
                refine HL_case 86 rfl (fun hb156 => ?_) (fun hb156 => ?_) <;> (try simp only [ZZ] at hb156) <;> first | (refine HL_r rfl rfl rfl rfl (R_fieldAddr rfl rfl (by first | (simp only [Nat.zero_add, Nat.reduceAdd, Nat.reduceMul, Nat.zero_mul, Nat.mul_one, Nat.add_zero]; exact rfl) | exact rfl)) ?_) | (refine HL_skip rfl rfl rfl ?_)
                all_goals first
                  | (refine HL_r rfl rfl rfl rfl (R_load rfl (known_L (k := 0) rfl) rfl rfl) ?_)
                  | (refine HL_skip rfl rfl rfl ?_)
                all_goals first
                  | (refine HL_r rfl rfl rfl rfl (R_lenPl rfl hs rfl) ?_)
                  | (refine HL_skip rfl rfl rfl ?_)
                all_goals first
                  | (refine HLp rfl ?_)
                  | (refine HL_skip rfl rfl rfl ?_)
                all_goals first
                  | (refine HL_r rfl rfl rfl rfl (R_pickT rfl rfl) ?_)
                  | (refine HL_r rfl rfl rfl rfl (R_pickF rfl rfl) ?_)
                all_goals refine HLm rfl ?_
                all_goals first
                  | (refine HL_skip rfl rfl rfl ?_)
                  | (refine HL_case 92 rfl (fun hb160 => ?_) (fun hb160 => ?_) <;> (try simp only [ZZ] at hb160) <;> first | (refine HL_r rfl rfl rfl rfl (R_fieldAddr rfl rfl (by first | (simp only [Nat.zero_add, Nat.reduceAdd, Nat.reduceMul, Nat.zero_mul, Nat.mul_one, Nat.add_zero]; exact rfl) | exact rfl)) ?_) | (refine HL_skip rfl rfl rfl ?_))
                all_goals first
                  | (refine HL_r rfl rfl rfl rfl (R_load rfl (known_L (k := 0) rfl) rfl rfl) ?_)
                  | (refine HL_skip rfl rfl rfl ?_)
                all_goals first
                  | (refine HL_r rfl rfl rfl rfl (R_lenPl rfl hs rfl) ?_)
                  | (refine HL_skip rfl rfl rfl ?_)
                all_goals first
                  | (refine HLp rfl ?_)
                  | (refine HL_skip rfl rfl rfl ?_)
                all_goals first
                  | (refine HL_r rfl rfl rfl rfl (R_pickT rfl rfl) ?_)
                  | (refine HL_r rfl rfl rfl rfl (R_pickF rfl rfl) ?_)
                all_goals refine HLm rfl ?_
                all_goals refine HL_nil ?_
                all_goals (
                 refine hK155 _ _ _ _ ?_; clear hK155 K155; refine HC_ret (HQ_blockR (HQ_thenR ?_)); clear hK2 K2; refine HQ_post rfl rfl (.cons (res_tmp rfl) .nil) (fun w1 hs1 => ?_); refine ⟨?_, hs1.keep⟩
                 unfold okForm
                 simp only [resVal]
                 simp_all
                 all_goals first | done | rfl | omega | (rw [Bool.eq_iff_iff]; simp only [Bool.and_eq_true, decide_eq_true_eq]; omega)
                 skip)
              · try exact Bool.noConfusion h154
                try simp only [ZZ] at h154
                refine HC_skip (HQ_blockN (hK2 _ _ _ _ ?_)); clear hK2 K2; refine HC_seq fun K164 hK164 => HC_region ?_
                refine HL_r rfl rfl rfl rfl (R_fieldAddr rfl rfl (by first | (simp only [Nat.zero_add, Nat.reduceAdd, Nat.reduceMul, Nat.zero_mul, Nat.mul_one, Nat.add_zero]; exact rfl) | exact rfl)) ?_; refine HL_r rfl rfl rfl rfl (R_load rfl (known_L (k := 0) rfl) rfl rfl) ?_; refine HLp rfl (HLm rfl ?_)
                refine HL_case 101 rfl (fun hb165 => ?_) (fun hb165 => ?_) <;> (try simp only [ZZ] at hb165) <;> first | (refine HL_r rfl rfl rfl rfl (R_fieldAddr rfl rfl (by first | (simp only [Nat.zero_add, Nat.reduceAdd, Nat.reduceMul, Nat.zero_mul, Nat.mul_one, Nat.add_zero]; exact rfl) | exact rfl)) ?_) | (refine HL_skip rfl rfl rfl ?_)
                all_goals first
                  | (refine HL_r rfl rfl rfl rfl (R_load rfl (known_L (k := 0) rfl) rfl rfl) ?_)
                  | (refine HL_skip rfl rfl rfl ?_)
                all_goals first
                  | (refine HL_r rfl rfl rfl rfl (R_lenPl rfl hs rfl) ?_)
                  | (refine HL_skip rfl rfl rfl ?_)
                all_goals first
                  | (refine HLp rfl ?_)
                  | (refine HL_skip rfl rfl rfl ?_)
                all_goals first
                  | (refine HL_r rfl rfl rfl rfl (R_pickT rfl rfl) ?_)
                  | (refine HL_r rfl rfl rfl rfl (R_pickF rfl rfl) ?_)
                all_goals refine HLm rfl ?_
                all_goals first
                  | (refine HL_skip rfl rfl rfl ?_)
                  | (refine HL_case 107 rfl (fun hb169 => ?_) (fun hb169 => ?_) <;> (try simp only [ZZ] at hb169) <;> first | (refine HL_r rfl rfl rfl rfl (R_fieldAddr rfl rfl (by first | (simp only [Nat.zero_add, Nat.reduceAdd, Nat.reduceMul, Nat.zero_mul, Nat.mul_one, Nat.add_zero]; exact rfl) | exact rfl)) ?_) | (refine HL_skip rfl rfl rfl ?_))
                all_goals first
                  | (refine HL_r rfl rfl rfl rfl (R_load rfl (known_L (k := 0) rfl) rfl rfl) ?_)
                  | (refine HL_skip rfl rfl rfl ?_)
                all_goals first
                  | (refine HL_r rfl rfl rfl rfl (R_lenPl rfl hs rfl) ?_)
                  | (refine HL_skip rfl rfl rfl ?_)
                all_goals first
                  | (refine HLp rfl ?_)
                  | (refine HL_skip rfl rfl rfl ?_)
                all_goals first
                  | (refine HL_r rfl rfl rfl rfl (R_pickT rfl rfl) ?_)
                  | (refine HL_r rfl rfl rfl rfl (R_pickF rfl rfl) ?_)
                all_goals refine HLm rfl ?_
                all_goals refine HL_nil ?_
                all_goals (
                 refine hK164 _ _ _ _ ?_; clear hK164 K164; refine HC_ret ?_; refine HQ_post rfl rfl (.cons (res_tmp rfl) .nil) (fun w1 hs1 => ?_); refine ⟨?_, hs1.keep⟩
                 unfold okForm
                 simp only [resVal]
                 simp_all
                 all_goals first | done | rfl | omega | (rw [Bool.eq_iff_iff]; simp only [Bool.and_eq_true, decide_eq_true_eq]; omega)
                 skip)
end Go.Proofs.YtlcbfphioeppaaaGreatDoor
namespace Go.Proofs.YtlcbfphioeppaaaGreatDoor
set_option linter.all false
open Go.SL Go.RowKit Go.Shelf
set_option maxRecDepth 10000 in
theorem S_ref_check {R : List (Nat × Obj)} {t : Ty} (ht : t.In R) : ∀ d : Int, 0 ≤ d → d ≤ 1000 → PureR Tryz.prog 85 [t.val, .int .i64 d].toArray (.int .i64 (chk t d)) R := by
  induction ht with
  | @mk k n p ins hk hn hl hs hi ih =>
  intro d hd0 hd1
  have hform := S_ref_form (.mk hk hn hl hs hi : Ty.In R (.mk k n p ins))
  refine pureR_of_HC Tryz.func85 rfl rfl fun w => ?_; refine HC_seq fun K1 hK1 => HC_region ?_; refine HL_box (cs := #[_, _, _]) rfl rfl rfl rfl fun r1 => ?_; refine HLm rfl ?_; refine HL_nil (hK1 _ _ _ _ ?_); clear hK1 K1; refine HC_seq fun K2 hK2 => ?_; refine HC_seq fun K3 hK3 => HC_region ?_
  refine HL_r rfl rfl rfl rfl (R_fieldAddr rfl rfl (by first | (simp only [Nat.zero_add, Nat.reduceAdd, Nat.reduceMul, Nat.zero_mul, Nat.mul_one, Nat.add_zero]; exact rfl) | exact rfl)) ?_; refine HL_r rfl rfl rfl rfl (R_load rfl (known_L (k := 0) rfl) rfl rfl) ?_; refine HLp rfl (HLm rfl ?_)
  refine HL_case 11 rfl (fun hb4 => ?_) (fun hb4 => ?_) <;> (try simp only [ZZ] at hb4) <;> first | (refine HL_r rfl rfl rfl rfl (R_fieldAddr rfl rfl (by first | (simp only [Nat.zero_add, Nat.reduceAdd, Nat.reduceMul, Nat.zero_mul, Nat.mul_one, Nat.add_zero]; exact rfl) | exact rfl)) ?_) | (refine HL_skip rfl rfl rfl ?_)
  all_goals first
    | (refine HL_r rfl rfl rfl rfl (R_load rfl (known_L (k := 0) rfl) rfl rfl) ?_)
    | (refine HL_skip rfl rfl rfl ?_)
  all_goals first
    | (refine HLp rfl ?_)
    | (refine HL_skip rfl rfl rfl ?_)
  all_goals first
    | (refine HL_r rfl rfl rfl rfl (R_pickT rfl rfl) ?_)
    | (refine HL_r rfl rfl rfl rfl (R_pickF rfl rfl) ?_)
  all_goals refine HL_nil ?_
  all_goals (
   refine hK3 _ _ _ _ ?_; clear hK3 K3; refine HC_cond rfl (fun h7 => ?_) (fun h7 => ?_)
   · try exact Bool.noConfusion h7
     try simp only [ZZ] at h7
     refine HC_seq fun K8 hK8 => HC_region ?_; refine HLm rfl ?_; refine HL_nil (hK8 _ _ _ _ ?_); clear hK8 K8; refine HC_ret (HQ_thenR ?_); clear hK2 K2; refine HQ_post rfl rfl (.cons (res_tmp rfl) .nil) (fun w1 hs1 => ?_); refine ⟨?_, hs1.keep⟩; rw [chk, if_pos (by omega)]; rfl
   · try exact Bool.noConfusion h7
     all_goals try simp only [ZZ] at h7
     all_goals (
      refine HC_skip (hK2 _ _ _ _ ?_); clear hK2 K2; refine HC_seq fun K9 hK9 => HC_region ?_; refine HL_r rfl rfl rfl rfl (R_loadA (vs := [_, _, _]) rfl (known_L (k := 0) rfl) rfl rfl rfl rfl) ?_; refine HL_callR rfl rfl rfl (enters_of Tryz.func133 (by kernel_rfl) rfl) hform (fun q hq => Or.inr hq) ?_; refine HLm rfl ?_; refine HL_nil (hK9 _ _ _ _ ?_); clear hK9 K9; refine HC_seq fun K10 hK10 => ?_; refine HC_seq fun K11 hK11 => HC_region ?_; refine HLm rfl (HLp rfl ?_); refine HL_nil (hK11 _ _ _ _ ?_); clear hK11 K11; refine HC_cond rfl (fun h12 => ?_) (fun h12 => ?_)
      · try exact Bool.noConfusion h12
        try simp only [ZZ] at h12
        refine HC_seq fun K13 hK13 => HC_region ?_; refine HLm rfl ?_; refine HL_nil (hK13 _ _ _ _ ?_); clear hK13 K13; refine HC_ret (HQ_thenR ?_); clear hK10 K10; refine HQ_post rfl rfl (.cons (res_tmp rfl) .nil) (fun w1 hs1 => ?_); refine ⟨?_, hs1.keep⟩; rw [chk, if_neg (by omega), if_pos (by assumption)]; rfl
      · try exact Bool.noConfusion h12
        try simp only [ZZ] at h12
        refine HC_skip (hK10 _ _ _ _ ?_); clear hK10 K10; refine HC_seq fun K14 hK14 => ?_; refine HC_seq fun K15 hK15 => HC_region ?_; refine HLm rfl (HLp rfl ?_); refine HL_nil (hK15 _ _ _ _ ?_); clear hK15 K15; refine HC_cond rfl (fun h16 => ?_) (fun h16 => ?_)
        · try exact Bool.noConfusion h16
          try simp only [ZZ] at h16
          refine HC_seq fun K17 hK17 => HC_region ?_; refine HLm rfl ?_; refine HL_nil (hK17 _ _ _ _ ?_); clear hK17 K17; refine HC_ret (HQ_thenR ?_); clear hK14 K14; refine HQ_post rfl rfl (.cons (res_tmp rfl) .nil) (fun w1 hs1 => ?_); refine ⟨?_, hs1.keep⟩; rw [chk, if_neg (by omega), if_neg (by simp_all), if_pos (by omega)]; rfl
        · try exact Bool.noConfusion h16
          try simp only [ZZ] at h16
          refine HC_skip (hK14 _ _ _ _ ?_); clear hK14 K14; refine HC_seq fun K18 hK18 => ?_; refine HC_seq fun K19 hK19 => HC_region ?_; refine HLm rfl ?_; refine HL_nil (hK19 _ _ _ _ ?_); clear hK19 K19; refine HC_block (HC_loop (σ := Nat) (fun i => i ≤ ins.length ∧ chkL (ins.drop i) (d + 1) = chkL ins (d + 1)) (fun i => [(1, .int .i64 d), (2, .pointer (some ⟨r1, 0, none⟩)), (6, .int .i64 (i : Int))]) (fun _ => [(r1, .cells #[.int .i64 k, .int .i64 n, plV ins.length p] 24 (0, 0))]) (fun _ _ _ => True) (fun i => ins.length - i) 0 ⟨by omega, rfl⟩ (.cons rfl (.cons rfl (.cons rfl .nil))) (List.Sublist.refl _) (fun _ _ h => h) ?_); rintro i ⟨hi1, hinv⟩; refine HC_seq fun K20 hK20 => ?_; refine HC_seq fun K21 hK21 => HC_region ?_; refine HLm rfl ?_
          refine HL_r rfl rfl rfl rfl (R_fieldAddr rfl rfl (by first | (simp only [Nat.zero_add, Nat.reduceAdd, Nat.reduceMul, Nat.zero_mul, Nat.mul_one, Nat.add_zero]; exact rfl) | exact rfl)) ?_; refine HL_r rfl rfl rfl rfl (R_load rfl (known_L (k := 0) rfl) rfl rfl) ?_; refine HL_r rfl rfl rfl rfl (R_lenPl rfl hs rfl) ?_; refine HLp rfl ?_; refine HL_nil (hK21 _ _ _ _ ?_); clear hK21 K21; refine HC_cond rfl (fun h22 => ?_) (fun h22 => ?_)
          · try exact Bool.noConfusion h22
            try simp only [ZZ] at h22
            refine HC_skip (hK20 _ _ _ _ ?_); clear hK20 K20; refine HC_seq fun K23 hK23 => HC_block ?_; refine HC_seq fun K24 hK24 => ?_
            obtain ⟨y, hy, hmem⟩ := getI (show i < ins.length by omega)
            rw [dropI hy, chkL] at hinv; refine HC_region ?_
            refine HL_r rfl rfl rfl rfl (R_fieldAddr rfl rfl (by first | (simp only [Nat.zero_add, Nat.reduceAdd, Nat.reduceMul, Nat.zero_mul, Nat.mul_one, Nat.add_zero]; exact rfl) | exact rfl)) ?_; refine HL_r rfl rfl rfl rfl (R_load rfl (known_L (k := 0) rfl) rfl rfl) ?_; refine HLm rfl (HL_r rfl rfl rfl rfl (R_indexPl (j := i) rfl hs rfl rfl rfl rfl (by omega)) (HL_r rfl rfl rfl rfl (R_loadTy (fun q hq => Or.inr hq) rfl hs hy rfl rfl) ?_)); refine HLm rfl (HLp rfl (HL_wrap_i64 (by omega) (by omega) ?_)); refine HL_callR rfl rfl rfl (enters_of Tryz.func85 (by kernel_rfl) rfl) (ih y hmem (d + 1) (by omega) (by omega)) (fun q hq => Or.inr hq) ?_; refine HLm rfl ?_; refine HL_nil (hK24 _ _ _ _ ?_); clear hK24 K24; refine HC_seq fun K25 hK25 => HC_region ?_; refine HLm rfl (HLp rfl ?_); refine HL_nil (hK25 _ _ _ _ ?_); clear hK25 K25; refine HC_cond rfl (fun h26 => ?_) (fun h26 => ?_)
            · try exact Bool.noConfusion h26
              try simp only [ZZ] at h26
              refine HC_seq fun K27 hK27 => HC_region ?_; refine HLm rfl (HLm rfl ?_); refine HL_nil (hK27 _ _ _ _ ?_); clear hK27 K27; refine HC_ret (HQ_blockR (HQ_thenR ?_)); clear hK23 K23; refine HQ_thenR (HQ_blockR (HQ_thenR ?_)); clear hK18 K18; refine HQ_post rfl rfl (.cons (res_tmp rfl) .nil) (fun w1 hs1 => ?_); refine ⟨?_, hs1.keep⟩; rw [chk, if_neg (by omega), if_neg (by simp_all), if_neg (by omega), ← hinv, if_neg (by assumption)]; rfl
            · try exact Bool.noConfusion h26
              try simp only [ZZ] at h26
              refine HC_skip (HQ_blockN (hK23 _ _ _ _ ?_)); clear hK23 K23; refine HC_region (HLm rfl ?_); refine HLp rfl (HL_wrap_i64 (by omega) (by omega) ?_); refine HLm rfl (HL_nil (HQ_then ?_)); exact HQ_again (i + 1) ⟨by omega, by rw [if_pos (by assumption)] at hinv; exact hinv⟩ (by omega) (.cons rfl (.cons rfl (.cons rfl .nil))) (List.Sublist.refl _) (fun _ _ h => h)
          · try exact Bool.noConfusion h22
            try simp only [ZZ] at h22
            refine HC_exit (HQ_thenE ?_); clear hK20 K20; refine HQ_thenE (HQ_blockE (hK18 _ _ _ _ ?_)); clear hK18 K18; refine HC_seq fun K28 hK28 => HC_region ?_; refine HLm rfl ?_; refine HL_nil (hK28 _ _ _ _ ?_); clear hK28 K28; refine HC_ret ?_; refine HQ_post rfl rfl (.cons (res_tmp rfl) .nil) (fun w1 hs1 => ?_); refine ⟨?_, hs1.keep⟩; rw [chk, if_neg (by omega), if_neg (by simp_all), if_neg (by omega), ← hinv, List.drop_of_length_le (by omega), chkL]; rfl
      skip)
   skip)
set_option maxRecDepth 10000 in
theorem S_ref_Check {R : List (Nat × Obj)} {t : Ty} (ht : t.In R) : PureR Tryz.prog 44 [t.val].toArray (.int .i64 (chk t 0)) R := by
  have h1 := S_ref_check ht 0 (by omega) (by omega)
  obtain ⟨k, n, p, ins⟩ := t
  refine pureR_of_HC Tryz.func44 rfl rfl fun w => ?_; refine HC_seq fun K1 hK1 => HC_region ?_; refine HL_box (cs := #[_, _, _]) rfl rfl rfl rfl fun r1 => ?_; refine HLm rfl ?_; refine HL_nil (hK1 _ _ _ _ ?_); refine HC_seq fun K2 hK2 => HC_region ?_; refine HL_r rfl rfl rfl rfl (R_loadA (vs := [_, _, _]) rfl (known_L (k := 0) rfl) rfl rfl rfl rfl) ?_; refine HL_callR rfl rfl rfl (enters_of Tryz.func85 (by kernel_rfl) rfl) h1 (fun q hq => Or.inr hq) ?_; refine HLm rfl ?_; refine HL_nil (hK2 _ _ _ _ ?_); refine HC_ret ?_; refine HQ_post rfl rfl (.cons (res_tmp rfl) .nil) (fun w1 hs1 => ?_); exact ⟨rfl, hs1.keep⟩
set_option maxRecDepth 10000 in
theorem S_ref_fixed {R : List (Nat × Obj)} {t : Ty} (ht : t.In R) : PureR Tryz.prog 128 [t.val].toArray (.bool (fixT t)) R := by
  induction ht with
  | @mk k n p ins hk hn hl hs hi ih =>
  refine pureR_of_HC Tryz.func128 rfl rfl fun w => ?_; refine HC_seq fun K1 hK1 => HC_region ?_; refine HL_box (cs := #[_, _, _]) rfl rfl rfl rfl fun r1 => ?_; refine HLm rfl ?_; refine HL_nil (hK1 _ _ _ _ ?_); clear hK1 K1; refine HC_seq fun K2 hK2 => ?_; refine HC_seq fun K3 hK3 => HC_region ?_
  refine HL_r rfl rfl rfl rfl (R_fieldAddr rfl rfl (by first | (simp only [Nat.zero_add, Nat.reduceAdd, Nat.reduceMul, Nat.zero_mul, Nat.mul_one, Nat.add_zero]; exact rfl) | exact rfl)) ?_; refine HL_r rfl rfl rfl rfl (R_load rfl (known_L (k := 0) rfl) rfl rfl) ?_; refine HLp rfl (HLm rfl ?_)
  refine HL_case 7 rfl (fun hb4 => ?_) (fun hb4 => ?_) <;> (try simp only [ZZ] at hb4) <;> first | (refine HL_r rfl rfl rfl rfl (R_fieldAddr rfl rfl (by first | (simp only [Nat.zero_add, Nat.reduceAdd, Nat.reduceMul, Nat.zero_mul, Nat.mul_one, Nat.add_zero]; exact rfl) | exact rfl)) ?_) | (refine HL_skip rfl rfl rfl ?_)
  all_goals first
    | (refine HL_r rfl rfl rfl rfl (R_load rfl (known_L (k := 0) rfl) rfl rfl) ?_)
    | (refine HL_skip rfl rfl rfl ?_)
  all_goals first
    | (refine HLp rfl ?_)
    | (refine HL_skip rfl rfl rfl ?_)
  all_goals first
    | (refine HL_r rfl rfl rfl rfl (R_pickT rfl rfl) ?_)
    | (refine HL_r rfl rfl rfl rfl (R_pickF rfl rfl) ?_)
  all_goals refine HLm rfl ?_
  all_goals first
    | (refine HL_skip rfl rfl rfl ?_)
    | (refine HL_case 12 rfl (fun hb7 => ?_) (fun hb7 => ?_) <;> (try simp only [ZZ] at hb7) <;> first | (refine HL_r rfl rfl rfl rfl (R_fieldAddr rfl rfl (by first | (simp only [Nat.zero_add, Nat.reduceAdd, Nat.reduceMul, Nat.zero_mul, Nat.mul_one, Nat.add_zero]; exact rfl) | exact rfl)) ?_) | (refine HL_skip rfl rfl rfl ?_))
  all_goals first
    | (refine HL_r rfl rfl rfl rfl (R_load rfl (known_L (k := 0) rfl) rfl rfl) ?_)
    | (refine HL_skip rfl rfl rfl ?_)
  all_goals first
    | (refine HLp rfl ?_)
    | (refine HL_skip rfl rfl rfl ?_)
  all_goals first
    | (refine HL_r rfl rfl rfl rfl (R_pickT rfl rfl) ?_)
    | (refine HL_r rfl rfl rfl rfl (R_pickF rfl rfl) ?_)
  all_goals refine HL_nil ?_
  all_goals (
   refine hK3 _ _ _ _ ?_; clear hK3 K3; refine HC_cond rfl (fun h10 => ?_) (fun h10 => ?_)
   · try exact Bool.noConfusion h10
     try simp only [ZZ] at h10
     refine HC_seq fun K11 hK11 => HC_region ?_; refine HLm rfl ?_; refine HL_nil (hK11 _ _ _ _ ?_); clear hK11 K11; refine HC_ret (HQ_thenR ?_); clear hK2 K2; refine HQ_post rfl rfl (.cons (res_tmp rfl) .nil) (fun w1 hs1 => ?_); refine ⟨?_, hs1.keep⟩; rw [fixT]
     simp_all [resVal]; done
   · try exact Bool.noConfusion h10
     all_goals try simp only [ZZ] at h10
     all_goals (
      refine HC_skip (hK2 _ _ _ _ ?_); clear hK2 K2; refine HC_seq fun K12 hK12 => ?_; refine HC_seq fun K13 hK13 => HC_region ?_; refine HLm rfl ?_; refine HL_nil (hK13 _ _ _ _ ?_); clear hK13 K13; refine HC_block (HC_loop (σ := Nat) (fun i => i ≤ ins.length ∧ fixL (ins.drop i) = fixL ins) (fun i => [(1, .pointer (some ⟨r1, 0, none⟩)), (3, .int .i64 (i : Int))]) (fun _ => [(r1, .cells #[.int .i64 k, .int .i64 n, plV ins.length p] 24 (0, 0))]) (fun _ _ _ => True) (fun i => ins.length - i) 0 ⟨by omega, rfl⟩ (.cons rfl (.cons rfl .nil)) (List.Sublist.refl _) (fun _ _ h => h) ?_); rintro i ⟨hi1, hinv⟩; refine HC_seq fun K14 hK14 => ?_; refine HC_seq fun K15 hK15 => HC_region ?_; refine HLm rfl ?_
      refine HL_r rfl rfl rfl rfl (R_fieldAddr rfl rfl (by first | (simp only [Nat.zero_add, Nat.reduceAdd, Nat.reduceMul, Nat.zero_mul, Nat.mul_one, Nat.add_zero]; exact rfl) | exact rfl)) ?_; refine HL_r rfl rfl rfl rfl (R_load rfl (known_L (k := 0) rfl) rfl rfl) ?_; refine HL_r rfl rfl rfl rfl (R_lenPl rfl hs rfl) ?_; refine HLp rfl ?_; refine HL_nil (hK15 _ _ _ _ ?_); clear hK15 K15; refine HC_cond rfl (fun h16 => ?_) (fun h16 => ?_)
      · try exact Bool.noConfusion h16
        try simp only [ZZ] at h16
        refine HC_skip (hK14 _ _ _ _ ?_); clear hK14 K14; refine HC_seq fun K17 hK17 => HC_block ?_; refine HC_seq fun K18 hK18 => ?_
        obtain ⟨y, hy, hmem⟩ := getI (show i < ins.length by omega)
        rw [dropI hy, fixL] at hinv; refine HC_region ?_
        refine HL_r rfl rfl rfl rfl (R_fieldAddr rfl rfl (by first | (simp only [Nat.zero_add, Nat.reduceAdd, Nat.reduceMul, Nat.zero_mul, Nat.mul_one, Nat.add_zero]; exact rfl) | exact rfl)) ?_; refine HL_r rfl rfl rfl rfl (R_load rfl (known_L (k := 0) rfl) rfl rfl) ?_; refine HLm rfl (HL_r rfl rfl rfl rfl (R_indexPl (j := i) rfl hs rfl rfl rfl rfl (by omega)) (HL_r rfl rfl rfl rfl (R_loadTy (fun q hq => Or.inr hq) rfl hs hy rfl rfl) ?_)); refine HL_callR rfl rfl rfl (enters_of Tryz.func128 (by kernel_rfl) rfl) (ih y hmem) (fun q hq => Or.inr hq) ?_; refine HLp rfl ?_; refine HL_nil (hK18 _ _ _ _ ?_); clear hK18 K18; refine HC_cond rfl (fun h19 => ?_) (fun h19 => ?_)
        · try exact Bool.noConfusion h19
          try simp only [ZZ] at h19
          refine HC_seq fun K20 hK20 => HC_region ?_; refine HLm rfl ?_; refine HL_nil (hK20 _ _ _ _ ?_); clear hK20 K20; refine HC_ret (HQ_blockR (HQ_thenR ?_)); clear hK17 K17; refine HQ_thenR (HQ_blockR (HQ_thenR ?_)); clear hK12 K12; refine HQ_post rfl rfl (.cons (res_tmp rfl) .nil) (fun w1 hs1 => ?_); refine ⟨?_, hs1.keep⟩; rw [fixT]
          simp_all [resVal]; done
        · try exact Bool.noConfusion h19
          try simp only [ZZ] at h19
          refine HC_skip (HQ_blockN (hK17 _ _ _ _ ?_)); clear hK17 K17; refine HC_region (HLm rfl ?_); refine HLp rfl (HL_wrap_i64 (by omega) (by omega) ?_); refine HLm rfl (HL_nil (HQ_then ?_)); exact HQ_again (i + 1) ⟨by omega, by simp_all⟩ (by omega) (.cons rfl (.cons rfl .nil)) (List.Sublist.refl _) (fun _ _ h => h)
      · try exact Bool.noConfusion h16
        try simp only [ZZ] at h16
        refine HC_exit (HQ_thenE ?_); clear hK14 K14; refine HQ_thenE (HQ_blockE (hK12 _ _ _ _ ?_)); clear hK12 K12; refine HC_seq fun K21 hK21 => HC_region ?_; refine HLm rfl ?_; refine HL_nil (hK21 _ _ _ _ ?_); clear hK21 K21; refine HC_ret ?_; refine HQ_post rfl rfl (.cons (res_tmp rfl) .nil) (fun w1 hs1 => ?_); refine ⟨?_, hs1.keep⟩; rw [fixT]; rw [← hinv, List.drop_of_length_le (by omega), fixL]; simp_all [resVal]; done
      skip)
   skip)
set_option maxRecDepth 10000 in
theorem S_ref_Fixed {R : List (Nat × Obj)} {t : Ty} (ht : t.In R) : PureR Tryz.prog 78 [t.val].toArray (.bool (isFix t)) R := by
  have h1 := S_ref_Check ht
  have h2 := S_ref_fixed ht
  obtain ⟨k, n, p, ins⟩ := t
  refine pureR_of_HC Tryz.func78 rfl rfl fun w => ?_; refine HC_seq fun K1 hK1 => HC_region ?_; refine HL_box (cs := #[_, _, _]) rfl rfl rfl rfl fun r1 => ?_; refine HLm rfl ?_; refine HL_nil (hK1 _ _ _ _ ?_); clear hK1 K1; refine HC_seq fun K2 hK2 => HC_region ?_; refine HL_r rfl rfl rfl rfl (R_loadA (vs := [_, _, _]) rfl (known_L (k := 0) rfl) rfl rfl rfl rfl) ?_; refine HL_callR rfl rfl rfl (enters_of Tryz.func44 (by kernel_rfl) rfl) h1 (fun q hq => Or.inr hq) ?_; refine HLp rfl (HLm rfl ?_)
  refine HL_case 6 rfl (fun hb3 => ?_) (fun hb3 => ?_) <;> (try simp only [ZZ] at hb3) <;> first | (refine HL_r rfl rfl rfl rfl (R_loadA (vs := [_, _, _]) rfl (known_L (k := 0) rfl) rfl rfl rfl rfl) ?_) | (refine HL_skip rfl rfl rfl ?_)
  all_goals first
    | (refine HL_callR rfl rfl rfl (enters_of Tryz.func128 (by kernel_rfl) rfl) h2 (fun q hq => Or.inr hq) ?_)
    | (refine HL_skip rfl rfl rfl ?_)
  all_goals first
    | (refine HL_r rfl rfl rfl rfl (R_pickT rfl rfl) ?_)
    | (refine HL_r rfl rfl rfl rfl (R_pickF rfl rfl) ?_)
  all_goals refine HLm rfl ?_
  all_goals refine HL_nil ?_
  all_goals (
   refine hK2 _ _ _ _ ?_; clear hK2 K2; refine HC_ret ?_; refine HQ_post rfl rfl (.cons (res_tmp rfl) .nil) (fun w1 hs1 => ?_); refine ⟨?_, hs1.keep⟩
   simp_all [isFix, resVal]
   skip)
theorem sizT_leaf {k n : Int} {p : Pl} {ins : List Ty} (h1 : k ≠ 1) (h2 : k ≠ 2) (h5 : k ≠ 5) (h3 : k ≠ 3) : sizT (.mk k n p ins) = sizL ins := by
  rw [sizT, if_neg h1, if_neg h2, if_neg h5, if_neg h3]
set_option maxRecDepth 10000 in
theorem S_ref_size {R : List (Nat × Obj)} {t : Ty} (ht : t.In R) : ∀ d : Int, 0 ≤ d → chk t d = 0 → fixT t = true → PureR Tryz.prog 134 [t.val].toArray (.int .i64 (sizT t)) R := by
  induction ht with
  | @mk k n p ins hk hn hl hs hi ih =>
  intro d hd hc hf
  have hsz := siz_le _ d hd hc hf
  have hb5 := bnd_le (show (5 - d).toNat ≤ 5 by omega)
  obtain ⟨hk8, ho, h6, hci⟩ := chk_mk hc
  rw [fixT, Bool.and_eq_true] at hf
  have hne : (k ≠ 4 ∧ k ≠ 6) ∧ k ≠ 8 := by simpa using hf.1
  have hfi := fixL_mem.1 hf.2
  have hsub : ∀ x ∈ ins, 1 ≤ sizT x := fun x hx => (siz_le x (d + 1) (by omega) (hci x hx) (hfi x hx)).1
  have hone : k = 3 → ins.length = 1 ∧ 1 ≤ n ∧ n ≤ 512 := fun h => by subst h; simp [okForm] at ho; omega
  have hbit : k = 5 → 1 ≤ n ∧ n ≤ 512 := fun h => by subst h; simp [okForm] at ho; omega
  have hdp : ∀ i, 0 ≤ sizL (ins.drop i) := fun i => Int.le_trans (by omega) (sizL_le (B := 2251799813685248) (l := ins.drop i) fun x hx => ⟨hsub x (List.mem_of_mem_drop hx), Int.le_trans (siz_le x (d + 1) (by omega) (hci x (List.mem_of_mem_drop hx)) (hfi x (List.mem_of_mem_drop hx))).2 (bnd_le (by omega))⟩).1
  refine pureR_of_HC Tryz.func134 rfl rfl fun w => ?_; refine HC_seq fun K1 hK1 => HC_region ?_; refine HL_box (cs := #[_, _, _]) rfl rfl rfl rfl fun r1 => ?_; refine HLm rfl ?_; refine HL_nil (hK1 _ _ _ _ ?_); refine HC_seq fun K2 hK2 => ?_; refine HC_seq fun K3 hK3 => HC_region ?_
  refine HL_r rfl rfl rfl rfl (R_fieldAddr rfl rfl (by first | (simp only [Nat.zero_add, Nat.reduceAdd, Nat.reduceMul, Nat.zero_mul, Nat.mul_one, Nat.add_zero]; exact rfl) | exact rfl)) ?_; refine HL_r rfl rfl rfl rfl (R_load rfl (known_L (k := 0) rfl) rfl rfl) ?_; refine HL_nil (hK3 _ _ _ _ ?_); refine HC_block (HC_seq fun K4 hK4 => HC_region ?_); refine HLp rfl (HLm rfl ?_); refine HL_nil (hK4 _ _ _ _ ?_); refine HC_cond rfl (fun h5 => ?_) (fun h5 => ?_)
  · try exact Bool.noConfusion h5
    try simp only [ZZ] at h5
    refine HC_seq fun K6 hK6 => HC_region ?_
    refine HL_r rfl rfl rfl rfl (R_fieldAddr rfl rfl (by first | (simp only [Nat.zero_add, Nat.reduceAdd, Nat.reduceMul, Nat.zero_mul, Nat.mul_one, Nat.add_zero]; exact rfl) | exact rfl)) ?_; refine HL_r rfl rfl rfl rfl (R_load rfl (known_L (k := 0) rfl) rfl rfl) ?_; refine HLm rfl ?_; refine HL_nil (hK6 _ _ _ _ ?_); refine HC_ret (HQ_blockR (HQ_thenR ?_)); refine HQ_post rfl rfl (.cons (res_tmp rfl) .nil) (fun w1 hs1 => ?_); refine ⟨?_, hs1.keep⟩; rw [sizT, if_pos (by assumption)]; rfl
  · try exact Bool.noConfusion h5
    try simp only [ZZ] at h5
    refine HC_seq fun K7 hK7 => HC_region ?_; refine HLp rfl (HLm rfl ?_); refine HL_nil (hK7 _ _ _ _ ?_); refine HC_cond rfl (fun h8 => ?_) (fun h8 => ?_)
    · try exact Bool.noConfusion h8
      try simp only [ZZ] at h8
      refine HC_seq fun K9 hK9 => HC_region ?_; refine HLm rfl ?_; refine HL_nil (hK9 _ _ _ _ ?_); refine HC_ret (HQ_blockR (HQ_thenR ?_)); refine HQ_post rfl rfl (.cons (res_tmp rfl) .nil) (fun w1 hs1 => ?_); refine ⟨?_, hs1.keep⟩; rw [sizT, if_neg (by assumption), if_pos (by assumption)]; rfl
    · try exact Bool.noConfusion h8
      try simp only [ZZ] at h8
      refine HC_seq fun K10 hK10 => HC_region ?_; refine HLp rfl (HLm rfl ?_); refine HL_nil (hK10 _ _ _ _ ?_); refine HC_cond rfl (fun h11 => ?_) (fun h11 => ?_)
      · try exact Bool.noConfusion h11
        try simp only [ZZ] at h11
        refine HC_seq fun K12 hK12 => HC_region ?_
        refine HL_r rfl rfl rfl rfl (R_fieldAddr rfl rfl (by first | (simp only [Nat.zero_add, Nat.reduceAdd, Nat.reduceMul, Nat.zero_mul, Nat.mul_one, Nat.add_zero]; exact rfl) | exact rfl)) ?_; refine HL_r rfl rfl rfl rfl (R_load rfl (known_L (k := 0) rfl) rfl rfl) ?_; refine HLp rfl (HL_wrap_i64 (by omega) (by omega) ?_); refine HLp rfl (HL_quo (by omega) (by omega) (by omega) (HLm rfl ?_)); refine HL_nil (hK12 _ _ _ _ ?_); refine HC_ret (HQ_blockR (HQ_thenR ?_)); refine HQ_post rfl rfl (.cons (res_tmp rfl) .nil) (fun w1 hs1 => ?_); refine ⟨?_, hs1.keep⟩; rw [sizT, if_neg (by assumption), if_neg (by assumption), if_pos (by assumption)]; rfl
      · try exact Bool.noConfusion h11
        try simp only [ZZ] at h11
        refine HC_seq fun K13 hK13 => HC_region ?_; refine HLp rfl (HLm rfl ?_); refine HL_nil (hK13 _ _ _ _ ?_); refine HC_cond rfl (fun h14 => ?_) (fun h14 => ?_)
        · try exact Bool.noConfusion h14
          try simp only [ZZ] at h14
          refine HC_seq fun K15 hK15 => ?_
          obtain ⟨y, hy, hmem⟩ := getI (show 0 < ins.length by have := hone (by assumption); omega)
          have hyn : sizT (.mk k n p ins) = n * sizT y := by
            have h1 := hone (by assumption)
            rw [sizT, if_neg (by omega), if_neg (by omega), if_neg (by omega), if_pos (by assumption), show ins = [y] from by
              match ins, h1.1, hy with
              | [z], _, hy => simp at hy; rw [hy], sizL, sizL, Int.add_zero]
          rw [hyn] at hsz; refine HC_draw 9 (by kernel_rfl) (by kernel_rfl) ?_
          refine HD_r rfl rfl rfl (R_fieldAddr rfl rfl (by first | (simp only [Nat.zero_add, Nat.reduceAdd, Nat.reduceMul, Nat.zero_mul, Nat.mul_one, Nat.add_zero]; exact rfl) | exact rfl)) ?_; refine HD_r rfl rfl rfl (R_load rfl (known_L (k := 0) rfl) rfl rfl) ?_
          refine HD_r rfl rfl rfl (R_fieldAddr rfl rfl (by first | (simp only [Nat.zero_add, Nat.reduceAdd, Nat.reduceMul, Nat.zero_mul, Nat.mul_one, Nat.add_zero]; exact rfl) | exact rfl)) ?_; refine HD_r rfl rfl rfl (R_load rfl (known_L (k := 0) rfl) rfl rfl) ?_; refine HD_r rfl rfl rfl (R_indexPl (j := 0) rfl hs rfl rfl rfl rfl (by omega)) ?_; refine HD_r rfl rfl rfl (R_loadTy (fun q hq => Or.inr hq) rfl hs hy rfl rfl) ?_; refine HD_callR rfl rfl rfl (enters_of Tryz.func134 (by kernel_rfl) rfl) (ih y hmem (d + 1) (by omega) (hci y hmem) (hfi y hmem)) (fun q hq => Or.inr hq) ?_; refine HD_r rfl rfl rfl (R_pure rfl rfl rfl) ?_; refine HD_as (show _ = Value.int .i64 (n * sizT y) from congrArg (Value.int .i64) (wrap_i64 (by omega) (by omega))) ?_; refine HD_r rfl rfl rfl (R_assign rfl) ?_; refine HD_end ?_; refine HL_nil (hK15 _ _ _ _ ?_); refine HC_ret (HQ_blockR (HQ_thenR ?_)); refine HQ_post rfl rfl (.cons (res_tmp rfl) .nil) (fun w1 hs1 => ?_); refine ⟨?_, hs1.keep⟩; rw [hyn]; rfl
        · try exact Bool.noConfusion h14
          try simp only [ZZ] at h14
          refine HC_skip (HQ_blockN (hK2 _ _ _ _ ?_)); refine HC_seq fun K16 hK16 => HC_region ?_; refine HLm rfl ?_; refine HL_nil (hK16 _ _ _ _ ?_); refine HC_seq fun K17 hK17 => ?_; refine HC_seq fun K18 hK18 => HC_region ?_; refine HLm rfl ?_; refine HL_nil (hK18 _ _ _ _ ?_); refine HC_block (HC_loop (σ := Nat × Int) (fun s => s.1 ≤ ins.length ∧ 0 ≤ s.2 ∧ s.2 + sizL (ins.drop s.1) = sizL ins) (fun s => [(1, .pointer (some ⟨r1, 0, none⟩)), (3, .int .i64 s.2), (4, .int .i64 (s.1 : Int))]) (fun _ => [(r1, .cells #[.int .i64 k, .int .i64 n, plV ins.length p] 24 (0, 0))]) (fun _ _ _ => True) (fun s => ins.length - s.1) (0, 0) ⟨by omega, by omega, by simp⟩ (.cons rfl (.cons rfl (.cons rfl .nil))) (List.Sublist.refl _) (fun _ _ h => h) ?_); rintro ⟨i, m⟩ ⟨hi1, hm, hinv⟩; simp only at hinv hi1 hm; refine HC_seq fun K19 hK19 => ?_; refine HC_seq fun K20 hK20 => HC_region ?_; refine HLm rfl ?_
          refine HL_r rfl rfl rfl rfl (R_fieldAddr rfl rfl (by first | (simp only [Nat.zero_add, Nat.reduceAdd, Nat.reduceMul, Nat.zero_mul, Nat.mul_one, Nat.add_zero]; exact rfl) | exact rfl)) ?_; refine HL_r rfl rfl rfl rfl (R_load rfl (known_L (k := 0) rfl) rfl rfl) ?_; refine HL_r rfl rfl rfl rfl (R_lenPl rfl hs rfl) ?_; refine HLp rfl ?_; refine HL_nil (hK20 _ _ _ _ ?_); refine HC_cond rfl (fun h21 => ?_) (fun h21 => ?_)
          · try exact Bool.noConfusion h21
            try simp only [ZZ] at h21
            refine HC_skip (hK19 _ _ _ _ ?_); refine HC_seq fun K22 hK22 => HC_block ?_
            obtain ⟨y, hy, hmem⟩ := getI (show i < ins.length by omega)
            have hdi := hdp (i + 1)
            have hyp := hsub y hmem
            rw [dropI hy, sizL] at hinv; rw [sizT_leaf (by omega) (by omega) (by omega) (by omega)] at hsz; refine HC_region (HLm rfl ?_)
            refine HL_r rfl rfl rfl rfl (R_fieldAddr rfl rfl (by first | (simp only [Nat.zero_add, Nat.reduceAdd, Nat.reduceMul, Nat.zero_mul, Nat.mul_one, Nat.add_zero]; exact rfl) | exact rfl)) ?_; refine HL_r rfl rfl rfl rfl (R_load rfl (known_L (k := 0) rfl) rfl rfl) ?_; refine HLm rfl (HL_r rfl rfl rfl rfl (R_indexPl (j := i) rfl hs rfl rfl rfl rfl (by omega)) (HL_r rfl rfl rfl rfl (R_loadTy (fun q hq => Or.inr hq) rfl hs hy rfl rfl) ?_)); refine HL_callR rfl rfl rfl (enters_of Tryz.func134 (by kernel_rfl) rfl) (ih y hmem (d + 1) (by omega) (hci y hmem) (hfi y hmem)) (fun q hq => Or.inr hq) ?_; refine HLp rfl (HL_wrap_i64 (by omega) (by omega) ?_); refine HLm rfl (HL_nil ?_); refine HQ_blockN (hK22 _ _ _ _ ?_); refine HC_region (HLm rfl ?_); refine HLp rfl (HL_wrap_i64 (by omega) (by omega) ?_); refine HLm rfl (HL_nil (HQ_then ?_)); exact HQ_again (i + 1, m + sizT y) ⟨by omega, by simp only; omega, by simp only; omega⟩ (by simp only; omega) (.cons rfl (.cons rfl (.cons rfl .nil))) (List.Sublist.refl _) (fun _ _ h => h)
          · try exact Bool.noConfusion h21
            try simp only [ZZ] at h21
            refine HC_exit (HQ_thenE ?_); refine HQ_thenE (HQ_blockE (hK17 _ _ _ _ ?_)); refine HC_seq fun K23 hK23 => HC_region ?_; refine HLm rfl (HLm rfl ?_); refine HL_nil (hK23 _ _ _ _ ?_); refine HC_ret ?_; refine HQ_post rfl rfl (.cons (res_tmp rfl) .nil) (fun w1 hs1 => ?_); refine ⟨?_, hs1.keep⟩; rw [sizT_leaf (by omega) (by omega) (by omega) (by omega), ← hinv, List.drop_of_length_le (by omega), sizL, Int.add_zero]; rfl
theorem isFix_iff {t : Ty} : isFix t = true ↔ chk t 0 = 0 ∧ fixT t = true := by unfold isFix; simp
set_option maxRecDepth 10000 in
theorem S_ref_Size {R : List (Nat × Obj)} {t : Ty} (ht : t.In R) : PureR Tryz.prog 86 [t.val].toArray (.int .i64 (sizeT t)) R := by
  have h1 := S_ref_Fixed ht
  have h2 := S_ref_size ht 0 (by omega)
  obtain ⟨k, n, p, ins⟩ := t
  refine pureR_of_HC Tryz.func86 rfl rfl fun w => ?_; refine HC_seq fun K1 hK1 => HC_region ?_; refine HL_box (cs := #[_, _, _]) rfl rfl rfl rfl fun r1 => ?_; refine HLm rfl ?_; refine HL_nil (hK1 _ _ _ _ ?_); clear hK1 K1; refine HC_seq fun K2 hK2 => ?_; refine HC_seq fun K3 hK3 => HC_region ?_; refine HL_r rfl rfl rfl rfl (R_loadA (vs := [_, _, _]) rfl (known_L (k := 0) rfl) rfl rfl rfl rfl) ?_; refine HL_callR rfl rfl rfl (enters_of Tryz.func78 (by kernel_rfl) rfl) h1 (fun q hq => Or.inr hq) ?_; refine HLp rfl ?_; refine HL_nil (hK3 _ _ _ _ ?_); clear hK3 K3; refine HC_cond rfl (fun h4 => ?_) (fun h4 => ?_)
  · try exact Bool.noConfusion h4
    try simp only [ZZ] at h4
    refine HC_seq fun K5 hK5 => HC_region ?_; refine HLm rfl ?_; refine HL_nil (hK5 _ _ _ _ ?_); clear hK5 K5; refine HC_ret (HQ_thenR ?_); clear hK2 K2; refine HQ_post rfl rfl (.cons (res_tmp rfl) .nil) (fun w1 hs1 => ?_); refine ⟨?_, hs1.keep⟩
    simp_all [sizeT, resVal]
  · try exact Bool.noConfusion h4
    try simp only [ZZ] at h4
    refine HC_skip (hK2 _ _ _ _ ?_); clear hK2 K2; refine HC_seq fun K6 hK6 => HC_region ?_; refine HL_r rfl rfl rfl rfl (R_loadA (vs := [_, _, _]) rfl (known_L (k := 0) rfl) rfl rfl rfl rfl) ?_; refine HL_callR rfl rfl rfl (enters_of Tryz.func134 (by kernel_rfl) rfl) (h2 (isFix_iff.1 (by assumption)).1 (isFix_iff.1 (by assumption)).2) (fun q hq => Or.inr hq) ?_; refine HLm rfl ?_; refine HL_nil (hK6 _ _ _ _ ?_); clear hK6 K6; refine HC_ret ?_; refine HQ_post rfl rfl (.cons (res_tmp rfl) .nil) (fun w1 hs1 => ?_); refine ⟨?_, hs1.keep⟩
    simp_all [sizeT, resVal]
theorem sameV_mk {a b c d a' b' c' d' : Nat} {l l' : List Bool} {pb pb' pi pi' : Pl} {m m' : List Vl} {k k' : Int} : sameV (.mk a b c d l pb m pi k) (.mk a' b' c' d' l' pb' m' pi' k') = (decide ([a, b, c, d] = [a', b', c', d']) && decide (k = k') && decide (l = l') && sameL m m') := by
  rw [sameV]; rfl
theorem bits_ne {l l' : List Bool} {i : Nat} {x y : Bool} (h1 : l[i]? = some x) (h2 : l'[i]? = some y) (h : x ≠ y) : l ≠ l' := fun e => by subst e; rw [h1] at h2; exact h (Option.some.inj h2)
theorem bits_eq {l l' : List Bool} {i : Nat} (hl : l.length = l'.length) (hi : l.length ≤ i) (h : ∀ j, j < i → l[j]? = l'[j]?) : l = l' := by
  apply List.ext_getElem?
  intro j
  by_cases hj : j < i
  · exact h j hj
  · rw [List.getElem?_eq_none (by omega), List.getElem?_eq_none (by omega)]
theorem same_ne {m m' : List Vl} {i : Nat} {x y : Vl} (h1 : m[i]? = some x) (h2 : m'[i]? = some y) (h : sameV x y = false) : sameL m m' = false := by
  cases hs : sameL m m' with
  | false => rfl
  | true => rw [(sameL_spec.1 hs).2 i x y h1 h2] at h; cases h
theorem same_ln {m m' : List Vl} (h : m.length ≠ m'.length) : sameL m m' = false := by
  cases hs : sameL m m' with
  | false => rfl
  | true => exact absurd (sameL_spec.1 hs).1 h
end Go.Proofs.YtlcbfphioeppaaaGreatDoor
namespace Go.Proofs.YtlcbfphioeppaaaGreatDoor
set_option linter.all false
open Go.SL Go.RowKit Go.Shelf
set_option maxRecDepth 10000 in
theorem P_word_Of (n : Nat) : Pure Tryz.prog 150 [uV n].toArray (wV [n, 0, 0, 0]) := by
  refine pure_of_HC Tryz.func150 rfl rfl fun w => ?_; refine HC_seq fun K1 hK1 => HC_region ?_; refine HL_alloc (cs := #[_, _, _, _]) rfl rfl rfl rfl fun r1 => ?_; refine HL_nil (hK1 _ _ _ _ ?_); refine HC_seq fun K2 hK2 => HC_region ?_; refine HLm rfl (HL_r rfl rfl rfl rfl (R_build (r := [_, _, _, _]) rfl rfl) ?_)
  refine HL_storeA (k := 0) (n := 4) (cs' := #[_, _, _, _]) (vs := #[_, _, _, _]) rfl rfl rfl rfl rfl rfl rfl (by exact Nat.le_of_ble_eq_true rfl) rfl (by first | (simp only [List.set_cons_zero, List.set_cons_succ]; exact rfl) | exact rfl) ?_; refine HL_nil (hK2 _ _ _ _ ?_); refine HC_ret ?_; refine HQ_post rfl rfl (.cons (res_cellA (vs := [_, _, _, _]) rfl (known_L (k := 0) rfl) rfl rfl) .nil) (fun w1 hs1 => ?_); exact ⟨rfl, hs1.keep⟩
set_option maxRecDepth 10000 in
theorem P_digit {l : List Nat} (hl : WOk l) {i : Nat} (hi : i < 32) : Pure Tryz.prog 194 [wV l, .int .i64 (i : Int)].toArray (.int .i64 (dg l i : Nat)) := by
  refine pure_of_HC Tryz.func194 rfl rfl fun w => ?_
  have hg := hl.get (i / 8)
  refine HC_seq fun K1 hK1 => HC_region ?_; refine HL_box (cs := (l.map uV).toArray) rfl rfl rfl rfl fun r1 => ?_; refine HLm rfl ?_; refine HL_nil (hK1 _ _ _ _ ?_); refine HC_seq fun K2 hK2 => HC_region ?_; refine HLm rfl (HLp rfl (HL_quo (by omega) (by omega) (by omega) ?_)); refine HL_r rfl rfl rfl rfl (R_indexA (j := i / 8) (m := 1) (off' := i / 8) rfl rfl rfl rfl (by omega) (by omega) (by omega)) ?_; refine HL_r rfl rfl rfl rfl (R_loadAt rfl (known_L (k := 0) rfl) rfl (mapU_get (by rw [hl.1]; omega))) ?_; refine HLm rfl (HLp rfl (HL_rem (by omega) ?_)); refine HLp rfl (HL_wrap_i64 (by omega) (by omega) ?_); refine HLp rfl (HL_wrap_u64 (by omega) (by omega) (HL_r rfl rfl rfl rfl (R_shr (n := i % 8 * 8) rfl rfl (by omega) (show _ ≤ 64 from by omega) (by omega) (shr_nat _ _)) ?_)); refine HLp rfl (HL_as (show _ = Value.int .u64 ((dg l i : Nat) : Int) from congrArg (Value.int .u64) (rem_nat _ 256)) (HLp rfl ?_)); refine HL_as (show _ = Value.int .i64 ((dg l i : Nat) : Int) from congrArg (Value.int .i64) (wrap_i64 (by omega) (by have := dg_lt l i; omega))) ?_; refine HLm rfl ?_; refine HL_nil (hK2 _ _ _ _ ?_); refine HC_ret ?_; refine HQ_post rfl rfl (.cons (res_tmp rfl) .nil) (fun w1 hs1 => ?_); exact ⟨rfl, hs1.keep⟩
end Go.Proofs.YtlcbfphioeppaaaGreatDoor
namespace Go.Proofs.YtlcbfphioeppaaaGreatDoor
set_option linter.all false
open Go.SL Go.RowKit Go.Shelf
set_option maxRecDepth 10000 in
theorem P_ref_Fixed {l : List Nat} (hl : WOk l) : Pure Tryz.prog 127 [wV l].toArray (.string (bs (beD l 32))) := by
  refine pure_of_HC Tryz.func127 rfl rfl fun w => ?_; refine HC_seq fun K1 hK1 => HC_region ?_; refine HL_box (cs := (l.map uV).toArray) rfl rfl rfl rfl fun r1 => ?_; refine HLm rfl ?_; refine HL_nil (hK1 _ _ _ _ ?_); refine HC_seq fun K2 hK2 => HC_region ?_; refine HLm rfl ?_; refine HL_nil (hK2 _ _ _ _ ?_); refine HC_seq fun K3 hK3 => ?_; refine HC_seq fun K4 hK4 => HC_region ?_; refine HLm rfl ?_; refine HL_nil (hK4 _ _ _ _ ?_); refine HC_block (HC_loop (σ := Nat × List Value × Row) (fun s => s.1 ≤ 32 ∧ s.2.1 = ((beD l 32).take s.1).map bV ∧ rowOk 1 s.1 s.2.1 s.2.2) (fun s => [(1, .pointer (some ⟨r1, 0, none⟩)), (3, rowV s.1 s.2.2), (4, .int .i64 (31 - (s.1 : Int)))]) (fun s => (r1, .cells (l.map uV).toArray 27 (0, 0)) :: rowL 5 s.2.1 s.2.2) (fun _ _ _ => True) (fun s => 32 - s.1) (0, [], none) ⟨by decide, rfl, ⟨rfl, rfl⟩⟩ (.cons rfl (.cons rfl (.cons rfl .nil))) (List.Sublist.refl _) (fun _ _ h => h) ?_); rintro ⟨m, xs, row⟩ ⟨hm, hxs, hrow⟩; simp only at hm hxs hrow ⊢; refine HC_seq fun K5 hK5 => ?_; refine HC_seq fun K6 hK6 => HC_region ?_; refine HLm rfl (HLp rfl ?_); refine HL_nil (hK6 _ _ _ _ ?_); refine HC_cond rfl (fun h7 => ?_) (fun h7 => ?_)
  · try exact Bool.noConfusion h7
    try simp only [ZZ] at h7
    refine HC_skip (hK5 _ _ _ _ ?_); refine HC_seq fun K8 hK8 => HC_block ?_; refine HC_region (HLm rfl (HL_r rfl rfl rfl rfl (R_loadArr (xs := l.map uV) (n := 4) rfl (known_L (k := 0) rfl) rfl rfl (by rw [List.length_map, hl.1])) ?_)); refine HLm rfl (HL_as (show _ = Value.int .i64 ((31 - m : Nat) : Int) from congrArg (Value.int .i64) (by omega)) (HL_callP rfl rfl rfl (enters_of Tryz.func194 (by kernel_rfl) rfl) (P_digit hl (i := 31 - m) (by omega)) ?_)); refine HLp rfl (HL_as (byte_of (dg_lt l (31 - m))) ?_); refine HL_buildSlice (vs := [_]) (zs := [_]) (r := [_]) rfl rfl rfl rfl rfl rfl rfl rfl rfl (by show (madeCells #[_] _).toList = _; rw [made_one]; exact rfl) rfl fun r1 => ?_; refine HL_appendRow (L0 := [_, _]) (xs := xs) (row := row) (n := m) (sz := 1) (b := 1) (news := [_]) (List.perm_append_comm (l₁ := [_, _])) rfl rfl rfl rfl (known_L (k := 0) rfl) rfl rfl rfl rfl rfl (by decide) rfl rfl rfl (by decide) hrow (by omega) (by omega) fun ra cap sp hra => ?_; refine HLm rfl (HL_nil ?_); refine HQ_blockN (hK8 _ _ _ _ ?_); refine HC_region (HLm rfl ?_); refine HLp rfl (HL_wrap_i64 (by omega) (by omega) ?_); refine HLm rfl (HL_nil (HQ_then ?_)); refine HQ_sel [2, 0] (L' := [_, _]) (by decide) rfl ?_; exact HQ_again (m + 1, xs ++ [bV (UInt8.ofNat (dg l (31 - m)))], some (ra, cap, sp)) ⟨by simp only; omega, by simp only; rw [beD_take l (by omega), List.map_append, hxs]; rfl, hra⟩ (by simp only; omega) (.cons rfl (.cons rfl (.cons (congrArg (fun z => some (Value.int .i64 z)) (by simp only; omega)) .nil))) (List.Sublist.refl _) (fun _ _ h => h)
  · try exact Bool.noConfusion h7
    try simp only [ZZ] at h7
    refine HC_exit (HQ_thenE ?_); refine HQ_thenE (HQ_blockE (hK3 _ _ _ _ ?_))
    have hm32 : m = 32 := by omega
    subst hm32; rw [List.take_of_length_le (Nat.le_of_eq (beD_len l 32))] at hxs; subst hxs; refine HC_seq fun K9 hK9 => HC_region ?_; refine HLm rfl (HL_r rfl rfl rfl rfl (R_bytesStr (b := beD l 32) (row := row) (e := 5) rfl hrow (fun p hp => .inl (List.mem_cons_of_mem _ hp)) rfl rfl rfl) (HLm rfl ?_)); refine HL_nil (hK9 _ _ _ _ ?_); refine HC_ret ?_; refine HQ_post rfl rfl (.cons (res_tmp rfl) .nil) (fun w1 hs1 => ?_); exact ⟨rfl, hs1.keep⟩
theorem fix_step {l : List Nat} {i : Nat} (hi : i < 32) : ((List.replicate (32 - i) (0 : UInt8) ++ beD l i).map bV).set (31 - i) (bV (UInt8.ofNat (dg l i))) = (List.replicate (32 - (i + 1)) 0 ++ beD l (i + 1)).map bV := by
  rw [← List.map_set, show 32 - i = (31 - i) + 1 from by omega, set_rep, show 32 - (i + 1) = 31 - i from by omega]
  rfl
set_option maxRecDepth 10000 in
theorem P_word_Fixed {l : List Nat} (hl : WOk l) : Pure Tryz.prog 68 [wV l].toArray (.string (bs (beD l 32))) := by
  refine pure_of_HC Tryz.func68 rfl rfl fun w => ?_; refine HC_seq fun K1 hK1 => HC_region ?_; refine HL_box (cs := (l.map uV).toArray) rfl rfl rfl rfl fun r1 => ?_; refine HLm rfl ?_; refine HL_nil (hK1 _ _ _ _ ?_); refine HC_seq fun K2 hK2 => HC_region ?_; refine HL_make (n := 32) (b := 1) rfl rfl rfl rfl rfl rfl rfl rfl rfl (by decide) (by decide) fun r2 => ?_; refine HLm rfl ?_; refine HL_nil (hK2 _ _ _ _ ?_); refine HC_seq fun K3 hK3 => ?_; refine HC_seq fun K4 hK4 => HC_region ?_; refine HLm rfl ?_; refine HL_nil (hK4 _ _ _ _ ?_); refine HC_block (HC_loop (σ := Nat) (fun i => i ≤ 32) (fun i => [(1, .pointer (some ⟨r1, 0, none⟩)), (3, .slice (some ⟨r2, 0, none⟩) 32 32), (6, .int .i64 (i : Int))]) (fun i => [(r2, .cells ((List.replicate (32 - i) (0 : UInt8) ++ beD l i).map bV).toArray 5 (0, 0)), (r1, .cells (l.map uV).toArray 27 (0, 0))]) (fun _ _ _ => True) (fun i => 32 - i) 0 (Nat.zero_le _) (.cons rfl (.cons rfl (.cons rfl .nil))) (List.Sublist.refl _) (fun _ _ h => h) ?_); intro i hi; refine HC_seq fun K5 hK5 => HC_region ?_; refine HLp rfl ?_; refine HL_nil (hK5 _ _ _ _ ?_); refine HC_seq fun K6 hK6 => ?_; refine HC_cond rfl (fun h7 => ?_) (fun h7 => ?_)
  · try exact Bool.noConfusion h7
    try simp only [ZZ] at h7
    refine HC_skip (hK6 _ _ _ _ ?_); refine HC_seq fun K8 hK8 => HC_block ?_; refine HC_seq fun K9 hK9 => HC_region ?_; refine HLm rfl (HLm rfl ?_); refine HL_nil (hK9 _ _ _ _ ?_); refine HC_region (HLm rfl ?_); refine HLm rfl (HLp rfl (HL_wrap_i64 (by omega) (by omega) ?_)); refine HLm rfl (HLp rfl (HL_quo (by omega) (by omega) (by omega) ?_)); refine HL_r rfl rfl rfl rfl (R_indexA (j := i / 8) (m := 1) (off' := i / 8) rfl rfl rfl rfl (by omega) (by omega) (by omega)) ?_; refine HL_r rfl rfl rfl rfl (R_loadAt rfl (known_L (k := 1) rfl) rfl (mapU_get (by rw [hl.1]; omega))) ?_; refine HLm rfl (HLp rfl (HL_rem (by omega) ?_)); refine HLp rfl (HL_wrap_i64 (by omega) (by omega) (HL_r rfl rfl rfl rfl (R_shr (n := i % 8 * 8) rfl rfl (by omega) (show _ ≤ 64 from by omega) (by omega) (shr_nat _ _)) ?_)); refine HLp rfl (HL_as (show _ = bV (UInt8.ofNat (dg l i)) from byte_mod _) (HL_r rfl rfl rfl rfl (R_indexS (j := 31 - i) (m := 1) (off' := 31 - i) rfl rfl rfl rfl (by omega) (by omega) (by omega)) ?_)); refine HL_storeAt (k := 0) (off := 31 - i) (xs := (List.replicate (32 - i) (0 : UInt8) ++ beD l i).map bV) (ys := (List.replicate (32 - (i + 1)) 0 ++ beD l (i + 1)).map bV) rfl rfl rfl rfl rfl rfl (by simp [beD_len]; omega) (fix_step (by omega)) rfl ?_; refine HL_nil ?_; refine HQ_blockN (hK8 _ _ _ _ ?_); refine HC_region (HLp rfl (HL_wrap_i64 (by omega) (by omega) ?_)); refine HLm rfl (HL_nil (HQ_then ?_)); exact HQ_again (i + 1) (by omega) (by omega) (.cons rfl (.cons rfl (.cons rfl .nil))) (List.Sublist.refl _) (fun _ _ h => h)
  · try exact Bool.noConfusion h7
    try simp only [ZZ] at h7
    refine HC_exit (HQ_thenE ?_); refine HQ_thenE (HQ_blockE (hK3 _ _ _ _ ?_))
    have hi32 : i = 32 := by omega
    subst hi32; refine HC_seq fun K10 hK10 => HC_region ?_; refine HLm rfl ?_; refine HL_r rfl rfl rfl rfl (R_bytesStr (b := beD l 32) (row := some (r2, 32, [])) (e := 5) rfl ⟨rfl, rfl⟩ (fun p hp => .inl (by rw [List.mem_singleton.1 hp]; exact List.mem_cons_self)) rfl rfl rfl) ?_; refine HLm rfl ?_; refine HL_nil (hK10 _ _ _ _ ?_); refine HC_ret ?_; refine HQ_post rfl rfl (.cons (res_tmp rfl) .nil) (fun w1 hs1 => ?_); exact ⟨rfl, hs1.keep⟩
end Go.Proofs.YtlcbfphioeppaaaGreatDoor
namespace Go.Proofs.YtlcbfphioeppaaaGreatDoor
set_option linter.all false
open Go.SL Go.RowKit Go.Shelf
set_option maxRecDepth 10000 in
theorem P_word_Unfixed (s : List UInt8) : Pure Tryz.prog 130 [.string (bs s)].toArray (resW (unfR s)) := by
  refine pure_of_HC Tryz.func130 rfl rfl fun w => ?_
  obtain ⟨f, hf⟩ : ∃ f : Nat → Nat, f = fun t => (s.getD (31 - t) 0).toNat := ⟨_, rfl⟩
  have hfl : ∀ i, f i < 256 := fun i => by rw [hf]; exact u8_lt _
  have hfu : stW f 32 = unfW s := by rw [hf]; rfl
  refine HC_seq fun K1 hK1 => HC_region ?_; refine HL_alloc (cs := #[_, _, _, _]) rfl rfl rfl rfl fun r1 => ?_; refine HLm rfl ?_; refine HL_nil (hK1 _ _ _ _ ?_); refine HC_seq fun K2 hK2 => ?_; refine HC_seq fun K3 hK3 => HC_region ?_; refine HLm rfl (HL_r rfl rfl rfl rfl (R_lenBs rfl rfl) (HLp rfl ?_)); refine HL_nil (hK3 _ _ _ _ ?_); refine HC_cond rfl (fun h4 => ?_) (fun h4 => ?_)
  · try exact Bool.noConfusion h4
    try simp only [ZZ] at h4
    refine HC_seq fun K5 hK5 => HC_region ?_; refine HL_r rfl rfl rfl rfl (R_build (r := [_, _, _, _]) rfl rfl) ?_
    refine HL_storeA (k := 0) (n := 4) (cs' := #[_, _, _, _]) (vs := #[_, _, _, _]) rfl rfl rfl rfl rfl rfl rfl (by exact Nat.le_of_ble_eq_true rfl) rfl (by first | (simp only [List.set_cons_zero, List.set_cons_succ]; exact rfl) | exact rfl) ?_; refine HLm rfl ?_; refine HL_nil (hK5 _ _ _ _ ?_); refine HC_ret (HQ_thenR ?_); refine HQ_post rfl rfl (.cons (res_cellA (vs := [_, _, _, _]) rfl (known_L (k := 0) rfl) rfl rfl) (.cons (res_tmp rfl) .nil)) (fun w1 hs1 => ?_); refine ⟨?_, hs1.keep⟩; rw [show unfR s = (zW, 2) from by unfold unfR; rw [if_neg (by omega)]]; rfl
  · try exact Bool.noConfusion h4
    try simp only [ZZ] at h4
    refine HC_skip (hK2 _ _ _ _ ?_); refine HC_seq fun K6 hK6 => HC_region ?_; refine HL_alloc (cs := #[_, _, _, _]) rfl rfl rfl rfl fun r2 => ?_; refine HL_nil (hK6 _ _ _ _ ?_); refine HC_seq fun K7 hK7 => ?_; refine HC_seq fun K8 hK8 => HC_region ?_; refine HLm rfl ?_; refine HL_nil (hK8 _ _ _ _ ?_); refine HC_block (HC_loop (σ := Nat) (fun i => i ≤ 32) (fun i => [(0, .string (bs s)), (2, .pointer (some ⟨r1, 0, none⟩)), (4, .pointer (some ⟨r2, 0, none⟩)), (10, .int .i64 (i : Int))]) (fun i => [(r2, .cells ((stW f i).map uV).toArray 27 (0, 0)), (r1, .cells (zW.map uV).toArray 27 (0, 0))]) (fun _ _ _ => True) (fun i => 32 - i) 0 (Nat.zero_le _) (.cons rfl (.cons rfl (.cons rfl (.cons rfl .nil)))) (List.Sublist.refl _) (fun _ _ h => h) ?_); intro i hi; refine HC_seq fun K9 hK9 => HC_region ?_; refine HLp rfl ?_; refine HL_nil (hK9 _ _ _ _ ?_); refine HC_seq fun K10 hK10 => ?_; refine HC_cond rfl (fun h11 => ?_) (fun h11 => ?_)
    · try exact Bool.noConfusion h11
      try simp only [ZZ] at h11
      refine HC_skip (hK10 _ _ _ _ ?_); refine HC_seq fun K12 hK12 => HC_block ?_; refine HC_seq fun K13 hK13 => HC_region ?_; refine HLm rfl (HLm rfl ?_); refine HL_nil (hK13 _ _ _ _ ?_); refine HC_draw 15 (by kernel_rfl) (by kernel_rfl) ?_; refine HD_r rfl rfl rfl (R_move rfl) ?_; refine HD_r rfl rfl rfl (R_pure rfl rfl rfl) ?_; refine HD_quo (by omega) (by omega) (by omega) ?_; refine HD_r rfl rfl rfl (R_indexA (j := i / 8) (m := 1) (off' := i / 8) rfl rfl rfl rfl (by omega) (by omega) (by omega)) ?_; refine HD_r rfl rfl rfl (R_loadAt rfl (known_L (k := 0) rfl) rfl (mapU_get (by rw [stW_len]; omega))) ?_; refine HD_r rfl rfl rfl (R_move rfl) ?_; refine HD_r rfl rfl rfl (R_move rfl) ?_; refine HD_r rfl rfl rfl (R_pure rfl rfl rfl) ?_; refine HD_wrap_i64 (by omega) (by omega) ?_; refine HD_r rfl rfl rfl (R_indexBs (j := 31 - i) rfl rfl rfl (by omega) (by omega) rfl) ?_; refine HD_r rfl rfl rfl (R_pure rfl rfl rfl) ?_; refine HD_as (show _ = Value.int .u64 ((f i : Nat) : Int) from by rw [hf]; exact congrArg (Value.int .u64) (wrap_u64 (by omega) (by have := u8_lt (s.getD (31 - i) 0); omega))) ?_; refine HD_r rfl rfl rfl (R_move rfl) ?_; refine HD_r rfl rfl rfl (R_pure rfl rfl rfl) ?_; refine HD_rem (by omega) ?_; refine HD_r rfl rfl rfl (R_pure rfl rfl rfl) ?_; refine HD_wrap_i64 (by omega) (by omega) ?_; refine HD_r rfl rfl rfl (R_shl (n := i % 8 * 8) rfl rfl (by omega) (show _ ≤ 64 from by omega) (shl_u64 (sh_lt (hfl i) (by omega)))) ?_; refine HD_r rfl rfl rfl (R_bits64 (op := .or) (b := (((stW f i).getD (i / 8) 0 + f i * 2 ^ (i % 8 * 8) : Nat) : Int)) rfl rfl rfl ((stW_ok hfl i).get _) (sh_lt (hfl i) (by omega)) (congrArg (fun z : Nat => (z : Int)) (by rw [stW_get f (by omega)]; exact or_add (pw_lt hfl _ _)))) ?_; refine HD_r rfl rfl rfl (R_indexA (j := i / 8) (m := 1) (off' := i / 8) rfl rfl rfl rfl (by omega) (by omega) (by omega)) ?_; refine HD_end ?_; refine HL_storeAt (k := 0) (off := i / 8) (xs := (stW f i).map uV) (ys := (stW f (i + 1)).map uV) rfl rfl rfl rfl rfl rfl (by simp [stW_len]; omega) (set_mapU (stW_step f (by omega))) rfl ?_; refine HL_nil ?_; refine HQ_blockN (hK12 _ _ _ _ ?_); refine HC_region (HLp rfl (HL_wrap_i64 (by omega) (by omega) ?_)); refine HLm rfl (HL_nil (HQ_then ?_)); exact HQ_again (i + 1) (by omega) (by omega) (.cons rfl (.cons rfl (.cons rfl (.cons rfl .nil)))) (List.Sublist.refl _) (fun _ _ h => h)
    · try exact Bool.noConfusion h11
      try simp only [ZZ] at h11
      refine HC_exit (HQ_thenE ?_); refine HQ_thenE (HQ_blockE (hK7 _ _ _ _ ?_)); refine HC_seq fun K14 hK14 => ?_
      have hi32 : i = 32 := by omega
      subst hi32; refine HC_region (HL_r rfl rfl rfl rfl (R_loadArr (xs := (stW f 32).map uV) rfl (known_L (k := 0) rfl) rfl rfl rfl) (HL_storeArr (k := 1) (n := 4) (ys := (stW f 32).map uV) rfl rfl rfl rfl rfl rfl rfl rfl rfl ?_)); refine HLm rfl ?_; refine HL_nil (hK14 _ _ _ _ ?_); refine HC_ret ?_; refine HQ_post rfl rfl (.cons (res_cellA (vs := [_, _, _, _]) rfl (known_L (k := 1) rfl) rfl rfl) (.cons (res_tmp rfl) .nil)) (fun w1 hs1 => ?_); refine ⟨?_, hs1.keep⟩; rw [show unfR s = (unfW s, 0) from by unfold unfR; rw [if_pos (by omega)], ← hfu]; rfl
end Go.Proofs.YtlcbfphioeppaaaGreatDoor
namespace Go.Proofs.YtlcbfphioeppaaaGreatDoor
set_option linter.all false
open Go.SL Go.RowKit Go.Shelf
set_option maxRecDepth 10000 in
theorem E_pairs {a b : List Nat} (ha : a.length = 4) (hb : b.length = 4) : PureE (α := Nat × Nat) Tryz.prog 230 [wV a, wV b].toArray (fun p => .func (.func 233) #[] #[.pointer (some ⟨p.1, 0, none⟩), .pointer (some ⟨p.2, 0, none⟩)])
    (fun p => [(p.2, .cells (b.map uV).toArray 27 (0, 0)), (p.1, .cells (a.map uV).toArray 27 (0, 0))]) := by
  refine pureE_of_HC Tryz.func230 rfl rfl fun w => ?_; refine HC_seq fun K1 hK1 => HC_region ?_; refine HL_box (cs := (a.map uV).toArray) rfl rfl rfl rfl fun r1 => ?_; refine HL_box (cs := (b.map uV).toArray) rfl rfl rfl rfl fun r2 => ?_; refine HLm rfl ?_; refine HL_nil (hK1 _ _ _ _ ?_); refine HC_seq fun K2 hK2 => HC_region ?_; refine HL_r rfl rfl rfl rfl (R_makeFunc rfl rfl) ?_; refine HLm rfl ?_; refine HL_nil (hK2 _ _ _ _ ?_); refine HC_ret ?_; refine HQ_post rfl rfl (.cons (res_tmp rfl) .nil) (fun w1 hs1 => ?_); exact ⟨(r1, r2), rfl, hs1⟩
def pairAt (a b : List Nat) (i : Nat) : List Value := [.int .i64 (i : Int), .agg [.int .u64 ((a.getD i 0 : Nat) : Int), .int .u64 ((b.getD i 0 : Nat) : Int)].toArray]
set_option maxRecDepth 10000 in
theorem I_pairs {a b : List Nat} (ha : a.length = 4) (hb : b.length = 4) (p1 p2 : Nat) : Iter Tryz.prog 233 [.pointer (some ⟨p1, 0, none⟩), .pointer (some ⟨p2, 0, none⟩)]
    [(p2, .cells (b.map uV).toArray 27 (0, 0)), (p1, .cells (a.map uV).toArray 27 (0, 0))] 0 (nxN (pairAt a b) 4) (finN 4) := by
  refine iter_of_HC Tryz.func233 rfl rfl fun q xids w2 XI XF hY => ?_; refine HC_seq fun K1 hK1 => HC_region ?_; refine HLm rfl ?_; refine HL_nil (hK1 _ _ _ _ ?_); refine HC_block (HC_loop (σ := Nat) (fun i => i ≤ 4) (fun i => [(0, .func (.yield q) #[] #[]), (1, .pointer (some ⟨p1, 0, none⟩)), (2, .pointer (some ⟨p2, 0, none⟩)), (5, .int .i64 (i : Int))]) (fun _ => []) (fun i => XI i) (fun i => 4 - i) 0 (Nat.zero_le _) (.cons rfl (.cons rfl (.cons rfl (.cons rfl .nil)))) (List.nil_sublist _) (fun _ _ h => h) ?_); intro i hi; refine HC_seq fun K2 hK2 => HC_region ?_; refine HLp rfl ?_; refine HL_nil (hK2 _ _ _ _ ?_); refine HC_seq fun K3 hK3 => ?_; refine HC_cond rfl (fun h4 => ?_) (fun h4 => ?_)
  · try exact Bool.noConfusion h4
    try simp only [ZZ] at h4
    refine HC_skip (hK3 _ _ _ _ ?_); refine HC_seq fun K5 hK5 => HC_block ?_; refine HC_seq fun K6 hK6 => HC_region ?_; refine HLm rfl (HLm rfl ?_); refine HL_nil (hK6 _ _ _ _ ?_); refine HC_seq fun K7 hK7 => ?_; refine HC_draw 9 (by kernel_rfl) (by kernel_rfl) ?_; refine HD_r rfl rfl rfl (R_move rfl) ?_; refine HD_r rfl rfl rfl (R_move rfl) ?_; refine HD_r rfl rfl rfl (R_move rfl) ?_; refine HD_r rfl rfl rfl (R_indexA (j := i) (m := 1) (off' := i) rfl rfl rfl rfl rfl (by omega) (by omega)) ?_; refine HD_r rfl rfl rfl (R_loadAt rfl (known_R (k := 1) rfl) rfl (mapU_get (by omega))) ?_; refine HD_r rfl rfl rfl (R_move rfl) ?_; refine HD_r rfl rfl rfl (R_indexA (j := i) (m := 1) (off' := i) rfl rfl rfl rfl rfl (by omega) (by omega)) ?_; refine HD_r rfl rfl rfl (R_loadAt rfl (known_R (k := 0) rfl) rfl (mapU_get (by omega))) ?_; refine HD_r rfl rfl rfl (R_build (r := [_, _]) rfl rfl) ?_; refine HD_end ?_; refine HL_yield (XT := XI (i + 1)) (XF := XF) rfl rfl rfl rfl (hY i (pairAt a b i) (i + 1) ⟨by omega, rfl, rfl⟩) ?_ ?_
    all_goals refine HLp rfl ?_
    all_goals refine HL_nil ?_
    all_goals (
     refine hK7 _ _ _ _ ?_; refine HC_cond rfl (fun h8 => ?_) (fun h8 => ?_)
     · try exact Bool.noConfusion h8
       all_goals try simp only [ZZ] at h8
       all_goals (
        refine HC_ret (HQ_blockR (HQ_thenR ?_)); refine HQ_thenR (HQ_blockR ?_); refine HQ_post rfl rfl .nil (fun w1 hs1 => ?_)
        obtain ⟨xs1, hx1⟩ := hs1.now
        exact ⟨⟨_, rfl⟩, hs1.keep, .inr ⟨_, hx1⟩⟩
        skip)
     · try exact Bool.noConfusion h8
       all_goals try simp only [ZZ] at h8
       all_goals (
        refine HC_skip (HQ_blockN (hK5 _ _ _ _ ?_)); refine HC_region (HLp rfl (HL_wrap_i64 (by omega) (by omega) ?_)); refine HLm rfl (HL_nil (HQ_then ?_)); exact HQ_again (i + 1) (by omega) (by omega) (.cons rfl (.cons rfl (.cons rfl (.cons rfl .nil)))) (List.nil_sublist _) (fun _ _ h => h)
        skip)
     skip)
  · try exact Bool.noConfusion h4
    try simp only [ZZ] at h4
    refine HC_exit (HQ_thenE ?_); refine HQ_thenE (HQ_blockE ?_); refine HQ_postN rfl rfl .nil (fun w1 hs1 => ?_)
    obtain ⟨xs1, hx1⟩ := hs1.now
    exact ⟨⟨_, rfl⟩, hs1.keep, .inl ⟨i, _, (by show i = 4; omega), hx1⟩⟩
set_option maxRecDepth 10000 in
theorem P_carry {g : FuncId} {F G : Nat → Nat → Nat → Nat} (C : Car Tryz.prog g F G) {a b : List Nat} (ha : WOk a) (hb : WOk b) : Pure Tryz.prog 222 [wV a, wV b, .func (.func g) #[] #[]].toArray (resW (crR F G a b)) := by
  refine pure_of_HC Tryz.func222 rfl rfl fun w => ?_; refine HC_seq fun K1 hK1 => HC_region ?_; refine HL_box (cs := (a.map uV).toArray) rfl rfl rfl rfl fun r1 => ?_; refine HL_box (cs := (b.map uV).toArray) rfl rfl rfl rfl fun r2 => ?_; refine HL_box (cs := #[_]) rfl rfl rfl rfl fun r3 => ?_; refine HL_alloc (cs := (zW.map uV).toArray) rfl rfl rfl rfl fun r4 => ?_; refine HLm rfl ?_; refine HL_nil (hK1 _ _ _ _ ?_); refine HC_seq fun K2 hK2 => HC_region ?_; refine HL_alloc (cs := (zW.map uV).toArray) rfl rfl rfl rfl fun r5 => ?_; refine HL_nil (hK2 _ _ _ _ ?_); refine HC_seq fun K3 hK3 => HC_region ?_; refine HL_alloc (cs := #[_]) rfl rfl rfl rfl fun r6 => ?_
  refine HL_store (k := 0) rfl rfl rfl rfl rfl rfl rfl rfl (by first | (simp only [List.setIfInBounds_toArray, List.set_cons_zero, List.set_cons_succ]; exact rfl) | exact rfl) (by first | (simp only [List.set_cons_zero, List.set_cons_succ]; exact rfl) | exact rfl) ?_; refine HL_nil (hK3 _ _ _ _ ?_); refine HC_seq fun K4 hK4 => ?_; refine HC_seq fun K5 hK5 => HC_region ?_; refine HL_r rfl rfl rfl rfl (R_loadArr (xs := a.map uV) (n := 4) rfl (known_L (k := 5) rfl) rfl rfl (by rw [List.length_map, ha.1])) ?_; refine HL_r rfl rfl rfl rfl (R_loadArr (xs := b.map uV) (n := 4) rfl (known_L (k := 4) rfl) rfl rfl (by rw [List.length_map, hb.1])) ?_; refine HL_callPE rfl rfl rfl (enters_of Tryz.func230 (by kernel_rfl) rfl) (E_pairs ha.1 hb.1) fun pp => ?_
  obtain ⟨p1, p2⟩ := pp
  change HL _ _ _ [(p2, _), (p1, _), (r6, _), (r5, _), (r4, _), (r3, _), (r2, _), (r1, _)] _ _ _ _; refine HL_nil (hK5 _ _ _ _ ?_); refine HC_block (HC_sel [3, 2, 0, 1, 4, 5, 6, 7] (by decide) rfl ?_); refine HC_range (τ := Unit) (fun i (s : List Nat × Nat) => s = crS F G a b i ∧ i ≤ 4) (fun s => [(r5, .cells (s.1.map uV).toArray 27 (0, 0)), (r6, .cells #[uV s.2] 25 (0, 0))]) (fun _ _ => False) (fun _ => []) [(p2, _), (p1, _), (r4, _), (r3, _), (r2, _), (r1, _)] (zW, 0) rfl rfl (enters_of Tryz.func233 (by kernel_rfl) rfl) (I_pairs ha.1 hb.1 p1 p2) (by rintro _ _ _ ⟨_, rfl, _⟩; rfl) rfl (by simp) rfl ⟨rfl, by decide⟩ ?_ ?_ ?_
  · rintro q Xr Xb w3 i _ _ s ⟨hi, rfl, rfl⟩ ⟨hs, -⟩ Kr hKr
    have hs4 : s.1.length = 4 := by rw [hs]; exact crS_len F G a b i
    have hs1 : s.2 ≤ 1 := by rw [hs]; exact (crS_ok C ha hb i).2
    refine HC_seq fun K6 hK6 => HC_region ?_; refine HLm rfl ?_; refine HL_nil (hK6 _ _ _ _ ?_); refine HC_region (HL_alloc (cs := #[_, _]) rfl rfl rfl rfl fun r1 => ?_)
    refine HL_storeA (k := 0) (n := 2) (cs' := #[_, _]) (vs := #[_, _]) rfl rfl rfl rfl rfl rfl rfl (by exact Nat.le_of_ble_eq_true rfl) rfl (by first | (simp only [List.set_cons_zero, List.set_cons_succ]; exact rfl) | exact rfl) ?_; refine HL_nil ?_; refine hKr _ _ ?_; clear hKr; refine HC_block (HC_region ?_); refine HLm rfl (HL_r rfl rfl rfl rfl (R_load rfl (known_R (k := 3) rfl) rfl rfl) ?_)
    refine HL_r rfl rfl rfl rfl (R_indexA (j := 0) rfl rfl rfl rfl rfl (by first | decide | omega) (by first | (simp only [Nat.zero_add, Nat.reduceAdd, Nat.reduceMul, Nat.zero_mul, Nat.mul_one, Nat.add_zero]; exact rfl) | exact rfl)) ?_; refine HL_r rfl rfl rfl rfl (R_load rfl (known_L (k := 0) rfl) rfl rfl) ?_
    refine HL_r rfl rfl rfl rfl (R_indexA (j := 1) rfl rfl rfl rfl rfl (by first | decide | omega) (by first | (simp only [Nat.zero_add, Nat.reduceAdd, Nat.reduceMul, Nat.zero_mul, Nat.mul_one, Nat.add_zero]; exact rfl) | exact rfl)) ?_; refine HL_r rfl rfl rfl rfl (R_load rfl (known_L (k := 0) rfl) rfl rfl) ?_; refine HL_r rfl rfl rfl rfl (R_load rfl (known_L (k := 2) rfl) rfl rfl) ?_; refine HL_r rfl rfl rfl rfl (R_callX rfl rfl (fun w => C.run (a.getD i 0) (b.getD i 0) s.2 w hs1)) ?_; refine HLm rfl (HL_r rfl rfl rfl rfl (R_extract rfl rfl) (HL_r rfl rfl rfl rfl (R_extract rfl rfl) ?_)); refine HL_r rfl rfl rfl rfl (R_indexA (j := i) (m := 1) (off' := i) rfl rfl rfl rfl rfl (by omega) (by omega)) ?_; refine HL_storeAt (k := 1) (off := i) (xs := s.1.map uV) (ys := (s.1.set i (F (a.getD i 0) (b.getD i 0) s.2)).map uV) rfl rfl rfl rfl rfl rfl (by rw [List.length_map, hs4]; omega) (set_mapU rfl) rfl ?_
    refine HL_store (k := 2) rfl rfl rfl rfl rfl rfl rfl rfl (by first | (simp only [List.setIfInBounds_toArray, List.set_cons_zero, List.set_cons_succ]; exact rfl) | exact rfl) (by first | (simp only [List.set_cons_zero, List.set_cons_succ]; exact rfl) | exact rfl) ?_; refine HL_nil ?_; refine HQ_blockN (HQ_sel [1, 2] (L' := [_, _]) (by decide) rfl (HQ_round (crS F G a b (i + 1)) ⟨rfl, by omega⟩ ?_)); simp only [crS, ← hs]
  · rintro D i s hfi ⟨hs, -⟩
    have hi4 : i = 4 := hfi
    subst hi4
    have hs4 : s.1.length = 4 := by rw [hs]; exact crS_len F G a b 4
    have hcr : crR F G a b = if s.2 = 0 then (s.1, 0) else (zW, 6) := by rw [hs]; rfl
    refine HQ_blockN (hK4 _ _ _ _ ?_); refine HC_seq fun K7 hK7 => ?_; refine HC_seq fun K8 hK8 => HC_region ?_; refine HL_r rfl rfl rfl rfl (R_load rfl (known_L (k := 2) rfl) rfl rfl) ?_; refine HLp rfl ?_; refine HL_nil (hK8 _ _ _ _ ?_); refine HC_cond rfl (fun h9 => ?_) (fun h9 => ?_)
    · try exact Bool.noConfusion h9
      try simp only [ZZ] at h9
      refine HC_seq fun K10 hK10 => HC_region ?_; refine HL_r rfl rfl rfl rfl (R_build (r := [_, _, _, _]) rfl rfl) ?_
      refine HL_storeA (k := 5) (n := 4) (cs' := #[_, _, _, _]) (vs := #[_, _, _, _]) rfl rfl rfl rfl rfl rfl rfl (by exact Nat.le_of_ble_eq_true rfl) rfl (by first | (simp only [List.set_cons_zero, List.set_cons_succ]; exact rfl) | exact rfl) ?_; refine HLm rfl ?_; refine HL_nil (hK10 _ _ _ _ ?_); refine HC_ret (HQ_thenR ?_); refine HQ_mark (k := 0) rfl rfl ?_
      (refine HQ_post rfl rfl (.cons (res_cellA (vs := [_, _, _, _]) rfl (known_L (k := 5) rfl) rfl rfl) (.cons (res_tmp rfl) .nil)) (fun w1 hs1 => ?_)
       exact ⟨by rw [hcr, if_neg (by omega)]; rfl, hs1.keep⟩)
    · try exact Bool.noConfusion h9
      try simp only [ZZ] at h9
      refine HC_skip (hK7 _ _ _ _ ?_); refine HC_seq fun K11 hK11 => HC_region ?_; refine HL_r rfl rfl rfl rfl (R_loadArr (xs := s.1.map uV) (n := 4) rfl (known_L (k := 1) rfl) rfl rfl (by rw [List.length_map, hs4])) ?_; refine HL_storeArr (k := 5) (n := 4) (ys := s.1.map uV) rfl rfl rfl rfl rfl (by rw [List.length_map, hs4]) rfl (by simp [uV, oneB, List.all_map, List.all_eq_true]) rfl ?_; refine HLm rfl ?_; refine HL_nil (hK11 _ _ _ _ ?_); refine HC_ret (HQ_mark (k := 0) rfl rfl ?_)
      (refine HQ_post rfl rfl (.cons (res_cellA (vs := s.1.map uV) rfl (known_L (k := 5) rfl) rfl (by rw [List.length_map, hs4]; rfl)) (.cons (res_tmp rfl) .nil)) (fun w1 hs1 => ?_)
       exact ⟨by rw [hcr, if_pos (by omega)]; rfl, hs1.keep⟩)
  · exact fun _ _ _ h => h.elim
end Go.Proofs.YtlcbfphioeppaaaGreatDoor
namespace Go.Proofs.YtlcbfphioeppaaaGreatDoor
set_option linter.all false
open Go.SL Go.RowKit Go.Shelf
theorem car_sub : Car Tryz.prog 223 subF subG := by
  refine ⟨fun x y c w hc => ?_, fun x y c => Nat.mod_lt _ (by decide), fun x y c hx hy hc => ?_⟩
  · show (callFunc _ #[.int .u64 (x : Int), .int .u64 (y : Int), .int .u64 (c : Int)]).run _ _ = _
    rw [run_callFunc_extern Tryz.func223 (by kernel_rfl) (by kernel_rfl) (by kernel_rfl) (e := sub64Entry) (by kernel_rfl), run_sub64 x y c hc]
    rfl
  · unfold subG; split <;> omega
set_option maxRecDepth 10000 in
theorem P_word_Sub {a b : List Nat} (ha : WOk a) (hb : WOk b) : Pure Tryz.prog 203 [wV a, wV b].toArray (resW (subR a b)) := by
  refine pure_of_HC Tryz.func203 rfl rfl fun w => ?_; refine HC_seq fun K1 hK1 => HC_region ?_; refine HL_box (cs := (a.map uV).toArray) rfl rfl rfl rfl fun r1 => ?_; refine HL_box (cs := (b.map uV).toArray) rfl rfl rfl rfl fun r2 => ?_; refine HL_alloc (cs := (zW.map uV).toArray) rfl rfl rfl rfl fun r3 => ?_; refine HLm rfl ?_; refine HL_nil (hK1 _ _ _ _ ?_); refine HC_seq fun K2 hK2 => HC_region ?_; refine HL_r rfl rfl rfl rfl (R_loadArr (xs := a.map uV) (n := 4) rfl (known_L (k := 2) rfl) rfl rfl (by rw [List.length_map, ha.1])) ?_; refine HL_r rfl rfl rfl rfl (R_loadArr (xs := b.map uV) (n := 4) rfl (known_L (k := 1) rfl) rfl rfl (by rw [List.length_map, hb.1])) ?_; refine HL_callP rfl rfl rfl (enters_of Tryz.func222 (by kernel_rfl) rfl) (P_carry car_sub ha hb) ?_; refine HL_r rfl rfl rfl rfl (R_extract rfl rfl) ?_; refine HL_r rfl rfl rfl rfl (R_extract rfl rfl) ?_; refine HL_storeArr (k := 0) (n := 4) (ys := (subR a b).1.map uV) rfl rfl rfl rfl rfl (by rw [List.length_map]; exact crR_len) rfl (mapU_one _) rfl ?_; refine HLm rfl ?_; refine HL_nil (hK2 _ _ _ _ ?_); refine HC_ret ?_; refine HQ_post rfl rfl (.cons (res_cellA (vs := (subR a b).1.map uV) rfl (known_L (k := 0) rfl) rfl (by rw [List.length_map, show (subR a b).1.length = 4 from crR_len]; rfl)) (.cons (res_tmp rfl) .nil)) (fun w1 hs1 => ?_); exact ⟨rfl, hs1.keep⟩
end Go.Proofs.YtlcbfphioeppaaaGreatDoor
namespace Go.Proofs.YtlcbfphioeppaaaGreatDoor
set_option linter.all false
open Go.SL Go.RowKit Go.Shelf
set_option maxRecDepth 10000 in
theorem P_word_Less {a b : List Nat} (ha : WOk a) (hb : WOk b) : Pure Tryz.prog 149 [wV a, wV b].toArray (.bool (lessB a b)) := by
  refine pure_of_HC Tryz.func149 rfl rfl fun w => ?_; refine HC_seq fun K1 hK1 => HC_region ?_; refine HL_box (cs := (a.map uV).toArray) rfl rfl rfl rfl fun r1 => ?_; refine HL_box (cs := (b.map uV).toArray) rfl rfl rfl rfl fun r2 => ?_; refine HLm rfl ?_; refine HL_nil (hK1 _ _ _ _ ?_); refine HC_seq fun K2 hK2 => ?_; refine HC_seq fun K3 hK3 => HC_region ?_; refine HL_r rfl rfl rfl rfl (R_loadArr (xs := a.map uV) (n := 4) rfl (known_L (k := 1) rfl) rfl rfl (by rw [List.length_map, ha.1])) ?_; refine HL_r rfl rfl rfl rfl (R_loadArr (xs := b.map uV) (n := 4) rfl (known_L (k := 0) rfl) rfl rfl (by rw [List.length_map, hb.1])) ?_; refine HL_r rfl rfl rfl rfl (R_eqArr (xs := a.map uV) (ys := b.map uV) (n := 4) rfl rfl rfl rfl rfl (by kernel_rfl) (by rw [List.length_map, ha.1]) (by rw [List.length_map, hb.1]) (scal_mapU rfl a) (scal_mapU rfl b)) ?_; refine HL_as (congrArg Value.bool (eq_mapU (ha.1.trans hb.1.symm))) ?_; refine HL_nil (hK3 _ _ _ _ ?_); refine HC_cond rfl (fun h4 => ?_) (fun h4 => ?_)
  · try exact Bool.noConfusion h4
    try simp only [ZZ] at h4
    refine HC_seq fun K5 hK5 => HC_region ?_; refine HLm rfl ?_; refine HL_nil (hK5 _ _ _ _ ?_); refine HC_ret (HQ_thenR ?_); refine HQ_post rfl rfl (.cons (res_tmp rfl) .nil) (fun w1 hs1 => ?_); refine ⟨?_, hs1.keep⟩
    (have hab : a = b := by assumption
     unfold lessB; simp [resVal, hab]; done)
  · try exact Bool.noConfusion h4
    try simp only [ZZ] at h4
    refine HC_skip (hK2 _ _ _ _ ?_); refine HC_seq fun K6 hK6 => HC_region ?_; refine HL_r rfl rfl rfl rfl (R_loadArr (xs := a.map uV) (n := 4) rfl (known_L (k := 1) rfl) rfl rfl (by rw [List.length_map, ha.1])) ?_; refine HL_r rfl rfl rfl rfl (R_loadArr (xs := b.map uV) (n := 4) rfl (known_L (k := 0) rfl) rfl rfl (by rw [List.length_map, hb.1])) ?_; refine HL_callP rfl rfl rfl (enters_of Tryz.func203 (by kernel_rfl) rfl) (P_word_Sub ha hb) ?_; refine HLm rfl (HL_r rfl rfl rfl rfl (R_extract rfl rfl) (HL_r rfl rfl rfl rfl (R_extract rfl rfl) ?_)); refine HL_alloc (cs := (zW.map uV).toArray) rfl rfl rfl rfl fun r3 => ?_; refine HL_storeArr (k := 0) (n := 4) (ys := (subR a b).1.map uV) rfl rfl rfl rfl rfl (by rw [List.length_map]; exact crR_len) rfl (mapU_one _) rfl ?_; refine HLm rfl ?_; refine HL_nil (hK6 _ _ _ _ ?_); refine HC_seq fun K7 hK7 => HC_region ?_; refine HLm rfl (HLp rfl (HLm rfl ?_)); refine HL_nil (hK7 _ _ _ _ ?_); refine HC_ret ?_; refine HQ_post rfl rfl (.cons (res_tmp rfl) .nil) (fun w1 hs1 => ?_); refine ⟨?_, hs1.keep⟩
    (have hab : ¬ a = b := by assumption
     unfold lessB; simp [resVal, hab])
end Go.Proofs.YtlcbfphioeppaaaGreatDoor
namespace Go.Proofs.YtlcbfphioeppaaaGreatDoor
set_option linter.all false
open Go.SL Go.RowKit Go.Shelf
end Go.Proofs.YtlcbfphioeppaaaGreatDoor
namespace Go.Proofs.YtlcbfphioeppaaaGreatDoor
set_option linter.all false
open Go.SL Go.RowKit Go.Shelf
theorem P_TrimLeft0 (s : List UInt8) : Pure Tryz.prog 202 [.string (bs s), .string ⟨#[0]⟩].toArray (.string (bs (Lib.trimLeftB s 0))) := ⟨fun w => by
  have h := Tryz.strings_TrimLeft_one (bs s) 0 (by decide) w
  refine h.mono fun e w' ⟨h1, h2⟩ => ⟨?_, h2 ▸ Keep.refl _ _⟩
  rw [h1]; simp [bs]⟩
theorem P_Repeat0 {n : Nat} (hn : n ≤ 32) : Pure Tryz.prog 102 [.string ⟨#[0]⟩, .int .i64 (n : Int)].toArray (.string (bs (Lib.repeatL [0] n))) := ⟨fun w => by
  have hs : (ByteArray.mk #[0]).size = 1 := rfl
  have h := Tryz.strings_Repeat ⟨#[0]⟩ n w (by omega) (by rw [hs]; omega)
  refine h.mono fun e w' ⟨h1, h2⟩ => ⟨?_, Keep.of_below h2⟩
  rw [h1]; rfl⟩
end Go.Proofs.YtlcbfphioeppaaaGreatDoor
namespace Go.Proofs.YtlcbfphioeppaaaGreatDoor
set_option linter.all false
open Go.SL Go.RowKit Go.Shelf
def bytesW (l : List Nat) : List UInt8 := Lib.trimLeftB (beD l 32) 0
set_option maxRecDepth 10000 in
theorem P_word_Bytes {l : List Nat} (hl : WOk l) : Pure Tryz.prog 144 [wV l].toArray (.string (bs (bytesW l))) := by
  refine pure_of_HC Tryz.func144 rfl rfl fun w => ?_; refine HC_seq fun K1 hK1 => HC_region ?_; refine HL_box (cs := (l.map uV).toArray) rfl rfl rfl rfl fun r1 => ?_; refine HLm rfl ?_; refine HL_nil (hK1 _ _ _ _ ?_); refine HC_seq fun K2 hK2 => HC_region ?_; refine HL_r rfl rfl rfl rfl (R_loadArr (xs := l.map uV) (n := 4) rfl (known_L (k := 0) rfl) rfl rfl (by rw [List.length_map, hl.1])) ?_; refine HL_callP rfl rfl rfl (enters_of Tryz.func68 (by kernel_rfl) rfl) (P_word_Fixed hl) ?_; refine HL_callP rfl rfl rfl (enters_of Tryz.func202 (by kernel_rfl) rfl) (P_TrimLeft0 (beD l 32)) ?_; refine HLm rfl ?_; refine HL_nil (hK2 _ _ _ _ ?_); refine HC_ret ?_; refine HQ_post rfl rfl (.cons (res_tmp rfl) .nil) (fun w1 hs1 => ?_); exact ⟨rfl, hs1.keep⟩
theorem trim_step {t : List UInt8} (h1 : 0 < t.length) (h2 : ((t.getD 0 0).toNat : Int) = 0) : Lib.trimLeftB (t.drop 1) 0 = Lib.trimLeftB t 0 := by
  match t, h1 with
  | x :: t, _ =>
    have hx : x = 0 := by
      have : x.toNat = 0 := by simpa using h2
      exact UInt8.toNat_inj.1 this
    subst hx
    simp [Lib.trimLeftB]
theorem trim_nil {t : List UInt8} (h : ¬ 0 < t.length ∨ ((t.getD 0 0).toNat : Int) ≠ 0) : Lib.trimLeftB t 0 = t := by
  match t, h with
  | [], _ => rfl
  | x :: t, h =>
    have hx : ¬ x = 0 := by
      rintro rfl
      rcases h with h | h
      · simp at h
      · simp at h
    simp [Lib.trimLeftB, hx]
set_option maxRecDepth 10000 in
theorem P_ref_Bytes {l : List Nat} (hl : WOk l) : Pure Tryz.prog 193 [wV l].toArray (.string (bs (bytesW l))) := by
  refine pure_of_HC Tryz.func193 rfl rfl fun w => ?_; refine HC_seq fun K1 hK1 => HC_region ?_; refine HL_box (cs := (l.map uV).toArray) rfl rfl rfl rfl fun r1 => ?_; refine HLm rfl ?_; refine HL_nil (hK1 _ _ _ _ ?_); refine HC_seq fun K2 hK2 => HC_region ?_; refine HL_r rfl rfl rfl rfl (R_loadArr (xs := l.map uV) (n := 4) rfl (known_L (k := 0) rfl) rfl rfl (by rw [List.length_map, hl.1])) ?_; refine HL_callP rfl rfl rfl (enters_of Tryz.func127 (by kernel_rfl) rfl) (P_ref_Fixed hl) ?_; refine HLm rfl ?_; refine HL_nil (hK2 _ _ _ _ ?_); refine HC_seq fun K3 hK3 => HC_block ?_; refine HC_loop (σ := List UInt8) (fun t => Lib.trimLeftB t 0 = bytesW l) (fun t => [(3, .string (bs t))]) (fun _ => []) (fun _ _ _ => True) (fun t => t.length) (beD l 32) rfl (.cons rfl .nil) (List.nil_sublist _) (fun _ _ h => h) ?_; intro t ht; refine HC_seq fun K4 hK4 => ?_; refine HC_seq fun K5 hK5 => HC_region ?_; refine HLm rfl (HL_r rfl rfl rfl rfl (R_lenBs rfl rfl) ?_); refine HLp rfl (HLm rfl ?_)
  refine HL_case 9 rfl (fun hb6 => ?_) (fun hb6 => ?_) <;> (try simp only [ZZ] at hb6) <;> first | (refine HLm rfl ?_) | (refine HL_skip rfl rfl rfl ?_)
  all_goals first | refine HL_r rfl rfl rfl rfl (R_indexBs (j := 0) rfl rfl rfl rfl (by omega) rfl) ?_ | refine HL_skip rfl rfl rfl ?_
  all_goals first
    | (refine HLp rfl ?_)
    | (refine HL_skip rfl rfl rfl ?_)
  all_goals first
    | (refine HL_r rfl rfl rfl rfl (R_pickT rfl rfl) ?_)
    | (refine HL_r rfl rfl rfl rfl (R_pickF rfl rfl) ?_)
  all_goals refine HL_nil ?_
  all_goals (
   refine hK5 _ _ _ _ ?_; refine HC_cond rfl (fun h8 => ?_) (fun h8 => ?_)
   · try exact Bool.noConfusion h8
     all_goals try simp only [ZZ] at h8
     all_goals (
      refine HC_skip (hK4 _ _ _ _ ?_); refine HC_block (HC_region ?_); refine HLm rfl (HL_r rfl rfl rfl rfl (R_sliceBs (kl := some (.i64, 1)) (kh := none) (m := 1) (n := t.length) rfl rfl rfl rfl rfl rfl (by omega) (by omega) (show _ = t.drop 1 from by rw [List.take_length])) ?_); refine HLm rfl (HL_nil ?_); refine HQ_blockN (HQ_then ?_)
      first
      | (exfalso; omega)
      | exact HQ_again (t.drop 1) ((trim_step (by omega) (by assumption)).trans ht) (by rw [List.length_drop]; omega) (.cons rfl .nil) (List.nil_sublist _) (fun _ _ h => h)
      skip)
   · try exact Bool.noConfusion h8
     try simp only [ZZ] at h8
     refine HC_exit (HQ_thenE ?_); refine HQ_thenE (HQ_blockE (hK3 _ _ _ _ ?_)); refine HC_seq fun K9 hK9 => HC_region ?_; refine HLm rfl (HLm rfl ?_); refine HL_nil (hK9 _ _ _ _ ?_); refine HC_ret ?_; refine HQ_post rfl rfl (.cons (res_tmp rfl) .nil) (fun w1 hs1 => ?_); refine ⟨?_, hs1.keep⟩
     have hh : Lib.trimLeftB t 0 = t := trim_nil (by first | (left; omega) | (right; assumption))
     rw [← ht, hh]; rfl
   skip)
end Go.Proofs.YtlcbfphioeppaaaGreatDoor
namespace Go.Proofs.YtlcbfphioeppaaaGreatDoor
set_option linter.all false
open Go.SL Go.RowKit Go.Shelf
def onlyB (v : Vl) (num bits items pick : Bool) : Bool := (num || decide (v.num = [0, 0, 0, 0])) && (bits || decide (v.bits.length = 0)) && (items || decide (v.items.length = 0)) && (pick || decide (v.pick = 0))
def ofT (k n : Int) (m : Nat) (v : Vl) : Bool :=
  if k = 1 then onlyB v true false false false && decide (((bytesW v.num).length : Int) ≤ n)
  else if k = 2 then onlyB v true false false false && (decide (v.num = [0, 0, 0, 0]) || decide (v.num = [1, 0, 0, 0]))
  else if k = 3 then onlyB v false false true false && decide ((v.items.length : Int) = n)
  else if k = 4 then onlyB v false false true false
  else if k = 5 then onlyB v false true false false && decide ((v.bits.length : Int) = n)
  else if k = 6 then onlyB v false true false false
  else if k = 7 then onlyB v false false true false && decide (v.items.length = m)
  else onlyB v false false true true && decide (v.items.length = 1) && decide (0 ≤ v.pick) && decide (v.pick < m)
instance : Inhabited Ty := ⟨.mk 0 0 none []⟩
def inX (k pick : Int) (i : Nat) : Nat := if k = 7 then i else if k = 8 then pick.toNat else 0
def inTy (k pick : Int) (ins : List Ty) (i : Nat) : Ty := ins.getD (inX k pick i) default
mutual
def fitT : Vl → Ty → Int
  | .mk a b c d bits pb items pi pick, .mk k n p ins => if (k = 4 ∧ n < items.length) ∨ (k = 6 ∧ n < bits.length) then 5 else if ofT k n ins.length (.mk a b c d bits pb items pi pick) = false then 2 else fitL items k pick ins 0
def fitL : List Vl → Int → Int → List Ty → Nat → Int
  | [], _, _, _, _ => 0
  | x :: xs, k, pick, ins, i => if fitT x (inTy k pick ins i) = 0 then fitL xs k pick ins (i + 1) else fitT x (inTy k pick ins i)
end
theorem inX_lt {k n : Int} {p : Pl} {ins : List Ty} {dp : Int} {v : Vl} {i : Nat} (hc : chk (.mk k n p ins) dp = 0) (ho : ofT k n ins.length v = true) (hi : i < v.items.length) : inX k v.pick i < ins.length := by
  obtain ⟨hk, hf, _, _⟩ := chk_mk hc
  unfold ofT onlyB at ho
  unfold okForm at hf
  unfold inX
  have h9 : k = 1 ∨ k = 2 ∨ k = 3 ∨ k = 4 ∨ k = 5 ∨ k = 6 ∨ k = 7 ∨ k = 8 := by omega
  have hl : ¬ v.items = [] := fun h => by rw [h] at hi; simp at hi
  rcases h9 with rfl | rfl | rfl | rfl | rfl | rfl | rfl | rfl
  all_goals simp [hl] at ho hf ⊢
  all_goals omega
theorem inTy_get {k pick : Int} {ins : List Ty} {i : Nat} (h : inX k pick i < ins.length) : ins[inX k pick i]? = some (inTy k pick ins i) ∧ inTy k pick ins i ∈ ins := by
  unfold inTy
  rw [List.getD_eq_getElem?_getD, List.getElem?_eq_getElem h]; exact ⟨rfl, List.getElem_mem h⟩
set_option maxRecDepth 10000 in
theorem S_ref_only {R : List (Nat × Obj)} {v : Vl} (hv : v.In R) (h1 h2 h3 h4 : Bool) : PureR Tryz.prog 192 [v.val, .bool h1, .bool h2, .bool h3, .bool h4].toArray (.bool (onlyB v h1 h2 h3 h4)) R := by
  cases hv with
  | @mk a b c d bits pb items pi pick ha hb hc hd hlb hsb hl hs hp hi =>
  unfold onlyB Vl.num Vl.bits Vl.items Vl.pick
  refine pureR_of_HC Tryz.func192 rfl rfl fun w => ?_; refine HC_seq fun K1 hK1 => HC_region ?_; refine HL_box (cs := #[_, _, _, _, _, _, _]) rfl rfl rfl rfl fun r1 => ?_; refine HLm rfl ?_; refine HL_nil (hK1 _ _ _ _ ?_); clear hK1 K1; refine HC_seq fun K2 hK2 => HC_region ?_; refine HLm rfl (HLm rfl ?_)
  refine HL_case 12 rfl (fun hb3 => ?_) (fun hb3 => ?_) <;> (try simp only [ZZ] at hb3) <;> first | (refine HL_r rfl rfl rfl rfl (R_fieldAddr rfl rfl (by first | (simp only [Nat.zero_add, Nat.reduceAdd, Nat.reduceMul, Nat.zero_mul, Nat.mul_one, Nat.add_zero]; exact rfl) | exact rfl)) ?_) | (refine HL_skip rfl rfl rfl ?_)
  all_goals first
    | (refine HL_r rfl rfl rfl rfl (R_loadA (vs := [_, _, _, _]) rfl (known_L (k := 0) rfl) rfl rfl rfl rfl) ?_)
    | (refine HL_skip rfl rfl rfl ?_)
  all_goals first
    | (refine HL_r rfl rfl rfl rfl (R_build (r := [_, _, _, _]) rfl rfl) ?_)
    | (refine HL_skip rfl rfl rfl ?_)
  all_goals first
    | (refine HL_r rfl rfl rfl rfl (R_eqArr rfl rfl rfl rfl rfl (by kernel_rfl) rfl rfl rfl rfl) ?_)
    | (refine HL_skip rfl rfl rfl ?_)
  all_goals first | (refine HL_as (congrArg Value.bool (eq_mapU (a := [a, b, c, d]) (b := [0, 0, 0, 0]) rfl)) ?_) | skip
  all_goals first
    | (refine HL_r rfl rfl rfl rfl (R_pickT rfl rfl) ?_)
    | (refine HL_r rfl rfl rfl rfl (R_pickF rfl rfl) ?_)
  all_goals refine HLm rfl ?_
  all_goals first
    | (refine HLm rfl ?_)
    | (refine HL_case 18 rfl (fun hb7 => ?_) (fun hb7 => ?_) <;> (try simp only [ZZ] at hb7) <;> first | (refine HLm rfl ?_) | (refine HL_skip rfl rfl rfl ?_))
  all_goals first
    | (refine HLm rfl ?_)
    | (refine HL_skip rfl rfl rfl ?_)
  all_goals first
    | (refine HL_skip rfl rfl rfl ?_)
    | (refine HL_case 20 rfl (fun hb9 => ?_) (fun hb9 => ?_) <;> (try simp only [ZZ] at hb9) <;> first | (refine HL_r rfl rfl rfl rfl (R_fieldAddr rfl rfl (by first | (simp only [Nat.zero_add, Nat.reduceAdd, Nat.reduceMul, Nat.zero_mul, Nat.mul_one, Nat.add_zero]; exact rfl) | exact rfl)) ?_) | (refine HL_skip rfl rfl rfl ?_))
  all_goals first
    | (refine HL_r rfl rfl rfl rfl (R_load rfl (known_L (k := 0) rfl) rfl rfl) ?_)
    | (refine HL_skip rfl rfl rfl ?_)
  all_goals first
    | (refine HL_r rfl rfl rfl rfl (R_lenPl rfl hsb rfl) ?_)
    | (refine HL_skip rfl rfl rfl ?_)
  all_goals first
    | (refine HLp rfl ?_)
    | (refine HL_skip rfl rfl rfl ?_)
  all_goals first
    | (refine HL_r rfl rfl rfl rfl (R_pickT rfl rfl) ?_)
    | (refine HL_r rfl rfl rfl rfl (R_pickF rfl rfl) ?_)
    | (refine HL_skip rfl rfl rfl ?_)
  all_goals first
    | (refine HL_r rfl rfl rfl rfl (R_pickT rfl rfl) ?_)
    | (refine HL_r rfl rfl rfl rfl (R_pickF rfl rfl) ?_)
  all_goals refine HLm rfl ?_
  all_goals first
    | (refine HLm rfl ?_)
    | (refine HL_skip rfl rfl rfl ?_)
    | (refine HL_case 27 rfl (fun hb14 => ?_) (fun hb14 => ?_) <;> (try simp only [ZZ] at hb14) <;> first | (refine HLm rfl ?_) | (refine HL_skip rfl rfl rfl ?_))
  all_goals first
    | (refine HLm rfl ?_)
    | (refine HL_skip rfl rfl rfl ?_)
  all_goals first
    | (refine HL_skip rfl rfl rfl ?_)
    | (refine HL_case 29 rfl (fun hb16 => ?_) (fun hb16 => ?_) <;> (try simp only [ZZ] at hb16) <;> first | (refine HL_r rfl rfl rfl rfl (R_fieldAddr rfl rfl (by first | (simp only [Nat.zero_add, Nat.reduceAdd, Nat.reduceMul, Nat.zero_mul, Nat.mul_one, Nat.add_zero]; exact rfl) | exact rfl)) ?_) | (refine HL_skip rfl rfl rfl ?_))
  all_goals first
    | (refine HL_r rfl rfl rfl rfl (R_load rfl (known_L (k := 0) rfl) rfl rfl) ?_)
    | (refine HL_skip rfl rfl rfl ?_)
  all_goals first
    | (refine HL_r rfl rfl rfl rfl (R_lenPl rfl hs rfl) ?_)
    | (refine HL_skip rfl rfl rfl ?_)
  all_goals first
    | (refine HLp rfl ?_)
    | (refine HL_skip rfl rfl rfl ?_)
  all_goals first
    | (refine HL_r rfl rfl rfl rfl (R_pickT rfl rfl) ?_)
    | (refine HL_r rfl rfl rfl rfl (R_pickF rfl rfl) ?_)
    | (refine HL_skip rfl rfl rfl ?_)
  all_goals first
    | (refine HL_r rfl rfl rfl rfl (R_pickT rfl rfl) ?_)
    | (refine HL_r rfl rfl rfl rfl (R_pickF rfl rfl) ?_)
  all_goals refine HLm rfl ?_
  all_goals first
    | (refine HLm rfl ?_)
    | (refine HL_skip rfl rfl rfl ?_)
    | (refine HL_case 36 rfl (fun hb21 => ?_) (fun hb21 => ?_) <;> (try simp only [ZZ] at hb21) <;> first | (refine HLm rfl ?_) | (refine HL_skip rfl rfl rfl ?_))
  all_goals first
    | (refine HLm rfl ?_)
    | (refine HL_skip rfl rfl rfl ?_)
  all_goals first
    | (refine HL_skip rfl rfl rfl ?_)
    | (refine HL_case 38 rfl (fun hb23 => ?_) (fun hb23 => ?_) <;> (try simp only [ZZ] at hb23) <;> first | (refine HL_r rfl rfl rfl rfl (R_fieldAddr rfl rfl (by first | (simp only [Nat.zero_add, Nat.reduceAdd, Nat.reduceMul, Nat.zero_mul, Nat.mul_one, Nat.add_zero]; exact rfl) | exact rfl)) ?_) | (refine HL_skip rfl rfl rfl ?_))
  all_goals first
    | (refine HL_r rfl rfl rfl rfl (R_load rfl (known_L (k := 0) rfl) rfl rfl) ?_)
    | (refine HL_skip rfl rfl rfl ?_)
  all_goals first
    | (refine HLp rfl ?_)
    | (refine HL_skip rfl rfl rfl ?_)
  all_goals first
    | (refine HL_r rfl rfl rfl rfl (R_pickT rfl rfl) ?_)
    | (refine HL_r rfl rfl rfl rfl (R_pickF rfl rfl) ?_)
    | (refine HL_skip rfl rfl rfl ?_)
  all_goals first
    | (refine HL_r rfl rfl rfl rfl (R_pickT rfl rfl) ?_)
    | (refine HL_r rfl rfl rfl rfl (R_pickF rfl rfl) ?_)
  all_goals refine HLm rfl ?_
  all_goals refine HL_nil ?_
  all_goals (
   refine hK2 _ _ _ _ ?_; clear hK2 K2; refine HC_ret ?_; refine HQ_post rfl rfl (.cons (res_tmp rfl) .nil) (fun w1 hs1 => ?_); refine ⟨?_, hs1.keep⟩
   simp_all [resVal]
   all_goals first | done | rfl | omega
   skip)
end Go.Proofs.YtlcbfphioeppaaaGreatDoor
namespace Go.Proofs.YtlcbfphioeppaaaGreatDoor
set_option linter.all false
open Go.SL Go.RowKit Go.Shelf
theorem onlyB_mk (a b c d : Nat) (bits : List Bool) (pb : Pl) (items : List Vl) (pi : Pl) (pick : Int) (h1 h2 h3 h4 : Bool) : onlyB (.mk a b c d bits pb items pi pick) h1 h2 h3 h4 = ((h1 || decide ([a, b, c, d] = [0, 0, 0, 0])) && (h2 || decide (bits.length = 0)) && (h3 || decide (items.length = 0)) && (h4 || decide (pick = 0))) := rfl
theorem ofT_mk (k n : Int) (m a b c d : Nat) (bits : List Bool) (pb : Pl) (items : List Vl) (pi : Pl) (pick : Int) (v : Vl) (hv : v = .mk a b c d bits pb items pi pick) : ofT k n m v =
  if k = 1 then onlyB v true false false false && decide (((bytesW [a, b, c, d]).length : Int) ≤ n)
  else if k = 2 then onlyB v true false false false && (decide ([a, b, c, d] = [0, 0, 0, 0]) || decide ([a, b, c, d] = [1, 0, 0, 0]))
  else if k = 3 then onlyB v false false true false && decide ((items.length : Int) = n)
  else if k = 4 then onlyB v false false true false
  else if k = 5 then onlyB v false true false false && decide ((bits.length : Int) = n)
  else if k = 6 then onlyB v false true false false
  else if k = 7 then onlyB v false false true false && decide (items.length = m)
  else onlyB v false false true true && decide (items.length = 1) && decide (0 ≤ pick) && decide (pick < m) := by subst hv; rfl
set_option maxRecDepth 10000 in
theorem S_ref_of {R : List (Nat × Obj)} {k n : Int} {p : Pl} {ins : List Ty} {v : Vl} (ht : Ty.In R (.mk k n p ins)) (hv : v.In R) : PureR Tryz.prog 126 [Ty.val (.mk k n p ins), v.val].toArray (.bool (ofT k n ins.length v)) R := by
  have hon := S_ref_only hv
  cases ht with
  | mk hk hn hlt hst hit =>
  cases hv with
  | @mk a b c d bits pb items pi pick ha hb hc hd hlb hsb hl hs hp hi =>
  have hw : WOk [a, b, c, d] := ⟨rfl, fun x hx => by simp at hx; rcases hx with rfl | rfl | rfl | rfl <;> assumption⟩
  rw [ofT_mk k n ins.length a b c d bits pb items pi pick _ rfl]; refine pureR_of_HC Tryz.func126 rfl rfl fun w => ?_; refine HC_seq fun K1 hK1 => HC_region ?_; refine HL_box (cs := #[_, _, _]) rfl rfl rfl rfl fun r1 => ?_; refine HL_box (cs := #[_, _, _, _, _, _, _]) rfl rfl rfl rfl fun r2 => ?_; refine HLm rfl ?_; refine HL_nil (hK1 _ _ _ _ ?_); clear hK1 K1; refine HC_seq fun K2 hK2 => ?_; refine HC_seq fun K3 hK3 => HC_region ?_
  refine HL_r rfl rfl rfl rfl (R_fieldAddr rfl rfl (by first | (simp only [Nat.zero_add, Nat.reduceAdd, Nat.reduceMul, Nat.zero_mul, Nat.mul_one, Nat.add_zero]; exact rfl) | exact rfl)) ?_; refine HL_r rfl rfl rfl rfl (R_load rfl (known_L (k := 1) rfl) rfl rfl) ?_; refine HL_nil (hK3 _ _ _ _ ?_); clear hK3 K3; refine HC_block (HC_seq fun K4 hK4 => HC_region ?_); refine HLp rfl (HLm rfl ?_); refine HL_nil (hK4 _ _ _ _ ?_); clear hK4 K4; refine HC_cond rfl (fun h5 => ?_) (fun h5 => ?_)
  · try exact Bool.noConfusion h5
    try simp only [ZZ] at h5
    refine HC_seq fun K6 hK6 => ?_; refine HC_draw 12 (by kernel_rfl) (by kernel_rfl) ?_; refine HD_r rfl rfl rfl (R_loadA (vs := [_, _, _, _, _, _, _]) rfl (known_L (k := 0) rfl) rfl rfl rfl rfl) ?_; refine HD_callR rfl rfl rfl (enters_of Tryz.func192 (by kernel_rfl) rfl) (hon true false false false) (fun q hq => Or.inr hq) ?_; refine HD_r rfl rfl rfl (R_move rfl) ?_
    refine HD_case 11 rfl (fun hb7 => ?_) (fun hb7 => ?_) <;> (try simp only [ZZ] at hb7) <;> first | (refine HD_r rfl rfl rfl (R_fieldAddr rfl rfl (by first | (simp only [Nat.zero_add, Nat.reduceAdd, Nat.reduceMul, Nat.zero_mul, Nat.mul_one, Nat.add_zero]; exact rfl) | exact rfl)) ?_) | (refine HD_skip rfl rfl rfl ?_)
    all_goals first
      | (refine HD_r rfl rfl rfl (R_loadA (vs := [_, _, _, _]) rfl (known_L (k := 0) rfl) rfl rfl rfl rfl) ?_)
      | (refine HD_skip rfl rfl rfl ?_)
    all_goals first
      | (refine HD_callP rfl rfl rfl (enters_of Tryz.func193 (by kernel_rfl) rfl) (P_ref_Bytes hw) ?_)
      | (refine HD_skip rfl rfl rfl ?_)
    all_goals first
      | (refine HD_r rfl rfl rfl (R_lenBs rfl rfl) ?_)
      | (refine HD_skip rfl rfl rfl ?_)
    all_goals first
      | (refine HD_r rfl rfl rfl (R_fieldAddr rfl rfl (by first | (simp only [Nat.zero_add, Nat.reduceAdd, Nat.reduceMul, Nat.zero_mul, Nat.mul_one, Nat.add_zero]; exact rfl) | exact rfl)) ?_)
      | (refine HD_skip rfl rfl rfl ?_)
    all_goals first
      | (refine HD_r rfl rfl rfl (R_load rfl (known_L (k := 1) rfl) rfl rfl) ?_)
      | (refine HD_skip rfl rfl rfl ?_)
    all_goals first
      | (refine HD_r rfl rfl rfl (R_pure rfl rfl rfl) ?_)
      | (refine HD_skip rfl rfl rfl ?_)
    all_goals first
      | (refine HD_r rfl rfl rfl (R_pickT rfl rfl) ?_)
      | (refine HD_r rfl rfl rfl (R_pickF rfl rfl) ?_)
    all_goals refine HD_r rfl rfl rfl (R_assign rfl) ?_
    all_goals refine HD_end ?_
    all_goals refine HL_nil ?_
    all_goals (
     refine hK6 _ _ _ _ ?_; clear hK6 K6; refine HC_ret (HQ_blockR (HQ_thenR ?_)); clear hK2 K2; refine HQ_post rfl rfl (.cons (res_tmp rfl) .nil) (fun w1 hs1 => ?_); refine ⟨?_, hs1.keep⟩
     simp_all [resVal]
     skip)
  · try exact Bool.noConfusion h5
    try simp only [ZZ] at h5
    refine HC_seq fun K14 hK14 => HC_region ?_; refine HLp rfl (HLm rfl ?_); refine HL_nil (hK14 _ _ _ _ ?_); clear hK14 K14; refine HC_cond rfl (fun h15 => ?_) (fun h15 => ?_)
    · try exact Bool.noConfusion h15
      try simp only [ZZ] at h15
      refine HC_seq fun K16 hK16 => HC_region ?_; refine HL_r rfl rfl rfl rfl (R_loadA (vs := [_, _, _, _, _, _, _]) rfl (known_L (k := 0) rfl) rfl rfl rfl rfl) ?_; refine HL_callR rfl rfl rfl (enters_of Tryz.func192 (by kernel_rfl) rfl) (hon true false false false) (fun q hq => Or.inr hq) ?_; refine HLm rfl ?_
      refine HL_case 24 rfl (fun hb17 => ?_) (fun hb17 => ?_) <;> (try simp only [ZZ] at hb17) <;> first | (refine HL_r rfl rfl rfl rfl (R_fieldAddr rfl rfl (by first | (simp only [Nat.zero_add, Nat.reduceAdd, Nat.reduceMul, Nat.zero_mul, Nat.mul_one, Nat.add_zero]; exact rfl) | exact rfl)) ?_) | (refine HL_skip rfl rfl rfl ?_)
      all_goals first
        | (refine HL_r rfl rfl rfl rfl (R_loadA (vs := [_, _, _, _]) rfl (known_L (k := 0) rfl) rfl rfl rfl rfl) ?_)
        | (refine HL_skip rfl rfl rfl ?_)
      all_goals first
        | (refine HL_r rfl rfl rfl rfl (R_build (r := [_, _, _, _]) rfl rfl) ?_)
        | (refine HL_skip rfl rfl rfl ?_)
      all_goals first
        | (refine HL_r rfl rfl rfl rfl (R_eqArr rfl rfl rfl rfl rfl (by kernel_rfl) rfl rfl rfl rfl) ?_)
        | (refine HL_skip rfl rfl rfl ?_)
      all_goals first | (refine HL_as (congrArg Value.bool (eq_mapU (a := [a, b, c, d]) (b := [0, 0, 0, 0]) rfl)) ?_) | skip
      all_goals first
        | (refine HLm rfl ?_)
        | (refine HL_skip rfl rfl rfl ?_)
      all_goals first
        | (refine HL_skip rfl rfl rfl ?_)
        | (refine HL_case 29 rfl (fun hb22 => ?_) (fun hb22 => ?_) <;> (try simp only [ZZ] at hb22) <;> first | (refine HL_r rfl rfl rfl rfl (R_fieldAddr rfl rfl (by first | (simp only [Nat.zero_add, Nat.reduceAdd, Nat.reduceMul, Nat.zero_mul, Nat.mul_one, Nat.add_zero]; exact rfl) | exact rfl)) ?_) | (refine HL_skip rfl rfl rfl ?_))
      all_goals first
        | (refine HL_r rfl rfl rfl rfl (R_loadA (vs := [_, _, _, _]) rfl (known_L (k := 0) rfl) rfl rfl rfl rfl) ?_)
        | (refine HL_skip rfl rfl rfl ?_)
      all_goals first
        | (refine HL_r rfl rfl rfl rfl (R_build (r := [_, _, _, _]) rfl rfl) ?_)
        | (refine HL_skip rfl rfl rfl ?_)
      all_goals first
        | (refine HL_r rfl rfl rfl rfl (R_eqArr rfl rfl rfl rfl rfl (by kernel_rfl) rfl rfl rfl rfl) ?_)
        | (refine HL_skip rfl rfl rfl ?_)
      all_goals first | (refine HL_as (congrArg Value.bool (eq_mapU (a := [a, b, c, d]) (b := [1, 0, 0, 0]) rfl)) ?_) | skip
      all_goals first
        | (refine HL_r rfl rfl rfl rfl (R_pickT rfl rfl) ?_)
        | (refine HL_r rfl rfl rfl rfl (R_pickF rfl rfl) ?_)
        | (refine HL_skip rfl rfl rfl ?_)
      all_goals first
        | (refine HL_r rfl rfl rfl rfl (R_pickT rfl rfl) ?_)
        | (refine HL_r rfl rfl rfl rfl (R_pickF rfl rfl) ?_)
      all_goals refine HLm rfl ?_
      all_goals refine HL_nil ?_
      all_goals (
       refine hK16 _ _ _ _ ?_; clear hK16 K16; refine HC_ret (HQ_blockR (HQ_thenR ?_)); clear hK2 K2; refine HQ_post rfl rfl (.cons (res_tmp rfl) .nil) (fun w1 hs1 => ?_); refine ⟨?_, hs1.keep⟩
       simp_all [resVal]
       skip)
    · try exact Bool.noConfusion h15
      try simp only [ZZ] at h15
      refine HC_seq fun K27 hK27 => HC_region ?_; refine HLp rfl (HLm rfl ?_); refine HL_nil (hK27 _ _ _ _ ?_); clear hK27 K27; refine HC_cond rfl (fun h28 => ?_) (fun h28 => ?_)
      · try exact Bool.noConfusion h28
        try simp only [ZZ] at h28
        refine HC_seq fun K29 hK29 => HC_region ?_; refine HL_r rfl rfl rfl rfl (R_loadA (vs := [_, _, _, _, _, _, _]) rfl (known_L (k := 0) rfl) rfl rfl rfl rfl) ?_; refine HL_callR rfl rfl rfl (enters_of Tryz.func192 (by kernel_rfl) rfl) (hon false false true false) (fun q hq => Or.inr hq) ?_; refine HLm rfl ?_
        refine HL_case 40 rfl (fun hb30 => ?_) (fun hb30 => ?_) <;> (try simp only [ZZ] at hb30) <;> first | (refine HL_r rfl rfl rfl rfl (R_fieldAddr rfl rfl (by first | (simp only [Nat.zero_add, Nat.reduceAdd, Nat.reduceMul, Nat.zero_mul, Nat.mul_one, Nat.add_zero]; exact rfl) | exact rfl)) ?_) | (refine HL_skip rfl rfl rfl ?_)
        all_goals first
          | (refine HL_r rfl rfl rfl rfl (R_load rfl (known_L (k := 0) rfl) rfl rfl) ?_)
          | (refine HL_skip rfl rfl rfl ?_)
        all_goals first
          | (refine HL_r rfl rfl rfl rfl (R_lenPl rfl hs rfl) ?_)
          | (refine HL_skip rfl rfl rfl ?_)
        all_goals first
          | (refine HL_r rfl rfl rfl rfl (R_fieldAddr rfl rfl (by first | (simp only [Nat.zero_add, Nat.reduceAdd, Nat.reduceMul, Nat.zero_mul, Nat.mul_one, Nat.add_zero]; exact rfl) | exact rfl)) ?_)
          | (refine HL_skip rfl rfl rfl ?_)
        all_goals first
          | (refine HL_r rfl rfl rfl rfl (R_load rfl (known_L (k := 1) rfl) rfl rfl) ?_)
          | (refine HL_skip rfl rfl rfl ?_)
        all_goals first
          | (refine HLp rfl ?_)
          | (refine HL_skip rfl rfl rfl ?_)
        all_goals first
          | (refine HL_r rfl rfl rfl rfl (R_pickT rfl rfl) ?_)
          | (refine HL_r rfl rfl rfl rfl (R_pickF rfl rfl) ?_)
        all_goals refine HLm rfl ?_
        all_goals refine HL_nil ?_
        all_goals (
         refine hK29 _ _ _ _ ?_; clear hK29 K29; refine HC_ret (HQ_blockR (HQ_thenR ?_)); clear hK2 K2; refine HQ_post rfl rfl (.cons (res_tmp rfl) .nil) (fun w1 hs1 => ?_); refine ⟨?_, hs1.keep⟩
         simp_all [resVal]
         all_goals first | done | rfl | omega | (rw [Bool.eq_iff_iff]; simp only [Bool.and_eq_true, Bool.or_eq_true, decide_eq_true_eq, beq_iff_eq]; omega) | (simp only [decide_eq_true_eq, decide_eq_false_iff_not]; omega)
         skip)
      · try exact Bool.noConfusion h28
        try simp only [ZZ] at h28
        refine HC_seq fun K36 hK36 => HC_region ?_; refine HLp rfl (HLm rfl ?_); refine HL_nil (hK36 _ _ _ _ ?_); clear hK36 K36; refine HC_cond rfl (fun h37 => ?_) (fun h37 => ?_)
        · try exact Bool.noConfusion h37
          try simp only [ZZ] at h37
          refine HC_seq fun K38 hK38 => HC_region ?_; refine HL_r rfl rfl rfl rfl (R_loadA (vs := [_, _, _, _, _, _, _]) rfl (known_L (k := 0) rfl) rfl rfl rfl rfl) ?_; refine HL_callR rfl rfl rfl (enters_of Tryz.func192 (by kernel_rfl) rfl) (hon false false true false) (fun q hq => Or.inr hq) ?_; refine HLm rfl ?_; refine HL_nil (hK38 _ _ _ _ ?_); clear hK38 K38; refine HC_ret (HQ_blockR (HQ_thenR ?_)); clear hK2 K2; refine HQ_post rfl rfl (.cons (res_tmp rfl) .nil) (fun w1 hs1 => ?_); refine ⟨?_, hs1.keep⟩
          simp_all [resVal]
        · try exact Bool.noConfusion h37
          try simp only [ZZ] at h37
          refine HC_seq fun K39 hK39 => HC_region ?_; refine HLp rfl (HLm rfl ?_); refine HL_nil (hK39 _ _ _ _ ?_); clear hK39 K39; refine HC_cond rfl (fun h40 => ?_) (fun h40 => ?_)
          · try exact Bool.noConfusion h40
            try simp only [ZZ] at h40
            refine HC_seq fun K41 hK41 => HC_region ?_; refine HL_r rfl rfl rfl rfl (R_loadA (vs := [_, _, _, _, _, _, _]) rfl (known_L (k := 0) rfl) rfl rfl rfl rfl) ?_; refine HL_callR rfl rfl rfl (enters_of Tryz.func192 (by kernel_rfl) rfl) (hon false true false false) (fun q hq => Or.inr hq) ?_; refine HLm rfl ?_
            refine HL_case 56 rfl (fun hb42 => ?_) (fun hb42 => ?_) <;> (try simp only [ZZ] at hb42) <;> first | (refine HL_r rfl rfl rfl rfl (R_fieldAddr rfl rfl (by first | (simp only [Nat.zero_add, Nat.reduceAdd, Nat.reduceMul, Nat.zero_mul, Nat.mul_one, Nat.add_zero]; exact rfl) | exact rfl)) ?_) | (refine HL_skip rfl rfl rfl ?_)
            all_goals first
              | (refine HL_r rfl rfl rfl rfl (R_load rfl (known_L (k := 0) rfl) rfl rfl) ?_)
              | (refine HL_skip rfl rfl rfl ?_)
            all_goals first
              | (refine HL_r rfl rfl rfl rfl (R_lenPl rfl hsb rfl) ?_)
              | (refine HL_skip rfl rfl rfl ?_)
            all_goals first
              | (refine HL_r rfl rfl rfl rfl (R_fieldAddr rfl rfl (by first | (simp only [Nat.zero_add, Nat.reduceAdd, Nat.reduceMul, Nat.zero_mul, Nat.mul_one, Nat.add_zero]; exact rfl) | exact rfl)) ?_)
              | (refine HL_skip rfl rfl rfl ?_)
            all_goals first
              | (refine HL_r rfl rfl rfl rfl (R_load rfl (known_L (k := 1) rfl) rfl rfl) ?_)
              | (refine HL_skip rfl rfl rfl ?_)
            all_goals first
              | (refine HLp rfl ?_)
              | (refine HL_skip rfl rfl rfl ?_)
            all_goals first
              | (refine HL_r rfl rfl rfl rfl (R_pickT rfl rfl) ?_)
              | (refine HL_r rfl rfl rfl rfl (R_pickF rfl rfl) ?_)
            all_goals refine HLm rfl ?_
            all_goals refine HL_nil ?_
            all_goals (
             refine hK41 _ _ _ _ ?_; clear hK41 K41; refine HC_ret (HQ_blockR (HQ_thenR ?_)); clear hK2 K2; refine HQ_post rfl rfl (.cons (res_tmp rfl) .nil) (fun w1 hs1 => ?_); refine ⟨?_, hs1.keep⟩
             simp_all [resVal]
             all_goals first | done | rfl | omega | (rw [Bool.eq_iff_iff]; simp only [Bool.and_eq_true, Bool.or_eq_true, decide_eq_true_eq, beq_iff_eq]; omega) | (simp only [decide_eq_true_eq, decide_eq_false_iff_not]; omega)
             skip)
          · try exact Bool.noConfusion h40
            try simp only [ZZ] at h40
            refine HC_seq fun K48 hK48 => HC_region ?_; refine HLp rfl (HLm rfl ?_); refine HL_nil (hK48 _ _ _ _ ?_); clear hK48 K48; refine HC_cond rfl (fun h49 => ?_) (fun h49 => ?_)
            · try exact Bool.noConfusion h49
              try simp only [ZZ] at h49
              refine HC_seq fun K50 hK50 => HC_region ?_; refine HL_r rfl rfl rfl rfl (R_loadA (vs := [_, _, _, _, _, _, _]) rfl (known_L (k := 0) rfl) rfl rfl rfl rfl) ?_; refine HL_callR rfl rfl rfl (enters_of Tryz.func192 (by kernel_rfl) rfl) (hon false true false false) (fun q hq => Or.inr hq) ?_; refine HLm rfl ?_; refine HL_nil (hK50 _ _ _ _ ?_); clear hK50 K50; refine HC_ret (HQ_blockR (HQ_thenR ?_)); clear hK2 K2; refine HQ_post rfl rfl (.cons (res_tmp rfl) .nil) (fun w1 hs1 => ?_); refine ⟨?_, hs1.keep⟩
              simp_all [resVal]
            · try exact Bool.noConfusion h49
              try simp only [ZZ] at h49
              refine HC_seq fun K51 hK51 => HC_region ?_; refine HLp rfl (HLm rfl ?_); refine HL_nil (hK51 _ _ _ _ ?_); clear hK51 K51; refine HC_cond rfl (fun h52 => ?_) (fun h52 => ?_)
              · try exact Bool.noConfusion h52
                try simp only [ZZ] at h52
                refine HC_seq fun K53 hK53 => HC_region ?_; refine HL_r rfl rfl rfl rfl (R_loadA (vs := [_, _, _, _, _, _, _]) rfl (known_L (k := 0) rfl) rfl rfl rfl rfl) ?_; refine HL_callR rfl rfl rfl (enters_of Tryz.func192 (by kernel_rfl) rfl) (hon false false true false) (fun q hq => Or.inr hq) ?_; refine HLm rfl ?_
                refine HL_case 72 rfl (fun hb54 => ?_) (fun hb54 => ?_) <;> (try simp only [ZZ] at hb54) <;> first | (refine HL_r rfl rfl rfl rfl (R_fieldAddr rfl rfl (by first | (simp only [Nat.zero_add, Nat.reduceAdd, Nat.reduceMul, Nat.zero_mul, Nat.mul_one, Nat.add_zero]; exact rfl) | exact rfl)) ?_) | (refine HL_skip rfl rfl rfl ?_)
                all_goals first
                  | (refine HL_r rfl rfl rfl rfl (R_load rfl (known_L (k := 0) rfl) rfl rfl) ?_)
                  | (refine HL_skip rfl rfl rfl ?_)
                all_goals first
                  | (refine HL_r rfl rfl rfl rfl (R_lenPl rfl hs rfl) ?_)
                  | (refine HL_skip rfl rfl rfl ?_)
                all_goals first
                  | (refine HL_r rfl rfl rfl rfl (R_fieldAddr rfl rfl (by first | (simp only [Nat.zero_add, Nat.reduceAdd, Nat.reduceMul, Nat.zero_mul, Nat.mul_one, Nat.add_zero]; exact rfl) | exact rfl)) ?_)
                  | (refine HL_skip rfl rfl rfl ?_)
                all_goals first
                  | (refine HL_r rfl rfl rfl rfl (R_load rfl (known_L (k := 1) rfl) rfl rfl) ?_)
                  | (refine HL_skip rfl rfl rfl ?_)
                all_goals first
                  | (refine HL_r rfl rfl rfl rfl (R_lenPl rfl hst rfl) ?_)
                  | (refine HL_skip rfl rfl rfl ?_)
                all_goals first
                  | (refine HLp rfl ?_)
                  | (refine HL_skip rfl rfl rfl ?_)
                all_goals first
                  | (refine HL_r rfl rfl rfl rfl (R_pickT rfl rfl) ?_)
                  | (refine HL_r rfl rfl rfl rfl (R_pickF rfl rfl) ?_)
                all_goals refine HLm rfl ?_
                all_goals refine HL_nil ?_
                all_goals (
                 refine hK53 _ _ _ _ ?_; clear hK53 K53; refine HC_ret (HQ_blockR (HQ_thenR ?_)); clear hK2 K2; refine HQ_post rfl rfl (.cons (res_tmp rfl) .nil) (fun w1 hs1 => ?_); refine ⟨?_, hs1.keep⟩
                 simp_all [resVal]
                 all_goals first | done | rfl | omega | (rw [Bool.eq_iff_iff]; simp only [Bool.and_eq_true, Bool.or_eq_true, decide_eq_true_eq, beq_iff_eq]; omega) | (simp only [decide_eq_true_eq, decide_eq_false_iff_not]; omega)
                 skip)
              · try exact Bool.noConfusion h52
                try simp only [ZZ] at h52
                refine HC_skip (HQ_blockN (hK2 _ _ _ _ ?_)); clear hK2 K2; refine HC_seq fun K61 hK61 => HC_region ?_; refine HL_r rfl rfl rfl rfl (R_loadA (vs := [_, _, _, _, _, _, _]) rfl (known_L (k := 0) rfl) rfl rfl rfl rfl) ?_; refine HL_callR rfl rfl rfl (enters_of Tryz.func192 (by kernel_rfl) rfl) (hon false false true true) (fun q hq => Or.inr hq) ?_; refine HLm rfl ?_
                refine HL_case 83 rfl (fun hb62 => ?_) (fun hb62 => ?_) <;> (try simp only [ZZ] at hb62) <;> first | (refine HL_r rfl rfl rfl rfl (R_fieldAddr rfl rfl (by first | (simp only [Nat.zero_add, Nat.reduceAdd, Nat.reduceMul, Nat.zero_mul, Nat.mul_one, Nat.add_zero]; exact rfl) | exact rfl)) ?_) | (refine HL_skip rfl rfl rfl ?_)
                all_goals first
                  | (refine HL_r rfl rfl rfl rfl (R_load rfl (known_L (k := 0) rfl) rfl rfl) ?_)
                  | (refine HL_skip rfl rfl rfl ?_)
                all_goals first
                  | (refine HL_r rfl rfl rfl rfl (R_lenPl rfl hs rfl) ?_)
                  | (refine HL_skip rfl rfl rfl ?_)
                all_goals first
                  | (refine HLp rfl ?_)
                  | (refine HL_skip rfl rfl rfl ?_)
                all_goals first
                  | (refine HL_r rfl rfl rfl rfl (R_pickT rfl rfl) ?_)
                  | (refine HL_r rfl rfl rfl rfl (R_pickF rfl rfl) ?_)
                all_goals refine HLm rfl ?_
                all_goals first
                  | (refine HL_skip rfl rfl rfl ?_)
                  | (refine HL_case 89 rfl (fun hb66 => ?_) (fun hb66 => ?_) <;> (try simp only [ZZ] at hb66) <;> first | (refine HL_r rfl rfl rfl rfl (R_fieldAddr rfl rfl (by first | (simp only [Nat.zero_add, Nat.reduceAdd, Nat.reduceMul, Nat.zero_mul, Nat.mul_one, Nat.add_zero]; exact rfl) | exact rfl)) ?_) | (refine HL_skip rfl rfl rfl ?_))
                all_goals first
                  | (refine HL_r rfl rfl rfl rfl (R_load rfl (known_L (k := 0) rfl) rfl rfl) ?_)
                  | (refine HL_skip rfl rfl rfl ?_)
                all_goals first
                  | (refine HLp rfl ?_)
                  | (refine HL_skip rfl rfl rfl ?_)
                all_goals first
                  | (refine HL_r rfl rfl rfl rfl (R_pickT rfl rfl) ?_)
                  | (refine HL_r rfl rfl rfl rfl (R_pickF rfl rfl) ?_)
                all_goals refine HLm rfl ?_
                all_goals first
                  | (refine HL_skip rfl rfl rfl ?_)
                  | (refine HL_case 94 rfl (fun hb69 => ?_) (fun hb69 => ?_) <;> (try simp only [ZZ] at hb69) <;> first | (refine HL_r rfl rfl rfl rfl (R_fieldAddr rfl rfl (by first | (simp only [Nat.zero_add, Nat.reduceAdd, Nat.reduceMul, Nat.zero_mul, Nat.mul_one, Nat.add_zero]; exact rfl) | exact rfl)) ?_) | (refine HL_skip rfl rfl rfl ?_))
                all_goals first
                  | (refine HL_r rfl rfl rfl rfl (R_load rfl (known_L (k := 0) rfl) rfl rfl) ?_)
                  | (refine HL_skip rfl rfl rfl ?_)
                all_goals first
                  | (refine HL_r rfl rfl rfl rfl (R_fieldAddr rfl rfl (by first | (simp only [Nat.zero_add, Nat.reduceAdd, Nat.reduceMul, Nat.zero_mul, Nat.mul_one, Nat.add_zero]; exact rfl) | exact rfl)) ?_)
                  | (refine HL_skip rfl rfl rfl ?_)
                all_goals first
                  | (refine HL_r rfl rfl rfl rfl (R_load rfl (known_L (k := 1) rfl) rfl rfl) ?_)
                  | (refine HL_skip rfl rfl rfl ?_)
                all_goals first
                  | (refine HL_r rfl rfl rfl rfl (R_lenPl rfl hst rfl) ?_)
                  | (refine HL_skip rfl rfl rfl ?_)
                all_goals first
                  | (refine HLp rfl ?_)
                  | (refine HL_skip rfl rfl rfl ?_)
                all_goals first
                  | (refine HL_r rfl rfl rfl rfl (R_pickT rfl rfl) ?_)
                  | (refine HL_r rfl rfl rfl rfl (R_pickF rfl rfl) ?_)
                all_goals refine HLm rfl ?_
                all_goals refine HL_nil ?_
                all_goals (
                 refine hK61 _ _ _ _ ?_; clear hK61 K61; refine HC_ret ?_; refine HQ_post rfl rfl (.cons (res_tmp rfl) .nil) (fun w1 hs1 => ?_); refine ⟨?_, hs1.keep⟩
                 simp_all [resVal]
                 all_goals first | done | rfl | omega | (rw [Bool.eq_iff_iff]; simp only [Bool.and_eq_true, Bool.or_eq_true, decide_eq_true_eq, beq_iff_eq]; omega) | (simp only [decide_eq_true_eq, decide_eq_false_iff_not]; omega)
                 skip)
set_option maxRecDepth 10000 in
theorem S_ref_In {R : List (Nat × Obj)} {k n : Int} {p : Pl} {ins : List Ty} {v : Vl} {i : Nat} {y : Ty} (ht : Ty.In R (.mk k n p ins)) (hv : v.In R) (hi8 : k = 8 → 0 ≤ v.pick) (hy : ins[inX k v.pick i]? = some y) : PureR Tryz.prog 77 [Ty.val (.mk k n p ins), v.val, .int .i64 (i : Int)].toArray y.val R := by
  cases ht with
  | mk hk hn hlt hst hit =>
  cases hv with
  | @mk a b c d bits pb items pi pick ha hb hc hd hlb hsb hl hs hp hi =>
  have hlt2 := (List.getElem?_eq_some_iff.1 hy).1
  change ins[if k = 7 then i else if k = 8 then pick.toNat else 0]? = some y at hy; change (if k = 7 then i else if k = 8 then pick.toNat else 0) < ins.length at hlt2; change k = 8 → 0 ≤ pick at hi8
  obtain ⟨yk, yn, yp, yi⟩ := y
  refine pureR_of_HC Tryz.func77 rfl rfl fun w => ?_; refine HC_seq fun K1 hK1 => HC_region ?_; refine HL_box (cs := #[_, _, _]) rfl rfl rfl rfl fun r1 => ?_; refine HL_box (cs := #[_, _, _, _, _, _, _]) rfl rfl rfl rfl fun r2 => ?_; refine HL_alloc (cs := #[_, _, _]) rfl rfl rfl rfl fun r3 => ?_; refine HL_nil (hK1 _ _ _ _ ?_); refine HC_seq fun K2 hK2 => ?_; refine HC_seq fun K3 hK3 => HC_region ?_
  refine HL_r rfl rfl rfl rfl (R_fieldAddr rfl rfl (by first | (simp only [Nat.zero_add, Nat.reduceAdd, Nat.reduceMul, Nat.zero_mul, Nat.mul_one, Nat.add_zero]; exact rfl) | exact rfl)) ?_; refine HL_r rfl rfl rfl rfl (R_load rfl (known_L (k := 2) rfl) rfl rfl) ?_; refine HLp rfl ?_; refine HL_nil (hK3 _ _ _ _ ?_); refine HC_cond rfl (fun h4 => ?_) (fun h4 => ?_)
  · try exact Bool.noConfusion h4
    try simp only [ZZ] at h4
    refine HC_seq fun K5 hK5 => ?_; rw [if_pos (by assumption)] at hy hlt2; refine HC_region ?_
    refine HL_r rfl rfl rfl rfl (R_fieldAddr rfl rfl (by first | (simp only [Nat.zero_add, Nat.reduceAdd, Nat.reduceMul, Nat.zero_mul, Nat.mul_one, Nat.add_zero]; exact rfl) | exact rfl)) ?_; refine HL_r rfl rfl rfl rfl (R_load rfl (known_L (k := 2) rfl) rfl rfl) ?_; refine HLm rfl (HL_r rfl rfl rfl rfl (R_indexPl (j := i) rfl hst rfl rfl rfl rfl (by omega)) (HL_r rfl rfl rfl rfl (R_loadTy (fun q hq => Or.inr hq) rfl hst hy rfl rfl) ?_))
    refine HL_storeA (k := 0) (n := 3) (cs' := #[_, _, _]) (vs := #[_, _, _]) rfl rfl rfl rfl rfl rfl rfl (by exact Nat.le_of_ble_eq_true rfl) rfl (by first | (simp only [List.set_cons_zero, List.set_cons_succ]; exact rfl) | exact rfl) ?_; refine HL_nil (hK5 _ _ _ _ ?_); refine HC_ret (HQ_thenR ?_); refine HQ_post rfl rfl (.cons (res_cellA (vs := [_, _, _]) rfl (known_L (k := 0) rfl) rfl rfl) .nil) (fun w1 hs1 => ?_); exact ⟨rfl, hs1.keep⟩
  · try exact Bool.noConfusion h4
    try simp only [ZZ] at h4
    refine HC_skip (hK2 _ _ _ _ ?_); refine HC_seq fun K6 hK6 => ?_; refine HC_seq fun K7 hK7 => HC_region ?_
    refine HL_r rfl rfl rfl rfl (R_fieldAddr rfl rfl (by first | (simp only [Nat.zero_add, Nat.reduceAdd, Nat.reduceMul, Nat.zero_mul, Nat.mul_one, Nat.add_zero]; exact rfl) | exact rfl)) ?_; refine HL_r rfl rfl rfl rfl (R_load rfl (known_L (k := 2) rfl) rfl rfl) ?_; refine HLp rfl ?_; refine HL_nil (hK7 _ _ _ _ ?_); refine HC_cond rfl (fun h8 => ?_) (fun h8 => ?_)
    · try exact Bool.noConfusion h8
      try simp only [ZZ] at h8
      refine HC_seq fun K9 hK9 => ?_; rw [if_neg (by assumption), if_pos (by assumption)] at hy hlt2
      have hi9 := hi8 (by assumption)
      refine HC_region ?_
      refine HL_r rfl rfl rfl rfl (R_fieldAddr rfl rfl (by first | (simp only [Nat.zero_add, Nat.reduceAdd, Nat.reduceMul, Nat.zero_mul, Nat.mul_one, Nat.add_zero]; exact rfl) | exact rfl)) ?_; refine HL_r rfl rfl rfl rfl (R_load rfl (known_L (k := 2) rfl) rfl rfl) ?_
      refine HL_r rfl rfl rfl rfl (R_fieldAddr rfl rfl (by first | (simp only [Nat.zero_add, Nat.reduceAdd, Nat.reduceMul, Nat.zero_mul, Nat.mul_one, Nat.add_zero]; exact rfl) | exact rfl)) ?_; refine HL_r rfl rfl rfl rfl (R_load rfl (known_L (k := 1) rfl) rfl rfl) ?_; refine HL_r rfl rfl rfl rfl (R_indexPl (j := pick.toNat) rfl hst rfl rfl rfl (by omega) (by omega)) ?_; refine HL_r rfl rfl rfl rfl (R_loadTy (fun q hq => Or.inr hq) rfl hst hy rfl rfl) ?_
      refine HL_storeA (k := 0) (n := 3) (cs' := #[_, _, _]) (vs := #[_, _, _]) rfl rfl rfl rfl rfl rfl rfl (by exact Nat.le_of_ble_eq_true rfl) rfl (by first | (simp only [List.set_cons_zero, List.set_cons_succ]; exact rfl) | exact rfl) ?_; refine HL_nil (hK9 _ _ _ _ ?_); refine HC_ret (HQ_thenR ?_); refine HQ_post rfl rfl (.cons (res_cellA (vs := [_, _, _]) rfl (known_L (k := 0) rfl) rfl rfl) .nil) (fun w1 hs1 => ?_); exact ⟨rfl, hs1.keep⟩
    · try exact Bool.noConfusion h8
      try simp only [ZZ] at h8
      refine HC_skip (hK6 _ _ _ _ ?_); refine HC_seq fun K10 hK10 => ?_; rw [if_neg (by assumption), if_neg (by assumption)] at hy hlt2; refine HC_region ?_
      refine HL_r rfl rfl rfl rfl (R_fieldAddr rfl rfl (by first | (simp only [Nat.zero_add, Nat.reduceAdd, Nat.reduceMul, Nat.zero_mul, Nat.mul_one, Nat.add_zero]; exact rfl) | exact rfl)) ?_; refine HL_r rfl rfl rfl rfl (R_load rfl (known_L (k := 2) rfl) rfl rfl) ?_; refine HL_r rfl rfl rfl rfl (R_indexPl (j := 0) rfl hst rfl rfl rfl rfl (by omega)) ?_; refine HL_r rfl rfl rfl rfl (R_loadTy (fun q hq => Or.inr hq) rfl hst hy rfl rfl) ?_
      refine HL_storeA (k := 0) (n := 3) (cs' := #[_, _, _]) (vs := #[_, _, _]) rfl rfl rfl rfl rfl rfl rfl (by exact Nat.le_of_ble_eq_true rfl) rfl (by first | (simp only [List.set_cons_zero, List.set_cons_succ]; exact rfl) | exact rfl) ?_; refine HL_nil (hK10 _ _ _ _ ?_); refine HC_ret ?_; refine HQ_post rfl rfl (.cons (res_cellA (vs := [_, _, _]) rfl (known_L (k := 0) rfl) rfl rfl) .nil) (fun w1 hs1 => ?_); exact ⟨rfl, hs1.keep⟩
theorem ofT_8 {n : Int} {m : Nat} {v : Vl} (h : ofT 8 n m v = true) : 0 ≤ v.pick := by
  unfold ofT at h
  simp at h; omega
set_option maxRecDepth 10000 in
theorem S_ref_fits {R : List (Nat × Obj)} {v : Vl} (hv : v.In R) : ∀ (t : Ty) (dp : Int), t.In R → chk t dp = 0 → PureR Tryz.prog 73 [t.val, v.val].toArray (.int .i64 (fitT v t)) R := by
  have hv0 := hv
  induction hv with
  | @mk a b c d bits pb items pi pick ha hb hc hd hlb hsb hl hs hp hi ih =>
  intro t dp ht hck
  have ht0 := ht
  cases ht with
  | @mk k n p ins hk hn hlt hst hit =>
  have hof := S_ref_of ht0 hv0
  have hin := fun i y => S_ref_In (i := i) (y := y) ht0 hv0
  refine pureR_of_HC Tryz.func73 rfl rfl fun w => ?_; refine HC_seq fun K1 hK1 => HC_region ?_; refine HL_box (cs := #[_, _, _]) rfl rfl rfl rfl fun r1 => ?_; refine HL_box (cs := #[_, _, _, _, _, _, _]) rfl rfl rfl rfl fun r2 => ?_; refine HLm rfl ?_; refine HL_nil (hK1 _ _ _ _ ?_); clear hK1 K1; refine HC_seq fun K2 hK2 => ?_; refine HC_seq fun K3 hK3 => HC_region ?_
  refine HL_r rfl rfl rfl rfl (R_fieldAddr rfl rfl (by first | (simp only [Nat.zero_add, Nat.reduceAdd, Nat.reduceMul, Nat.zero_mul, Nat.mul_one, Nat.add_zero]; exact rfl) | exact rfl)) ?_; refine HL_r rfl rfl rfl rfl (R_load rfl (known_L (k := 1) rfl) rfl rfl) ?_; refine HLp rfl (HLm rfl ?_)
  refine HL_case 11 rfl (fun hb4 => ?_) (fun hb4 => ?_) <;> (try simp only [ZZ] at hb4) <;> first | (refine HL_r rfl rfl rfl rfl (R_fieldAddr rfl rfl (by first | (simp only [Nat.zero_add, Nat.reduceAdd, Nat.reduceMul, Nat.zero_mul, Nat.mul_one, Nat.add_zero]; exact rfl) | exact rfl)) ?_) | (refine HL_skip rfl rfl rfl ?_)
  all_goals first
    | (refine HL_r rfl rfl rfl rfl (R_load rfl (known_L (k := 0) rfl) rfl rfl) ?_)
    | (refine HL_skip rfl rfl rfl ?_)
  all_goals first
    | (refine HL_r rfl rfl rfl rfl (R_lenPl rfl hs rfl) ?_)
    | (refine HL_skip rfl rfl rfl ?_)
  all_goals first
    | (refine HL_r rfl rfl rfl rfl (R_fieldAddr rfl rfl (by first | (simp only [Nat.zero_add, Nat.reduceAdd, Nat.reduceMul, Nat.zero_mul, Nat.mul_one, Nat.add_zero]; exact rfl) | exact rfl)) ?_)
    | (refine HL_skip rfl rfl rfl ?_)
  all_goals first
    | (refine HL_r rfl rfl rfl rfl (R_load rfl (known_L (k := 1) rfl) rfl rfl) ?_)
    | (refine HL_skip rfl rfl rfl ?_)
  all_goals first
    | (refine HLp rfl ?_)
    | (refine HL_skip rfl rfl rfl ?_)
  all_goals first
    | (refine HL_r rfl rfl rfl rfl (R_pickT rfl rfl) ?_)
    | (refine HL_r rfl rfl rfl rfl (R_pickF rfl rfl) ?_)
  all_goals refine HLm rfl ?_
  all_goals first
    | (refine HL_r rfl rfl rfl rfl (R_fieldAddr rfl rfl (by first | (simp only [Nat.zero_add, Nat.reduceAdd, Nat.reduceMul, Nat.zero_mul, Nat.mul_one, Nat.add_zero]; exact rfl) | exact rfl)) ?_)
    | (refine HL_case 19 rfl (fun hb10 => ?_) (fun hb10 => ?_) <;> (try simp only [ZZ] at hb10) <;> first | (refine HL_r rfl rfl rfl rfl (R_fieldAddr rfl rfl (by first | (simp only [Nat.zero_add, Nat.reduceAdd, Nat.reduceMul, Nat.zero_mul, Nat.mul_one, Nat.add_zero]; exact rfl) | exact rfl)) ?_) | (refine HL_skip rfl rfl rfl ?_))
  all_goals first
    | (refine HL_r rfl rfl rfl rfl (R_load rfl (known_L (k := 1) rfl) rfl rfl) ?_)
    | (refine HL_skip rfl rfl rfl ?_)
  all_goals first
    | (refine HLp rfl ?_)
    | (refine HL_skip rfl rfl rfl ?_)
  all_goals first
    | (refine HLm rfl ?_)
    | (refine HL_skip rfl rfl rfl ?_)
  all_goals first
    | (refine HL_skip rfl rfl rfl ?_)
    | (refine HL_case 23 rfl (fun hb14 => ?_) (fun hb14 => ?_) <;> (try simp only [ZZ] at hb14) <;> first | (refine HL_r rfl rfl rfl rfl (R_fieldAddr rfl rfl (by first | (simp only [Nat.zero_add, Nat.reduceAdd, Nat.reduceMul, Nat.zero_mul, Nat.mul_one, Nat.add_zero]; exact rfl) | exact rfl)) ?_) | (refine HL_skip rfl rfl rfl ?_))
  all_goals first
    | (refine HL_r rfl rfl rfl rfl (R_load rfl (known_L (k := 0) rfl) rfl rfl) ?_)
    | (refine HL_skip rfl rfl rfl ?_)
  all_goals first
    | (refine HL_r rfl rfl rfl rfl (R_lenPl rfl hsb rfl) ?_)
    | (refine HL_skip rfl rfl rfl ?_)
  all_goals first
    | (refine HL_r rfl rfl rfl rfl (R_fieldAddr rfl rfl (by first | (simp only [Nat.zero_add, Nat.reduceAdd, Nat.reduceMul, Nat.zero_mul, Nat.mul_one, Nat.add_zero]; exact rfl) | exact rfl)) ?_)
    | (refine HL_skip rfl rfl rfl ?_)
  all_goals first
    | (refine HL_r rfl rfl rfl rfl (R_load rfl (known_L (k := 1) rfl) rfl rfl) ?_)
    | (refine HL_skip rfl rfl rfl ?_)
  all_goals first
    | (refine HLp rfl ?_)
    | (refine HL_skip rfl rfl rfl ?_)
  all_goals first
    | (refine HL_r rfl rfl rfl rfl (R_pickT rfl rfl) ?_)
    | (refine HL_r rfl rfl rfl rfl (R_pickF rfl rfl) ?_)
    | (refine HL_skip rfl rfl rfl ?_)
  all_goals first
    | (refine HL_r rfl rfl rfl rfl (R_pickT rfl rfl) ?_)
    | (refine HL_r rfl rfl rfl rfl (R_pickF rfl rfl) ?_)
  all_goals refine HL_nil ?_
  all_goals (
   refine hK3 _ _ _ _ ?_; clear hK3 K3; refine HC_cond rfl (fun h21 => ?_) (fun h21 => ?_)
   · try exact Bool.noConfusion h21
     all_goals try simp only [ZZ] at h21
     all_goals (
      refine HC_seq fun K22 hK22 => HC_region ?_; refine HLm rfl ?_; refine HL_nil (hK22 _ _ _ _ ?_); clear hK22 K22; refine HC_ret (HQ_thenR ?_); clear hK2 K2; refine HQ_post rfl rfl (.cons (res_tmp rfl) .nil) (fun w1 hs1 => ?_); refine ⟨?_, hs1.keep⟩; rw [fitT, if_pos (by omega)]; rfl
      skip)
   · try exact Bool.noConfusion h21
     all_goals try simp only [ZZ] at h21
     all_goals (
      refine HC_skip (hK2 _ _ _ _ ?_); clear hK2 K2; refine HC_seq fun K23 hK23 => HC_region ?_; refine HL_r rfl rfl rfl rfl (R_loadA (vs := [_, _, _]) rfl (known_L (k := 1) rfl) rfl rfl rfl rfl) ?_; refine HL_r rfl rfl rfl rfl (R_loadA (vs := [_, _, _, _, _, _, _]) rfl (known_L (k := 0) rfl) rfl rfl rfl rfl) ?_; refine HL_callR rfl rfl rfl (enters_of Tryz.func126 (by kernel_rfl) rfl) hof (fun q hq => Or.inr hq) ?_; refine HLm rfl ?_; refine HL_nil (hK23 _ _ _ _ ?_); clear hK23 K23; refine HC_seq fun K24 hK24 => ?_; refine HC_seq fun K25 hK25 => HC_region ?_; refine HLm rfl (HLp rfl ?_); refine HL_nil (hK25 _ _ _ _ ?_); clear hK25 K25; refine HC_cond rfl (fun h26 => ?_) (fun h26 => ?_)
      · try exact Bool.noConfusion h26
        try simp only [ZZ] at h26
        refine HC_seq fun K27 hK27 => HC_region ?_; refine HLm rfl ?_; refine HL_nil (hK27 _ _ _ _ ?_); clear hK27 K27; refine HC_ret (HQ_thenR ?_); clear hK24 K24; refine HQ_post rfl rfl (.cons (res_tmp rfl) .nil) (fun w1 hs1 => ?_); refine ⟨?_, hs1.keep⟩; rw [fitT, if_neg (by omega), if_pos (by assumption)]; rfl
      · try exact Bool.noConfusion h26
        try simp only [ZZ] at h26
        refine HC_skip (hK24 _ _ _ _ ?_); clear hK24 K24; refine HC_seq fun K28 hK28 => ?_; refine HC_seq fun K29 hK29 => HC_region ?_; refine HLm rfl ?_; refine HL_nil (hK29 _ _ _ _ ?_); clear hK29 K29; refine HC_block (HC_loop (σ := Nat) (fun i => i ≤ items.length ∧ fitL (items.drop i) k pick ins i = fitL items k pick ins 0) (fun i => [(2, .pointer (some ⟨r1, 0, none⟩)), (3, .pointer (some ⟨r2, 0, none⟩)), (6, .int .i64 (i : Int))]) (fun _ => [(r2, .cells #[uV a, uV b, uV c, uV d, plV bits.length pb, plV items.length pi, .int .i64 pick] 31 (0, 0)), (r1, .cells #[.int .i64 k, .int .i64 n, plV ins.length p] 24 (0, 0))]) (fun _ _ _ => True) (fun i => items.length - i) 0 ⟨by omega, rfl⟩ (.cons rfl (.cons rfl (.cons rfl .nil))) (List.Sublist.refl _) (fun _ _ h => h) ?_); rintro i ⟨hi1, hinv⟩; refine HC_seq fun K30 hK30 => ?_; refine HC_seq fun K31 hK31 => HC_region ?_; refine HLm rfl ?_
        refine HL_r rfl rfl rfl rfl (R_fieldAddr rfl rfl (by first | (simp only [Nat.zero_add, Nat.reduceAdd, Nat.reduceMul, Nat.zero_mul, Nat.mul_one, Nat.add_zero]; exact rfl) | exact rfl)) ?_; refine HL_r rfl rfl rfl rfl (R_load rfl (known_L (k := 0) rfl) rfl rfl) ?_; refine HL_r rfl rfl rfl rfl (R_lenPl rfl hs rfl) ?_; refine HLp rfl ?_; refine HL_nil (hK31 _ _ _ _ ?_); clear hK31 K31; refine HC_cond rfl (fun h32 => ?_) (fun h32 => ?_)
        · try exact Bool.noConfusion h32
          try simp only [ZZ] at h32
          refine HC_skip (hK30 _ _ _ _ ?_); clear hK30 K30; refine HC_seq fun K33 hK33 => HC_block ?_; refine HC_seq fun K34 hK34 => ?_
          obtain ⟨x, hx, hmx⟩ := getI (show i < items.length by omega)
          have hii : i < items.length := by omega
          have hy := inTy_get (inX_lt (v := .mk a b c d bits pb items pi pick) (i := i) hck (by assumption) hii)
          rw [dropI hx, fitL] at hinv; refine HC_draw 11 (by kernel_rfl) (by kernel_rfl) ?_; refine HD_r rfl rfl rfl (R_loadA (vs := [_, _, _]) rfl (known_L (k := 1) rfl) rfl rfl rfl rfl) ?_; refine HD_r rfl rfl rfl (R_loadA (vs := [_, _, _, _, _, _, _]) rfl (known_L (k := 0) rfl) rfl rfl rfl rfl) ?_; refine HD_r rfl rfl rfl (R_move rfl) ?_; refine HD_callR rfl rfl rfl (enters_of Tryz.func77 (by kernel_rfl) rfl) (hin i _ (fun h => by subst h; exact ofT_8 (by assumption)) hy.1) (fun q hq => Or.inr hq) ?_
          refine HD_r rfl rfl rfl (R_fieldAddr rfl rfl (by first | (simp only [Nat.zero_add, Nat.reduceAdd, Nat.reduceMul, Nat.zero_mul, Nat.mul_one, Nat.add_zero]; exact rfl) | exact rfl)) ?_; refine HD_r rfl rfl rfl (R_load rfl (known_L (k := 0) rfl) rfl rfl) ?_; refine HD_r rfl rfl rfl (R_move rfl) ?_; refine HD_r rfl rfl rfl (R_indexPl (j := i) rfl hs rfl rfl rfl rfl (by omega)) ?_; refine HD_r rfl rfl rfl (R_loadVl (fun q hq => Or.inr hq) rfl hs hx rfl rfl) ?_; refine HD_callR rfl rfl rfl (enters_of Tryz.func73 (by kernel_rfl) rfl) (ih x hmx (hi x hmx) _ (dp + 1) (hit _ hy.2) ((chk_mk hck).2.2.2 _ hy.2)) (fun q hq => Or.inr hq) ?_; refine HD_r rfl rfl rfl (R_assign rfl) ?_; refine HD_end ?_; refine HL_nil (hK34 _ _ _ _ ?_); clear hK34 K34; refine HC_seq fun K35 hK35 => HC_region ?_; refine HLm rfl (HLp rfl ?_); refine HL_nil (hK35 _ _ _ _ ?_); clear hK35 K35; refine HC_cond rfl (fun h36 => ?_) (fun h36 => ?_)
          · try exact Bool.noConfusion h36
            try simp only [ZZ] at h36
            refine HC_seq fun K37 hK37 => HC_region ?_; refine HLm rfl (HLm rfl ?_); refine HL_nil (hK37 _ _ _ _ ?_); clear hK37 K37; refine HC_ret (HQ_blockR (HQ_thenR ?_)); clear hK33 K33; refine HQ_thenR (HQ_blockR (HQ_thenR ?_)); clear hK28 K28; refine HQ_post rfl rfl (.cons (res_tmp rfl) .nil) (fun w1 hs1 => ?_); refine ⟨?_, hs1.keep⟩; rw [fitT, if_neg (by omega), if_neg (by simp_all), ← hinv, if_neg (by assumption)]; rfl
          · try exact Bool.noConfusion h36
            try simp only [ZZ] at h36
            refine HC_skip (HQ_blockN (hK33 _ _ _ _ ?_)); clear hK33 K33; refine HC_region (HLm rfl ?_); refine HLp rfl (HL_wrap_i64 (by omega) (by omega) ?_); refine HLm rfl (HL_nil (HQ_then ?_)); exact HQ_again (i + 1) ⟨by omega, by rw [if_pos (by assumption)] at hinv; exact hinv⟩ (by omega) (.cons rfl (.cons rfl (.cons rfl .nil))) (List.Sublist.refl _) (fun _ _ h => h)
        · try exact Bool.noConfusion h32
          try simp only [ZZ] at h32
          refine HC_exit (HQ_thenE ?_); clear hK30 K30; refine HQ_thenE (HQ_blockE (hK28 _ _ _ _ ?_)); clear hK28 K28; refine HC_seq fun K38 hK38 => HC_region ?_; refine HLm rfl ?_; refine HL_nil (hK38 _ _ _ _ ?_); clear hK38 K38; refine HC_ret ?_; refine HQ_post rfl rfl (.cons (res_tmp rfl) .nil) (fun w1 hs1 => ?_); refine ⟨?_, hs1.keep⟩; rw [fitT, if_neg (by omega), if_neg (by simp_all), ← hinv, List.drop_of_length_le (by omega), fitL]; rfl
      skip)
   skip)
def fitsT (t : Ty) (v : Vl) : Int := if chk t 0 = 0 then fitT v t else chk t 0
set_option maxRecDepth 10000 in
theorem S_ref_Fits {R : List (Nat × Obj)} {t : Ty} {v : Vl} (ht : t.In R) (hv : v.In R) : PureR Tryz.prog 38 [t.val, v.val].toArray (.int .i64 (fitsT t v)) R := by
  have h1 := S_ref_Check ht
  have h2 := S_ref_fits hv t 0 ht
  obtain ⟨k, n, p, ins⟩ := t
  obtain ⟨a, b, c, d, bits, pb, items, pi, pick⟩ := v
  refine pureR_of_HC Tryz.func38 rfl rfl fun w => ?_; refine HC_seq fun K1 hK1 => HC_region ?_; refine HL_box (cs := #[_, _, _]) rfl rfl rfl rfl fun r1 => ?_; refine HL_box (cs := #[_, _, _, _, _, _, _]) rfl rfl rfl rfl fun r2 => ?_; refine HLm rfl ?_; refine HL_nil (hK1 _ _ _ _ ?_); refine HC_seq fun K2 hK2 => HC_region ?_; refine HL_r rfl rfl rfl rfl (R_loadA (vs := [_, _, _]) rfl (known_L (k := 1) rfl) rfl rfl rfl rfl) ?_; refine HL_callR rfl rfl rfl (enters_of Tryz.func44 (by kernel_rfl) rfl) h1 (fun q hq => Or.inr hq) ?_; refine HLm rfl ?_; refine HL_nil (hK2 _ _ _ _ ?_); refine HC_seq fun K3 hK3 => ?_; refine HC_seq fun K4 hK4 => HC_region ?_; refine HLm rfl (HLp rfl ?_); refine HL_nil (hK4 _ _ _ _ ?_); refine HC_cond rfl (fun h5 => ?_) (fun h5 => ?_)
  · try exact Bool.noConfusion h5
    try simp only [ZZ] at h5
    refine HC_seq fun K6 hK6 => HC_region ?_; refine HLm rfl (HLm rfl ?_); refine HL_nil (hK6 _ _ _ _ ?_); refine HC_ret (HQ_thenR ?_); refine HQ_post rfl rfl (.cons (res_tmp rfl) .nil) (fun w1 hs1 => ?_); refine ⟨?_, hs1.keep⟩; rw [fitsT, if_neg (by assumption)]; rfl
  · try exact Bool.noConfusion h5
    try simp only [ZZ] at h5
    refine HC_skip (hK3 _ _ _ _ ?_); refine HC_seq fun K7 hK7 => HC_region ?_; refine HL_r rfl rfl rfl rfl (R_loadA (vs := [_, _, _]) rfl (known_L (k := 1) rfl) rfl rfl rfl rfl) ?_; refine HL_r rfl rfl rfl rfl (R_loadA (vs := [_, _, _, _, _, _, _]) rfl (known_L (k := 0) rfl) rfl rfl rfl rfl) ?_; refine HL_callR rfl rfl rfl (enters_of Tryz.func73 (by kernel_rfl) rfl) (h2 (by assumption)) (fun q hq => Or.inr hq) ?_; refine HLm rfl ?_; refine HL_nil (hK7 _ _ _ _ ?_); refine HC_ret ?_; refine HQ_post rfl rfl (.cons (res_tmp rfl) .nil) (fun w1 hs1 => ?_); refine ⟨?_, hs1.keep⟩; rw [fitsT, if_pos (by assumption)]; rfl
end Go.Proofs.YtlcbfphioeppaaaGreatDoor
namespace Go.Proofs.YtlcbfphioeppaaaGreatDoor
set_option linter.all false
open Go.SL Go.RowKit Go.Shelf
set_option maxRecDepth 10000 in
theorem P_Same1 (x y : Bool) : Pure Tryz.prog 47 [.bool x, .bool y].toArray (.bool (x == y)) := by
  refine pure_of_HC Tryz.func47 rfl rfl fun w => ?_; refine HC_seq fun K1 hK1 => HC_region ?_; refine HLm rfl ?_; refine HL_nil (hK1 _ _ _ _ ?_); refine HC_seq fun K2 hK2 => HC_region ?_; refine HLm rfl (HLm rfl ?_); refine HLp rfl (HLm rfl ?_); refine HL_nil (hK2 _ _ _ _ ?_); refine HC_ret ?_; refine HQ_post rfl rfl (.cons (res_tmp rfl) .nil) (fun w1 hs1 => ?_); exact ⟨rfl, hs1.keep⟩
def fV (f : FuncId) : Value := .func (.func f) #[] #[]
set_option maxRecDepth 10000 in
theorem S_eqBits {R : List (Nat × Obj)} {bits bits' : List Bool} {p p' : Pl} (hl : bits.length ≤ 9223372036854775807) (hl' : bits'.length ≤ 9223372036854775807) (hs : Seg R bits.length (bitsC bits) p) (hs' : Seg R bits'.length (bitsC bits') p') :
    PureR Tryz.prog 93 [plV bits.length p, plV bits'.length p', fV 47].toArray (.bool (decide (bits = bits'))) R := by
  refine pureR_of_HC Tryz.func93 rfl rfl fun w => ?_; refine HC_seq fun K1 hK1 => HC_region ?_; refine HLm rfl ?_; refine HL_nil (hK1 _ _ _ _ ?_); clear hK1 K1; refine HC_seq fun K2 hK2 => ?_; refine HC_seq fun K3 hK3 => HC_region ?_; refine HLm rfl (HL_r rfl rfl rfl rfl (R_lenPl rfl hs rfl) ?_); refine HLm rfl (HL_r rfl rfl rfl rfl (R_lenPl rfl hs' rfl) (HLp rfl ?_)); refine HL_nil (hK3 _ _ _ _ ?_); clear hK3 K3; refine HC_cond rfl (fun h4 => ?_) (fun h4 => ?_)
  · try exact Bool.noConfusion h4
    try simp only [ZZ] at h4
    refine HC_seq fun K5 hK5 => HC_region ?_; refine HLm rfl ?_; refine HL_nil (hK5 _ _ _ _ ?_); clear hK5 K5; refine HC_ret (HQ_thenR ?_); clear hK2 K2; refine HQ_post rfl rfl (.cons (res_tmp rfl) .nil) (fun w1 hs1 => ?_); refine ⟨?_, hs1.keep⟩
    (have hse : bits ≠ bits' := fun e => by subst e; omega
     simp [resVal, hse]; done)
  · try exact Bool.noConfusion h4
    try simp only [ZZ] at h4
    refine HC_skip (hK2 _ _ _ _ ?_); clear hK2 K2; refine HC_seq fun K6 hK6 => ?_; refine HC_seq fun K7 hK7 => HC_region ?_; refine HLm rfl (HL_r rfl rfl rfl rfl (R_lenPl rfl hs rfl) (HLm rfl ?_)); refine HL_nil (hK7 _ _ _ _ ?_); clear hK7 K7; refine HC_block ?_
    have hlb2 : bits.length = bits'.length := by omega
    refine HC_loop (σ := Nat) (fun i => i ≤ bits.length ∧ ∀ j, j < i → bits[j]? = bits'[j]?) (fun i => [(1, plV bits'.length p'), (2, fV 47), (15, plV bits.length p), (16, .int .i64 (bits.length : Int)), (17, .int .i64 (i : Int))]) (fun _ => []) (fun _ _ _ => True) (fun i => bits.length - i) 0 ⟨by omega, fun j hj => absurd hj (by omega)⟩ (.cons rfl (.cons rfl (.cons rfl (.cons rfl (.cons rfl .nil))))) (List.nil_sublist _) (fun _ _ h => h) ?_; rintro i ⟨hi1, hinv⟩; refine HC_seq fun K8 hK8 => HC_region ?_; refine HLp rfl ?_; refine HL_nil (hK8 _ _ _ _ ?_); clear hK8 K8; refine HC_seq fun K9 hK9 => ?_; refine HC_cond rfl (fun h10 => ?_) (fun h10 => ?_)
    · try exact Bool.noConfusion h10
      try simp only [ZZ] at h10
      refine HC_skip (hK9 _ _ _ _ ?_); clear hK9 K9; refine HC_seq fun K11 hK11 => HC_block ?_; refine HC_seq fun K12 hK12 => ?_
      obtain ⟨x, hx, hmx⟩ := getI (show i < bits.length by omega)
      obtain ⟨y, hy, hmy⟩ := getI (show i < bits'.length by omega)
      refine HC_region (HLm rfl (HL_r rfl rfl rfl rfl (R_indexPl (j := i) rfl hs rfl rfl rfl rfl (by omega)) ?_)); refine HL_r rfl rfl rfl rfl (R_loadBit (fun q hq => Or.inr hq) rfl hs hx rfl) ?_; refine HLm rfl (HLm rfl ?_); refine HL_nil (hK12 _ _ _ _ ?_); clear hK12 K12; refine HC_seq fun K13 hK13 => HC_region ?_; refine HLm rfl (HLm rfl (HL_r rfl rfl rfl rfl (R_indexPl (j := i) rfl hs' rfl rfl rfl rfl (by omega)) ?_)); refine HL_r rfl rfl rfl rfl (R_loadBit (fun q hq => Or.inr hq) rfl hs' hy rfl) ?_; refine HLm rfl ?_; refine HL_nil (hK13 _ _ _ _ ?_); clear hK13 K13; refine HC_seq fun K14 hK14 => HC_region ?_; refine HLm rfl (HLm rfl ?_); refine HLm rfl (HL_callP rfl rfl rfl (enters_of Tryz.func47 (by kernel_rfl) rfl) (P_Same1 x y) (HLp rfl ?_)); refine HL_nil (hK14 _ _ _ _ ?_); clear hK14 K14; refine HC_cond rfl (fun h15 => ?_) (fun h15 => ?_)
      · try exact Bool.noConfusion h15
        try simp only [ZZ] at h15
        refine HC_seq fun K16 hK16 => HC_region ?_; refine HLm rfl ?_; refine HL_nil (hK16 _ _ _ _ ?_); clear hK16 K16; refine HC_ret (HQ_blockR (HQ_thenR ?_)); clear hK11 K11; refine HQ_thenR (HQ_blockR (HQ_thenR ?_)); clear hK6 K6; refine HQ_post rfl rfl (.cons (res_tmp rfl) .nil) (fun w1 hs1 => ?_); refine ⟨?_, hs1.keep⟩
        (have hse : bits ≠ bits' := bits_ne hx hy (by simp_all)
         simp [resVal, hse]; done)
      · try exact Bool.noConfusion h15
        try simp only [ZZ] at h15
        refine HC_skip (HQ_blockN (hK11 _ _ _ _ ?_)); clear hK11 K11; refine HC_region (HLp rfl (HL_wrap_i64 (by omega) (by omega) ?_)); refine HLm rfl (HL_nil (HQ_then ?_))
        exact HQ_again (i + 1) ⟨by omega, fun j hj => by
          rcases Nat.lt_succ_iff_lt_or_eq.1 hj with hj | rfl
          · exact hinv j hj
          · rw [hx, hy]; simp_all⟩ (by omega) (.cons rfl (.cons rfl (.cons rfl (.cons rfl (.cons rfl .nil))))) (List.nil_sublist _) (fun _ _ h => h)
    · try exact Bool.noConfusion h10
      try simp only [ZZ] at h10
      refine HC_exit (HQ_thenE ?_); clear hK9 K9; refine HQ_thenE (HQ_blockE (hK6 _ _ _ _ ?_)); clear hK6 K6; refine HC_seq fun K17 hK17 => HC_region ?_; refine HLm rfl ?_; refine HL_nil (hK17 _ _ _ _ ?_); clear hK17 K17; refine HC_ret ?_; refine HQ_post rfl rfl (.cons (res_tmp rfl) .nil) (fun w1 hs1 => ?_); refine ⟨?_, hs1.keep⟩
      (have hse : bits = bits' := bits_eq hlb2 (by omega) hinv
       simp [resVal, hse]; done)
set_option maxRecDepth 10000 in
theorem S_eqVals {R : List (Nat × Obj)} {items items' : List Vl} {p p' : Pl} {g : FuncId} (eg : Enters Tryz.prog g) (hg : ∀ x ∈ items, ∀ y ∈ items', PureR Tryz.prog g [x.val, y.val].toArray (.bool (sameV x y)) R) (hl : items.length ≤ 9223372036854775807) (hl' : items'.length ≤ 9223372036854775807) (hs : Seg R items.length (vlsC items) p) (hs' : Seg R items'.length (vlsC items') p') :
    PureR Tryz.prog 94 [plV items.length p, plV items'.length p', fV g].toArray (.bool (sameL items items')) R := by
  refine pureR_of_HC Tryz.func94 rfl rfl fun w => ?_; refine HC_seq fun K1 hK1 => HC_region ?_; refine HLm rfl ?_; refine HL_nil (hK1 _ _ _ _ ?_); refine HC_seq fun K2 hK2 => ?_; refine HC_seq fun K3 hK3 => HC_region ?_; refine HLm rfl (HL_r rfl rfl rfl rfl (R_lenPl rfl hs rfl) ?_); refine HLm rfl (HL_r rfl rfl rfl rfl (R_lenPl rfl hs' rfl) (HLp rfl ?_)); refine HL_nil (hK3 _ _ _ _ ?_); refine HC_cond rfl (fun h4 => ?_) (fun h4 => ?_)
  · try exact Bool.noConfusion h4
    try simp only [ZZ] at h4
    refine HC_seq fun K5 hK5 => HC_region ?_; refine HLm rfl ?_; refine HL_nil (hK5 _ _ _ _ ?_); refine HC_ret (HQ_thenR ?_); refine HQ_post rfl rfl (.cons (res_tmp rfl) .nil) (fun w1 hs1 => ?_); refine ⟨?_, hs1.keep⟩
    (have hse : sameL items items' = false := same_ln (by omega)
     simp [resVal, hse]; done)
  · try exact Bool.noConfusion h4
    try simp only [ZZ] at h4
    refine HC_skip (hK2 _ _ _ _ ?_); refine HC_seq fun K6 hK6 => ?_; refine HC_seq fun K7 hK7 => HC_region ?_; refine HLm rfl (HL_r rfl rfl rfl rfl (R_lenPl rfl hs rfl) (HLm rfl ?_)); refine HL_nil (hK7 _ _ _ _ ?_); refine HC_block ?_
    have hl2 : items.length = items'.length := by omega
    refine HC_loop (σ := Nat) (fun i => i ≤ items.length ∧ ∀ q, q < i → ∀ x y, items[q]? = some x → items'[q]? = some y → sameV x y = true) (fun i => [(1, plV items'.length p'), (2, fV g), (15, plV items.length p), (16, .int .i64 (items.length : Int)), (17, .int .i64 (i : Int))]) (fun _ => []) (fun _ _ _ => True) (fun i => items.length - i) 0 ⟨by omega, fun j hj => absurd hj (by omega)⟩ (.cons rfl (.cons rfl (.cons rfl (.cons rfl (.cons rfl .nil))))) (List.nil_sublist _) (fun _ _ h => h) ?_; rintro i ⟨hi1, hinv⟩; refine HC_seq fun K8 hK8 => HC_region ?_; refine HLp rfl ?_; refine HL_nil (hK8 _ _ _ _ ?_); refine HC_seq fun K9 hK9 => ?_; refine HC_cond rfl (fun h10 => ?_) (fun h10 => ?_)
    · try exact Bool.noConfusion h10
      try simp only [ZZ] at h10
      refine HC_skip (hK9 _ _ _ _ ?_); refine HC_seq fun K11 hK11 => HC_block ?_; refine HC_seq fun K12 hK12 => ?_
      obtain ⟨x, hx, hmx⟩ := getI (show i < items.length by omega)
      obtain ⟨y, hy, hmy⟩ := getI (show i < items'.length by omega)
      refine HC_region (HLm rfl (HL_r rfl rfl rfl rfl (R_indexPl (j := i) rfl hs rfl rfl rfl rfl (by omega)) ?_)); refine HL_r rfl rfl rfl rfl (R_loadVl (fun q hq => Or.inr hq) rfl hs hx rfl rfl) ?_; refine HL_alloc (cs := #[_, _, _, _, _, _, _]) rfl rfl rfl rfl fun r1 => ?_; refine HLm rfl (HL_storeArr (k := 0) (n := 7) (ys := x.cells) rfl rfl rfl rfl rfl x.len rfl x.one rfl ?_); refine HL_nil (hK12 _ _ _ _ ?_); refine HC_seq fun K13 hK13 => HC_region ?_; refine HLm rfl (HLm rfl (HL_r rfl rfl rfl rfl (R_indexPl (j := i) rfl hs' rfl rfl rfl rfl (by omega)) ?_)); refine HL_r rfl rfl rfl rfl (R_loadVl (fun q hq => Or.inr hq) rfl hs' hy rfl rfl) ?_; refine HL_alloc (cs := #[_, _, _, _, _, _, _]) rfl rfl rfl rfl fun r2 => ?_; refine HL_storeArr (k := 0) (n := 7) (ys := y.cells) rfl rfl rfl rfl rfl y.len rfl y.one rfl ?_; refine HL_nil (hK13 _ _ _ _ ?_); refine HC_seq fun K14 hK14 => HC_region ?_; refine HLm rfl (HL_r rfl rfl rfl rfl (R_loadArr (xs := x.cells) (n := 7) rfl (known_L (k := 1) rfl) rfl rfl x.len) (HL_r rfl rfl rfl rfl (R_loadArr (xs := y.cells) (n := 7) rfl (known_L (k := 0) rfl) rfl rfl y.len) ?_)); refine HL_callR rfl rfl rfl eg (hg x hmx y hmy) (fun q hq => Or.inr hq) ?_; refine HLp rfl ?_; refine HL_nil (hK14 _ _ _ _ ?_); refine HC_cond rfl (fun h15 => ?_) (fun h15 => ?_)
      · try exact Bool.noConfusion h15
        try simp only [ZZ] at h15
        refine HC_seq fun K16 hK16 => HC_region ?_; refine HLm rfl ?_; refine HL_nil (hK16 _ _ _ _ ?_); refine HC_ret (HQ_blockR (HQ_thenR ?_)); refine HQ_thenR (HQ_blockR (HQ_thenR ?_)); refine HQ_post rfl rfl (.cons (res_tmp rfl) .nil) (fun w1 hs1 => ?_); refine ⟨?_, hs1.keep⟩
        (have hse : sameL items items' = false := same_ne hx hy (by assumption)
         simp [resVal, hse]; done)
      · try exact Bool.noConfusion h15
        try simp only [ZZ] at h15
        refine HC_skip (HQ_blockN (hK11 _ _ _ _ ?_)); refine HC_region (HLp rfl (HL_wrap_i64 (by omega) (by omega) ?_)); refine HLm rfl (HL_nil (HQ_then ?_))
        exact HQ_again (i + 1) ⟨by omega, fun q hq u v hu hv => by
          rcases Nat.lt_succ_iff_lt_or_eq.1 hq with hq | rfl
          · exact hinv q hq u v hu hv
          · rw [hx] at hu; rw [hy] at hv; cases hu; cases hv; assumption⟩ (by omega) (.cons rfl (.cons rfl (.cons rfl (.cons rfl (.cons rfl .nil))))) (List.nil_sublist _) (fun _ _ h => h)
    · try exact Bool.noConfusion h10
      try simp only [ZZ] at h10
      refine HC_exit (HQ_thenE ?_); refine HQ_thenE (HQ_blockE (hK6 _ _ _ _ ?_)); refine HC_seq fun K17 hK17 => HC_region ?_; refine HLm rfl ?_; refine HL_nil (hK17 _ _ _ _ ?_); refine HC_ret ?_; refine HQ_post rfl rfl (.cons (res_tmp rfl) .nil) (fun w1 hs1 => ?_); refine ⟨?_, hs1.keep⟩
      (have hse : sameL items items' = true := sameL_spec.2 ⟨hl2, fun q x y hx hy => hinv q (by have := (List.getElem?_eq_some_iff.1 hx).1; omega) x y hx hy⟩
       simp [resVal, hse]; done)
set_option maxRecDepth 10000 in
theorem S_rowsB {R : List (Nat × Obj)} {v0 v1 v2 v : Value} (h : PureR Tryz.prog 93 [v0, v1, v2].toArray v R) : PureR Tryz.prog 48 [v0, v1, v2].toArray v R := by
  refine pureR_of_HC Tryz.func48 rfl rfl fun w => ?_; refine HC_seq fun K1 hK1 => HC_region ?_; refine HLm rfl ?_; refine HL_nil (hK1 _ _ _ _ ?_); refine HC_seq fun K2 hK2 => HC_region ?_; refine HLm rfl (HLm rfl ?_); refine HLm rfl (HL_callR rfl rfl rfl (enters_of Tryz.func93 (by kernel_rfl) rfl) h (fun q hq => Or.inr hq) (HLm rfl ?_)); refine HL_nil (hK2 _ _ _ _ ?_); refine HC_ret ?_; refine HQ_post rfl rfl (.cons (res_tmp rfl) .nil) (fun w1 hs1 => ?_); exact ⟨rfl, hs1.keep⟩
set_option maxRecDepth 10000 in
theorem S_rowsV {R : List (Nat × Obj)} {v0 v1 v2 v : Value} (h : PureR Tryz.prog 94 [v0, v1, v2].toArray v R) : PureR Tryz.prog 49 [v0, v1, v2].toArray v R := by
  refine pureR_of_HC Tryz.func49 rfl rfl fun w => ?_; refine HC_seq fun K1 hK1 => HC_region ?_; refine HLm rfl ?_; refine HL_nil (hK1 _ _ _ _ ?_); refine HC_seq fun K2 hK2 => HC_region ?_; refine HLm rfl (HLm rfl ?_); refine HLm rfl (HL_callR rfl rfl rfl (enters_of Tryz.func94 (by kernel_rfl) rfl) h (fun q hq => Or.inr hq) (HLm rfl ?_)); refine HL_nil (hK2 _ _ _ _ ?_); refine HC_ret ?_; refine HQ_post rfl rfl (.cons (res_tmp rfl) .nil) (fun w1 hs1 => ?_); exact ⟨rfl, hs1.keep⟩
set_option maxRecDepth 10000 in
theorem S_Same {R : List (Nat × Obj)} {u : Vl} (hu : u.In R) : ∀ v : Vl, v.In R → PureR Tryz.prog 23 [u.val, v.val].toArray (.bool (sameV u v)) R := by
  induction hu with
  | @mk a b c d bits pb items pi pick ha hb hc hd hlb hsb hl hs hp hi ih =>
  intro v hv
  cases hv with
  | @mk a' b' c' d' bits' pb' items' pi' pick' ha' hb' hc' hd' hlb' hsb' hl' hs' hp' hi' =>
  rw [sameV_mk]
  have h1 := S_rowsB (S_eqBits hlb hlb' hsb hsb')
  have h2 := S_rowsV (S_eqVals (enters_of Tryz.func23 (by kernel_rfl) rfl) (fun x hx y hy => ih x hx y (hi' y hy)) hl hl' hs hs')
  refine pureR_of_HC Tryz.func23 rfl rfl fun w => ?_; refine HC_seq fun K1 hK1 => HC_region ?_; refine HL_box (cs := #[_, _, _, _, _, _, _]) rfl rfl rfl rfl fun r1 => ?_; refine HL_box (cs := #[_, _, _, _, _, _, _]) rfl rfl rfl rfl fun r2 => ?_; refine HLm rfl ?_; refine HL_nil (hK1 _ _ _ _ ?_); clear hK1 K1; refine HC_seq fun K2 hK2 => HC_region ?_; refine HLm rfl ?_; refine HL_nil (hK2 _ _ _ _ ?_); clear hK2 K2; refine HC_seq fun K3 hK3 => HC_region ?_
  refine HL_r rfl rfl rfl rfl (R_fieldAddr rfl rfl (by first | (simp only [Nat.zero_add, Nat.reduceAdd, Nat.reduceMul, Nat.zero_mul, Nat.mul_one, Nat.add_zero]; exact rfl) | exact rfl)) ?_; refine HL_r rfl rfl rfl rfl (R_loadA (vs := [_, _, _, _]) rfl (known_L (k := 1) rfl) rfl rfl rfl rfl) ?_
  refine HL_r rfl rfl rfl rfl (R_fieldAddr rfl rfl (by first | (simp only [Nat.zero_add, Nat.reduceAdd, Nat.reduceMul, Nat.zero_mul, Nat.mul_one, Nat.add_zero]; exact rfl) | exact rfl)) ?_; refine HL_r rfl rfl rfl rfl (R_loadA (vs := [_, _, _, _]) rfl (known_L (k := 0) rfl) rfl rfl rfl rfl) ?_; refine HL_r rfl rfl rfl rfl (R_eqArr rfl rfl rfl rfl rfl (by kernel_rfl) rfl rfl rfl rfl) ?_
  first | (refine HL_as (congrArg Value.bool (eq_mapU (a := [a, b, c, d]) (b := [a', b', c', d']) rfl)) ?_) | skip
  refine HLm rfl ?_
  refine HL_case 11 rfl (fun hb4 => ?_) (fun hb4 => ?_) <;> (try simp only [ZZ] at hb4) <;> first | (refine HL_r rfl rfl rfl rfl (R_fieldAddr rfl rfl (by first | (simp only [Nat.zero_add, Nat.reduceAdd, Nat.reduceMul, Nat.zero_mul, Nat.mul_one, Nat.add_zero]; exact rfl) | exact rfl)) ?_) | (refine HL_skip rfl rfl rfl ?_)
  all_goals first
    | (refine HL_r rfl rfl rfl rfl (R_load rfl (known_L (k := 1) rfl) rfl rfl) ?_)
    | (refine HL_skip rfl rfl rfl ?_)
  all_goals first
    | (refine HL_r rfl rfl rfl rfl (R_fieldAddr rfl rfl (by first | (simp only [Nat.zero_add, Nat.reduceAdd, Nat.reduceMul, Nat.zero_mul, Nat.mul_one, Nat.add_zero]; exact rfl) | exact rfl)) ?_)
    | (refine HL_skip rfl rfl rfl ?_)
  all_goals first
    | (refine HL_r rfl rfl rfl rfl (R_load rfl (known_L (k := 0) rfl) rfl rfl) ?_)
    | (refine HL_skip rfl rfl rfl ?_)
  all_goals first
    | (refine HLp rfl ?_)
    | (refine HL_skip rfl rfl rfl ?_)
  all_goals first
    | (refine HL_r rfl rfl rfl rfl (R_pickT rfl rfl) ?_)
    | (refine HL_r rfl rfl rfl rfl (R_pickF rfl rfl) ?_)
  all_goals refine HLm rfl ?_
  all_goals first
    | (refine HL_skip rfl rfl rfl ?_)
    | (refine HL_case 18 rfl (fun hb9 => ?_) (fun hb9 => ?_) <;> (try simp only [ZZ] at hb9) <;> first | (refine HL_r rfl rfl rfl rfl (R_fieldAddr rfl rfl (by first | (simp only [Nat.zero_add, Nat.reduceAdd, Nat.reduceMul, Nat.zero_mul, Nat.mul_one, Nat.add_zero]; exact rfl) | exact rfl)) ?_) | (refine HL_skip rfl rfl rfl ?_))
  all_goals first
    | (refine HL_r rfl rfl rfl rfl (R_load rfl (known_L (k := 1) rfl) rfl rfl) ?_)
    | (refine HL_skip rfl rfl rfl ?_)
  all_goals first
    | (refine HL_r rfl rfl rfl rfl (R_fieldAddr rfl rfl (by first | (simp only [Nat.zero_add, Nat.reduceAdd, Nat.reduceMul, Nat.zero_mul, Nat.mul_one, Nat.add_zero]; exact rfl) | exact rfl)) ?_)
    | (refine HL_skip rfl rfl rfl ?_)
  all_goals first
    | (refine HL_r rfl rfl rfl rfl (R_load rfl (known_L (k := 0) rfl) rfl rfl) ?_)
    | (refine HL_skip rfl rfl rfl ?_)
  all_goals first
    | (refine HLm rfl ?_)
    | (refine HL_skip rfl rfl rfl ?_)
  all_goals first
    | (refine HL_callR rfl rfl rfl (enters_of Tryz.func48 (by kernel_rfl) rfl) h1 (fun q hq => Or.inr hq) ?_)
    | (refine HL_skip rfl rfl rfl ?_)
  all_goals first
    | (refine HL_r rfl rfl rfl rfl (R_pickT rfl rfl) ?_)
    | (refine HL_r rfl rfl rfl rfl (R_pickF rfl rfl) ?_)
  all_goals refine HLm rfl ?_
  all_goals first
    | (refine HL_skip rfl rfl rfl ?_)
    | (refine HL_case 26 rfl (fun hb15 => ?_) (fun hb15 => ?_) <;> (try simp only [ZZ] at hb15) <;> first | (refine HL_r rfl rfl rfl rfl (R_fieldAddr rfl rfl (by first | (simp only [Nat.zero_add, Nat.reduceAdd, Nat.reduceMul, Nat.zero_mul, Nat.mul_one, Nat.add_zero]; exact rfl) | exact rfl)) ?_) | (refine HL_skip rfl rfl rfl ?_))
  all_goals first
    | (refine HL_r rfl rfl rfl rfl (R_load rfl (known_L (k := 1) rfl) rfl rfl) ?_)
    | (refine HL_skip rfl rfl rfl ?_)
  all_goals first
    | (refine HL_r rfl rfl rfl rfl (R_fieldAddr rfl rfl (by first | (simp only [Nat.zero_add, Nat.reduceAdd, Nat.reduceMul, Nat.zero_mul, Nat.mul_one, Nat.add_zero]; exact rfl) | exact rfl)) ?_)
    | (refine HL_skip rfl rfl rfl ?_)
  all_goals first
    | (refine HL_r rfl rfl rfl rfl (R_load rfl (known_L (k := 0) rfl) rfl rfl) ?_)
    | (refine HL_skip rfl rfl rfl ?_)
  all_goals first
    | (refine HL_callR rfl rfl rfl (enters_of Tryz.func49 (by kernel_rfl) rfl) h2 (fun q hq => Or.inr hq) ?_)
    | (refine HL_skip rfl rfl rfl ?_)
  all_goals first
    | (refine HL_r rfl rfl rfl rfl (R_pickT rfl rfl) ?_)
    | (refine HL_r rfl rfl rfl rfl (R_pickF rfl rfl) ?_)
  all_goals refine HLm rfl ?_
  all_goals refine HL_nil ?_
  all_goals (
   refine hK3 _ _ _ _ ?_; clear hK3 K3; refine HC_ret ?_; refine HQ_post rfl rfl (.cons (res_tmp rfl) .nil) (fun w1 hs1 => ?_); refine ⟨?_, hs1.keep⟩
   simp_all [resVal]
   skip)
end Go.Proofs.YtlcbfphioeppaaaGreatDoor
/-! ### Calls that turn a block and read known ones; maps put together in order; keys that are numbers -/
namespace Go.SL
set_option linter.all false
open Go Go.RowKit Go.Shelf
open Go.Proofs (Enters enters_of)
structure PureMR (P : Program) (f : FuncId) (args : Array Value) (v : Value) (r : Nat) (o o' : Obj) (Rl : List (Nat × Obj)) : Prop where
  run : ∀ w, w.heap[r]? = some o → Has Rl w → Calls P f args w fun e w' => e = .returned v ∧ Keep [r] w w' ∧ w'.heap[r]? = some o'
def cxMR (P : Program) (w : World) (r : Nat) (Rl : List (Nat × Obj)) (n : Nat) : Cx := ⟨P, none, w, [r], [], Rl, n⟩
theorem St.startMR {P : Program} {w : World} {r n : Nat} {o : Obj} {Rl : List (Nat × Obj)} (h : w.heap[r]? = some o) (hR : Has Rl w) (hne : ∀ p ∈ Rl, p.1 ≠ r) : St (cxMR P w r Rl n) [(r, o)] (fun _ _ => True) w :=
  ⟨Keep.refl _ _, fun p hp => by rw [List.mem_singleton.1 hp]; exact ⟨.inl List.mem_cons_self, by simp [cxMR], h⟩, List.pairwise_singleton _ _, fun p hp => ⟨by simp [cxMR]; exact hne p hp, by simp [cxMR], hR p hp⟩, by simp [cxMR], ⟨[], by simp, fun _ _ => trivial⟩⟩
theorem pureMR_of_HC {P : Program} {f : FuncId} {fn : Func} {code : Code} {vs : List Value} {v : Value} {r : Nat} {o o' : Obj} {Rl : List (Nat × Obj)} (hne : ∀ p ∈ Rl, p.1 ≠ r) (hf : P.funcs[f]? = some fn) (hb : fn.body = some code) (hlen : Nat.ble vs.length fn.ntmps = true)
    (h : ∀ w, HC (cxMR P w r Rl fn.ntmps) [] (frame0 0 vs) [(r, o)] (fun _ _ => True) code (bodyPostM (FW none) 0 P fn (fun e w' => e = .returned v ∧ ∃ L, (r, o') ∈ L ∧ St (cxMR P w r Rl fn.ntmps) L (fun _ _ => True) w'))) : PureMR P f vs.toArray v r o o' Rl := ⟨fun w hr hR =>
  (calls_of_HC (cxMR P w r Rl fn.ntmps) hf hb rfl rfl rfl hlen (St.startMR hr hR hne) (h w)).mono fun _ _ ⟨he, L, hm, hs⟩ => ⟨he, by have := hs.keep; simpa [cxMR] using this, (hs.own _ hm).2.2⟩⟩
section
variable {c : Cx} {l : List (Nat × Value)} {L : List (Nat × Obj)} {X : XP} {Q : Exit → Act → World → Prop} {d : List Deferred}
variable {ops : Array Oper} {rest : List Oper} {i : Nat} {v : Value} {t : TypeId} {ps : String} {af : Array Edge} {gd : Option (Nat × Bool)} {ty t2 : TypeId}
theorem St.apart {w : World} (hs : St c L X w) {k r : Nat} {o : Obj} (hk : L[k]? = some (r, o)) : ∀ p ∈ c.R, p.1 ≠ r := by
  rintro p hp rfl
  have h1 := (hs.own _ (List.mem_of_getElem? hk)).1
  obtain ⟨h2, _, h3⟩ := hs.ext p hp
  rcases h1 with h1 | h1
  · exact h2 h1
  · have := lt_of_some h3
    exact absurd this (Nat.not_lt.2 h1)
/-- Blocks of R, or of one's own but the one that is turned. -/
theorem HL_callMR {k r : Nat} {o o' : Obj} {L' : List (Nat × Obj)} {Rl : List (Nat × Obj)} {f : Operand} {args : Array Operand} {at_ : Array TypeId} {g : FuncId} {vs : List Value}
    (hg : goes l ops ⟨some i, .call ⟨.value f, args, at_⟩, ty, ps, af, gd⟩ = some true) (hi : Nat.ble (i + 1) c.n = true) (hca : callArgs l f args = some (g, vs)) (eg : Enters c.P g) (hk : L[k]? = some (r, o))
    (hp : (∀ p ∈ Rl, p.1 ≠ r) → PureMR c.P g vs.toArray v r o o' Rl) (hR : ∀ p ∈ Rl, p ∈ c.R) (hL : L.set k (r, o') = L') (h : HL c d ((i, v) :: l) L' X ops rest Q) : HL c d l L X ops (⟨some i, .call ⟨.value f, args, at_⟩, ty, ps, af, gd⟩ :: rest) Q :=
  HL_callE (α := Unit) (V := fun _ => v) (L' := fun _ => L') (X' := fun _ => X) hg hi hca eg (fun w hs => ((hp fun p hq => hs.apart hk p (hR p hq)).run w (hs.get hk) (fun p hq => hs.readR (hR p hq))).mono fun _ _ ⟨he, hkp, ho⟩ => ⟨(), he, hL ▸ hs.set hk hkp ho⟩) (fun _ => h)
theorem HL_makeMap (hg : goes l ops ⟨some i, .makeMap t none, ty, ps, af, gd⟩ = some true) (hi : Nat.ble (i + 1) c.n = true)
    (h : ∀ r, HL c d ((i, .map (some r)) :: l) ((r, .map #[] 0) :: L) X ops rest Q) : HL c d l L X ops (⟨some i, .makeMap t none, ty, ps, af, gd⟩ :: rest) Q :=
  HL_runE (α := Nat) (V := fun r => .map (some r)) (L' := fun r => (r, .map #[] 0) :: L) (X' := fun _ => X) hg rfl rfl hi (fun a w _ hs => ⟨w.heap.size, w.alloc (.map #[] 0), by simp only [execOp, Sem.run_bind, Option.map]; rfl, hs.alloc _⟩) h
theorem HL_insert {m x y : Operand} {kt et r clock q : Nat} {es : Array MapEntry} {key val : Value} {dom : Value → Prop} {eq : Value → Value → Bool} {L' : List (Nat × Obj)} (K : KeyL c.P kt dom eq) (hg : goes l ops ⟨none, .insert t m x y, ty, ps, af, gd⟩ = some true)
    (hm : evl l m = some (.map (some r))) (hx : evl l x = some key) (hy : evl l y = some val) (hq : L[q]? = some (r, .map es clock)) (ht : mapTy c.P t = some (kt, et)) (hk : dom key) (he : ∀ e ∈ es.toList, dom e.key) (hn : mapGet eq key (es.toList.map kvOf) = none)
    (hL : L.set q (r, .map (es.push { key := key, val := val, born := clock }) (clock + 1)) = L') (h : HL c d l L' X ops rest Q) : HL c d l L X ops (⟨none, .insert t m x y, ty, ps, af, gd⟩ :: rest) Q :=
  HL_run0 hg rfl rfl (fun a w hf hs => ⟨_, by
    simp only [execOp, Sem.run_bind]
    rw [hf.eval hm, hf.eval hx, hf.eval hy, run_insert K ht (hs.get hq) hk he hn]; rfl, hL ▸ hs.set hq (Keep.putObj r _) (World.putObj_heap_same (lt_of_some (hs.get hq)))⟩) h
end
/-! ### Keys that are numbers -/
def isI (v : Value) : Prop := ∃ n, v = .int .i64 n
def intEq (x y : Value) : Bool := eqS x y
theorem run_checkKey_i {P : Program} {t : TypeId} (ht : P.underlying t = some (.int .i64)) (b : Bool) (n : Nat) (x : Int) (w : World) : (Instr.checkKey b (n + 1) t (.int .i64 x)).run P w = .ok () w := by
  simp [Instr.checkKey, Sem.run_bind, run_und ht, Result.andThen]
theorem keyI {P : Program} {t : TypeId} (ht : P.underlying t = some (.int .i64)) : KeyL P t isI intEq where
  now := ⟨_, ht, fun a b ⟨a1, ha⟩ ⟨b1, hb⟩ => by subst ha hb; exact .inr (by simp [Instr.sameNow, intEq, eqS])⟩
  equal := by
    rintro _ _ w ⟨a, rfl⟩ ⟨b, rfl⟩
    exact run_eqS (by simp [scalB, ht]) (by simp [scalB, ht]) 9999 w
  check := by
    rintro _ b w ⟨x, rfl⟩
    exact run_checkKey_i ht b 9999 x w
theorem intEq_mk (a b : Int) : intEq (.int .i64 a) (.int .i64 b) = (a == b) := rfl
end Go.SL
namespace Go.Proofs.YtlcbfphioeppaaaGreatDoor
set_option linter.all false
open Go.SL Go.RowKit Go.Shelf
/-! the table of kinds -/
def kfs : List (Nat × Nat × Nat × Bool) := [(139, 142, 145, false), (146, 148, 151, false), (152, 155, 157, false), (159, 160, 0, true),
  (161, 162, 164, false), (165, 166, 0, true), (167, 168, 169, false), (170, 171, 0, true)]
def kAt (k : Int) : Nat × Nat × Nat × Bool := kfs.getD (k - 1).toNat (0, 0, 0, false)
def isK (k : Int) : Bool := decide (1 ≤ k) && decide (k ≤ 8)
def formF (k : Int) : FuncId := (kAt k).1
def ofF (k : Int) : FuncId := (kAt k).2.1
def sizeF (k : Int) : FuncId := (kAt k).2.2.1
def varB (k : Int) : Bool := (kAt k).2.2.2
def fnV (b : Bool) (f : FuncId) : Value := if b then fV f else .nilFunc
def kCells (k : Int) : List Value := [fnV (isK k) (formF k), fnV (isK k) (ofF k), fnV (isK k && !varB k) (sizeF k), .bool (varB k)]
def kEnt (j : Nat) : MapEntry := { key := .int .i64 ((j : Int) + 1), val := .agg (kCells ((j : Int) + 1)).toArray, born := j }
def kMap : Array MapEntry := #[kEnt 0, kEnt 1, kEnt 2, kEnt 3, kEnt 4, kEnt 5, kEnt 6, kEnt 7]
def kObj : Obj := .map kMap 8
theorem kMap_dom : ∀ e ∈ kMap.toList, isI e.key := by
  intro e he; simp only [kMap, List.mem_cons, List.not_mem_nil, or_false] at he
  rcases he with rfl | rfl | rfl | rfl | rfl | rfl | rfl | rfl <;> exact ⟨_, rfl⟩
theorem kMap_get (k : Int) : mapGet intEq (.int .i64 k) (kMap.toList.map kvOf) = if isK k then some (.agg (kCells k).toArray) else none := by
  by_cases h : 1 ≤ k ∧ k ≤ 8
  · have : k = 1 ∨ k = 2 ∨ k = 3 ∨ k = 4 ∨ k = 5 ∨ k = 6 ∨ k = 7 ∨ k = 8 := by omega
    rcases this with rfl | rfl | rfl | rfl | rfl | rfl | rfl | rfl <;> rfl
  · have e : isK k = false := by unfold isK; simp; omega
    rw [e]
    have h1 : k ≠ 1 := by omega
    have h2 : k ≠ 2 := by omega
    have h3 : k ≠ 3 := by omega
    have h4 : k ≠ 4 := by omega
    have h5 : k ≠ 5 := by omega
    have h6 : k ≠ 6 := by omega
    have h7 : k ≠ 7 := by omega
    have h8 : k ≠ 8 := by omega
    simp [kMap, kEnt, kvOf, mapGet, intEq_mk, h1, h2, h3, h4, h5, h6, h7, h8]
theorem kMap_val (k : Int) : (if true = true then Value.tuple #[((mapGet intEq (.int .i64 k) (kMap.toList.map kvOf)).getD (.agg #[.nilFunc, .nilFunc, .nilFunc, .bool false])), .bool (mapGet intEq (.int .i64 k) (kMap.toList.map kvOf)).isSome] else (mapGet intEq (.int .i64 k) (kMap.toList.map kvOf)).getD (.agg #[.nilFunc, .nilFunc, .nilFunc, .bool false])) =
    .tuple #[.agg (kCells k).toArray, .bool (isK k)] := by
  rw [kMap_get, if_pos rfl]
  cases h : isK k with
  | true => rfl
  | false =>
    have : varB k = false := by
      unfold isK at h
      simp at h
      unfold varB kAt
      by_cases h1 : 1 ≤ k
      · have := h h1
        rw [List.getD_eq_getElem?_getD, List.getElem?_eq_none (by show 8 ≤ _; omega)]; rfl
      · have : (k - 1).toNat = 0 := by omega
        rw [this]; rfl
    simp [kCells, fnV, h, this]
theorem kMap_val0 {k : Int} (h : isK k = true) : (if false = true then Value.tuple #[((mapGet intEq (.int .i64 k) (kMap.toList.map kvOf)).getD (.agg #[.nilFunc, .nilFunc, .nilFunc, .bool false])), .bool (mapGet intEq (.int .i64 k) (kMap.toList.map kvOf)).isSome] else (mapGet intEq (.int .i64 k) (kMap.toList.map kvOf)).getD (.agg #[.nilFunc, .nilFunc, .nilFunc, .bool false])) =
    .agg (kCells k).toArray := by
  rw [kMap_get, h]; rfl
set_option maxRecDepth 10000 in
theorem E_kinds : PureE (α := Nat) Tryz.prog 91 [].toArray (fun r => .map (some r)) (fun r => [(r, kObj)]) := by
  refine pureE_of_HC Tryz.func91 rfl rfl fun w => ?_; refine HC_seq fun K1 hK1 => HC_region ?_; refine HLm rfl ?_; refine HL_nil (hK1 _ _ _ _ ?_); refine HC_seq fun K2 hK2 => HC_region ?_; refine HL_makeMap rfl rfl fun mr => ?_; refine HL_r rfl rfl rfl rfl (R_build (r := [_, _, _, _]) rfl rfl) ?_; refine HL_insert (q := 0) (key := .int .i64 1) (keyI (t := 3) (by kernel_rfl)) rfl rfl rfl rfl rfl rfl ⟨_, rfl⟩ (by intro e he; simp at he) rfl rfl ?_; refine HL_r rfl rfl rfl rfl (R_build (r := [_, _, _, _]) rfl rfl) ?_
  refine HL_insert (q := 0) (key := .int .i64 2) (keyI (t := 3) (by kernel_rfl)) rfl rfl rfl rfl rfl rfl ⟨_, rfl⟩ (by intro e he; simp at he; rcases he with rfl <;> exact ⟨_, rfl⟩) rfl rfl ?_; refine HL_r rfl rfl rfl rfl (R_build (r := [_, _, _, _]) rfl rfl) ?_
  refine HL_insert (q := 0) (key := .int .i64 3) (keyI (t := 3) (by kernel_rfl)) rfl rfl rfl rfl rfl rfl ⟨_, rfl⟩ (by intro e he; simp at he; rcases he with rfl | rfl <;> exact ⟨_, rfl⟩) rfl rfl ?_; refine HL_r rfl rfl rfl rfl (R_build (r := [_, _, _, _]) rfl rfl) ?_
  refine HL_insert (q := 0) (key := .int .i64 4) (keyI (t := 3) (by kernel_rfl)) rfl rfl rfl rfl rfl rfl ⟨_, rfl⟩ (by intro e he; simp at he; rcases he with rfl | rfl | rfl <;> exact ⟨_, rfl⟩) rfl rfl ?_; refine HL_r rfl rfl rfl rfl (R_build (r := [_, _, _, _]) rfl rfl) ?_
  refine HL_insert (q := 0) (key := .int .i64 5) (keyI (t := 3) (by kernel_rfl)) rfl rfl rfl rfl rfl rfl ⟨_, rfl⟩ (by intro e he; simp at he; rcases he with rfl | rfl | rfl | rfl <;> exact ⟨_, rfl⟩) rfl rfl ?_; refine HL_r rfl rfl rfl rfl (R_build (r := [_, _, _, _]) rfl rfl) ?_
  refine HL_insert (q := 0) (key := .int .i64 6) (keyI (t := 3) (by kernel_rfl)) rfl rfl rfl rfl rfl rfl ⟨_, rfl⟩ (by intro e he; simp at he; rcases he with rfl | rfl | rfl | rfl | rfl <;> exact ⟨_, rfl⟩) rfl rfl ?_; refine HL_r rfl rfl rfl rfl (R_build (r := [_, _, _, _]) rfl rfl) ?_
  refine HL_insert (q := 0) (key := .int .i64 7) (keyI (t := 3) (by kernel_rfl)) rfl rfl rfl rfl rfl rfl ⟨_, rfl⟩ (by intro e he; simp at he; rcases he with rfl | rfl | rfl | rfl | rfl | rfl <;> exact ⟨_, rfl⟩) rfl rfl ?_; refine HL_r rfl rfl rfl rfl (R_build (r := [_, _, _, _]) rfl rfl) ?_
  refine HL_insert (q := 0) (key := .int .i64 8) (keyI (t := 3) (by kernel_rfl)) rfl rfl rfl rfl rfl rfl ⟨_, rfl⟩ (by intro e he; simp at he; rcases he with rfl | rfl | rfl | rfl | rfl | rfl | rfl <;> exact ⟨_, rfl⟩) rfl rfl ?_; refine HLm rfl (HLm rfl ?_); refine HL_nil (hK2 _ _ _ _ ?_); refine HC_ret ?_; refine HQ_post rfl rfl (.cons (res_tmp rfl) .nil) (fun w1 hs1 => ?_); exact ⟨mr, rfl, hs1⟩
end Go.Proofs.YtlcbfphioeppaaaGreatDoor
namespace Go.Proofs.YtlcbfphioeppaaaGreatDoor
set_option linter.all false
open Go.SL Go.RowKit Go.Shelf
set_option maxRecDepth 10000 in
theorem S_none {R : List (Nat × Obj)} {k n : Int} {p : Pl} {ins : List Ty} (ht : Ty.In R (.mk k n p ins)) : PureR Tryz.prog 140 [Ty.val (.mk k n p ins)].toArray (.bool (decide (ins.length = 0))) R := by
  cases ht with
  | mk hk hn hl hs hi =>
  refine pureR_of_HC Tryz.func140 rfl rfl fun w => ?_; refine HC_seq fun K1 hK1 => HC_region ?_; refine HL_box (cs := #[_, _, _]) rfl rfl rfl rfl fun r1 => ?_; refine HLm rfl ?_; refine HL_nil (hK1 _ _ _ _ ?_); refine HC_seq fun K2 hK2 => HC_region ?_
  refine HL_r rfl rfl rfl rfl (R_fieldAddr rfl rfl (by first | (simp only [Nat.zero_add, Nat.reduceAdd, Nat.reduceMul, Nat.zero_mul, Nat.mul_one, Nat.add_zero]; exact rfl) | exact rfl)) ?_; refine HL_r rfl rfl rfl rfl (R_load rfl (known_L (k := 0) rfl) rfl rfl) ?_; refine HL_r rfl rfl rfl rfl (R_lenPl rfl hs rfl) ?_; refine HLp rfl (HLm rfl ?_); refine HL_nil (hK2 _ _ _ _ ?_); refine HC_ret ?_; refine HQ_post rfl rfl (.cons (res_tmp rfl) .nil) (fun w1 hs1 => ?_); exact ⟨congrArg (fun b => Ending.returned (Value.bool b)) (by rw [Bool.eq_iff_iff]; simp only [beq_iff_eq, decide_eq_true_eq]; omega), hs1.keep⟩
set_option maxRecDepth 10000 in
theorem S_plain {R : List (Nat × Obj)} {k n : Int} {p : Pl} {ins : List Ty} (ht : Ty.In R (.mk k n p ins)) : PureR Tryz.prog 147 [Ty.val (.mk k n p ins)].toArray (.bool (decide (n = 0))) R := by
  cases ht with
  | mk hk hn hl hs hi =>
  refine pureR_of_HC Tryz.func147 rfl rfl fun w => ?_; refine HC_seq fun K1 hK1 => HC_region ?_; refine HL_box (cs := #[_, _, _]) rfl rfl rfl rfl fun r1 => ?_; refine HLm rfl ?_; refine HL_nil (hK1 _ _ _ _ ?_); clear hK1 K1; refine HC_seq fun K2 hK2 => HC_region ?_
  refine HL_r rfl rfl rfl rfl (R_fieldAddr rfl rfl (by first | (simp only [Nat.zero_add, Nat.reduceAdd, Nat.reduceMul, Nat.zero_mul, Nat.mul_one, Nat.add_zero]; exact rfl) | exact rfl)) ?_; refine HL_r rfl rfl rfl rfl (R_load rfl (known_L (k := 0) rfl) rfl rfl) ?_; refine HLp rfl (HLm rfl ?_); refine HL_nil (hK2 _ _ _ _ ?_); clear hK2 K2; refine HC_ret ?_; refine HQ_post rfl rfl (.cons (res_tmp rfl) .nil) (fun w1 hs1 => ?_); refine ⟨?_, hs1.keep⟩
  simp_all [resVal]
  first | done | rfl | omega | (rw [Bool.eq_iff_iff]; simp only [Bool.and_eq_true, Bool.or_eq_true, decide_eq_true_eq, beq_iff_eq]; omega) | (simp only [decide_eq_true_eq, decide_eq_false_iff_not]; omega)
set_option maxRecDepth 10000 in
theorem S_row {R : List (Nat × Obj)} {k n : Int} {p : Pl} {ins : List Ty} (ht : Ty.In R (.mk k n p ins)) : PureR Tryz.prog 154 [Ty.val (.mk k n p ins)].toArray (.bool (decide (1 ≤ n) && decide (n ≤ 512))) R := by
  cases ht with
  | mk hk hn hl hs hi =>
  refine pureR_of_HC Tryz.func154 rfl rfl fun w => ?_; refine HC_seq fun K1 hK1 => HC_region ?_; refine HL_box (cs := #[_, _, _]) rfl rfl rfl rfl fun r1 => ?_; refine HLm rfl ?_; refine HL_nil (hK1 _ _ _ _ ?_); clear hK1 K1; refine HC_seq fun K2 hK2 => HC_region ?_
  refine HL_r rfl rfl rfl rfl (R_fieldAddr rfl rfl (by first | (simp only [Nat.zero_add, Nat.reduceAdd, Nat.reduceMul, Nat.zero_mul, Nat.mul_one, Nat.add_zero]; exact rfl) | exact rfl)) ?_; refine HL_r rfl rfl rfl rfl (R_load rfl (known_L (k := 0) rfl) rfl rfl) ?_; refine HLp rfl (HLm rfl ?_)
  refine HL_case 6 rfl (fun hb3 => ?_) (fun hb3 => ?_) <;> (try simp only [ZZ] at hb3) <;> first | (refine HL_r rfl rfl rfl rfl (R_fieldAddr rfl rfl (by first | (simp only [Nat.zero_add, Nat.reduceAdd, Nat.reduceMul, Nat.zero_mul, Nat.mul_one, Nat.add_zero]; exact rfl) | exact rfl)) ?_) | (refine HL_skip rfl rfl rfl ?_)
  all_goals first
    | (refine HL_r rfl rfl rfl rfl (R_load rfl (known_L (k := 0) rfl) rfl rfl) ?_)
    | (refine HL_skip rfl rfl rfl ?_)
  all_goals first
    | (refine HLp rfl ?_)
    | (refine HL_skip rfl rfl rfl ?_)
  all_goals first
    | (refine HL_r rfl rfl rfl rfl (R_pickT rfl rfl) ?_)
    | (refine HL_r rfl rfl rfl rfl (R_pickF rfl rfl) ?_)
  all_goals refine HLm rfl ?_
  all_goals refine HL_nil ?_
  all_goals (
   refine hK2 _ _ _ _ ?_; clear hK2 K2; refine HC_ret ?_; refine HQ_post rfl rfl (.cons (res_tmp rfl) .nil) (fun w1 hs1 => ?_); refine ⟨?_, hs1.keep⟩
   simp_all [resVal]
   all_goals first | done | rfl | omega | (rw [Bool.eq_iff_iff]; simp only [Bool.and_eq_true, Bool.or_eq_true, decide_eq_true_eq, beq_iff_eq]; omega) | (simp only [decide_eq_true_eq, decide_eq_false_iff_not]; omega)
   skip)
set_option maxRecDepth 10000 in
theorem S_many {R : List (Nat × Obj)} {k n : Int} {p : Pl} {ins : List Ty} (ht : Ty.In R (.mk k n p ins)) (most : Int) : PureR Tryz.prog 153 [Ty.val (.mk k n p ins), .int .i64 most].toArray (.bool (decide (1 ≤ ins.length) && decide ((ins.length : Int) ≤ most))) R := by
  cases ht with
  | mk hk hn hl hs hi =>
  refine pureR_of_HC Tryz.func153 rfl rfl fun w => ?_; refine HC_seq fun K1 hK1 => HC_region ?_; refine HL_box (cs := #[_, _, _]) rfl rfl rfl rfl fun r1 => ?_; refine HLm rfl ?_; refine HL_nil (hK1 _ _ _ _ ?_); clear hK1 K1; refine HC_seq fun K2 hK2 => HC_region ?_
  refine HL_r rfl rfl rfl rfl (R_fieldAddr rfl rfl (by first | (simp only [Nat.zero_add, Nat.reduceAdd, Nat.reduceMul, Nat.zero_mul, Nat.mul_one, Nat.add_zero]; exact rfl) | exact rfl)) ?_; refine HL_r rfl rfl rfl rfl (R_load rfl (known_L (k := 0) rfl) rfl rfl) ?_; refine HL_r rfl rfl rfl rfl (R_lenPl rfl hs rfl) ?_; refine HLp rfl (HLm rfl ?_)
  refine HL_case 9 rfl (fun hb3 => ?_) (fun hb3 => ?_) <;> (try simp only [ZZ] at hb3) <;> first | (refine HL_r rfl rfl rfl rfl (R_fieldAddr rfl rfl (by first | (simp only [Nat.zero_add, Nat.reduceAdd, Nat.reduceMul, Nat.zero_mul, Nat.mul_one, Nat.add_zero]; exact rfl) | exact rfl)) ?_) | (refine HL_skip rfl rfl rfl ?_)
  all_goals first
    | (refine HL_r rfl rfl rfl rfl (R_load rfl (known_L (k := 0) rfl) rfl rfl) ?_)
    | (refine HL_skip rfl rfl rfl ?_)
  all_goals first
    | (refine HL_r rfl rfl rfl rfl (R_lenPl rfl hs rfl) ?_)
    | (refine HL_skip rfl rfl rfl ?_)
  all_goals first
    | (refine HLm rfl ?_)
    | (refine HL_skip rfl rfl rfl ?_)
  all_goals first
    | (refine HLp rfl ?_)
    | (refine HL_skip rfl rfl rfl ?_)
  all_goals first
    | (refine HL_r rfl rfl rfl rfl (R_pickT rfl rfl) ?_)
    | (refine HL_r rfl rfl rfl rfl (R_pickF rfl rfl) ?_)
  all_goals refine HLm rfl ?_
  all_goals refine HL_nil ?_
  all_goals (
   refine hK2 _ _ _ _ ?_; clear hK2 K2; refine HC_ret ?_; refine HQ_post rfl rfl (.cons (res_tmp rfl) .nil) (fun w1 hs1 => ?_); refine ⟨?_, hs1.keep⟩
   simp_all [resVal]
   first | done | rfl | omega | (rw [Bool.eq_iff_iff]; simp only [Bool.and_eq_true, Bool.or_eq_true, decide_eq_true_eq, beq_iff_eq]; omega) | (simp only [decide_eq_true_eq, decide_eq_false_iff_not]; omega)
   skip)
def idxL : List Int → Int → Int → Int
  | [], _, _ => -1
  | y :: ys, x, j => if x = y then j else idxL ys x (j + 1)
def intsC (l : List Int) : List Value := l.map (Value.int .i64)
set_option maxRecDepth 10000 in
theorem S_Index {R : List (Nat × Obj)} {xs : List Int} {p : Pl} (x : Int) (hl : xs.length ≤ 9223372036854775807) (hs : Seg R xs.length (intsC xs) p) : PureR Tryz.prog 199 [plV xs.length p, .int .i64 x].toArray (.int .i64 (idxL xs x 0)) R := by
  refine pureR_of_HC Tryz.func199 rfl rfl fun w => ?_; refine HC_seq fun K1 hK1 => HC_region ?_; refine HLm rfl ?_; refine HL_nil (hK1 _ _ _ _ ?_); refine HC_seq fun K2 hK2 => ?_; refine HC_seq fun K3 hK3 => HC_region ?_; refine HLm rfl (HL_r rfl rfl rfl rfl (R_lenPl rfl hs rfl) (HLm rfl ?_)); refine HL_nil (hK3 _ _ _ _ ?_); refine HC_block (HC_loop (σ := Nat) (fun i => i ≤ xs.length ∧ idxL (xs.drop i) x (i : Int) = idxL xs x 0) (fun i => [(0, plV xs.length p), (1, .int .i64 x), (7, .int .i64 (xs.length : Int)), (8, .int .i64 (i : Int))]) (fun _ => []) (fun _ _ _ => True) (fun i => xs.length - i) 0 ⟨by omega, rfl⟩ (.cons rfl (.cons rfl (.cons rfl (.cons rfl .nil)))) (List.nil_sublist _) (fun _ _ h => h) ?_); rintro i ⟨hi1, hinv⟩; refine HC_seq fun K4 hK4 => HC_region ?_; refine HLp rfl ?_; refine HL_nil (hK4 _ _ _ _ ?_); refine HC_seq fun K5 hK5 => ?_; refine HC_cond rfl (fun h6 => ?_) (fun h6 => ?_)
  · try exact Bool.noConfusion h6
    try simp only [ZZ] at h6
    refine HC_skip (hK5 _ _ _ _ ?_); refine HC_seq fun K7 hK7 => HC_block ?_; refine HC_seq fun K8 hK8 => HC_region ?_; refine HLm rfl (HLm rfl ?_); refine HL_nil (hK8 _ _ _ _ ?_); refine HC_seq fun K9 hK9 => ?_
    obtain ⟨y, hy, hmy⟩ := getI (show i < xs.length by omega)
    rw [dropI hy, idxL] at hinv; refine HC_region (HLm rfl ?_); refine HLm rfl (HLm rfl (HL_r rfl rfl rfl rfl (R_indexPl (j := i) rfl hs rfl rfl rfl rfl (by omega)) ?_)); refine HL_r rfl rfl rfl rfl (R_loadPl1 (v := .int .i64 y) (j := i) (fun q hq => Or.inr hq) rfl hs (by omega) rfl (by unfold intsC; rw [List.getElem?_map, hy]; rfl)) ?_; refine HLp rfl ?_; refine HL_nil (hK9 _ _ _ _ ?_); refine HC_cond rfl (fun h10 => ?_) (fun h10 => ?_)
    · try exact Bool.noConfusion h10
      try simp only [ZZ] at h10
      refine HC_seq fun K11 hK11 => HC_region ?_; refine HLm rfl (HLm rfl ?_); refine HL_nil (hK11 _ _ _ _ ?_); refine HC_ret (HQ_blockR (HQ_thenR ?_)); refine HQ_thenR (HQ_blockR (HQ_thenR ?_)); refine HQ_post rfl rfl (.cons (res_tmp rfl) .nil) (fun w1 hs1 => ?_); refine ⟨?_, hs1.keep⟩; rw [← hinv, if_pos (by assumption)]; rfl
    · try exact Bool.noConfusion h10
      try simp only [ZZ] at h10
      refine HC_skip (HQ_blockN (hK7 _ _ _ _ ?_)); refine HC_region (HLp rfl (HL_wrap_i64 (by omega) (by omega) ?_)); refine HLm rfl (HL_nil (HQ_then ?_)); exact HQ_again (i + 1) ⟨by omega, by rw [if_neg (by assumption)] at hinv; exact hinv⟩ (by omega) (.cons rfl (.cons rfl (.cons rfl (.cons rfl .nil)))) (List.nil_sublist _) (fun _ _ h => h)
  · try exact Bool.noConfusion h6
    try simp only [ZZ] at h6
    refine HC_exit (HQ_thenE ?_); refine HQ_thenE (HQ_blockE (hK2 _ _ _ _ ?_)); refine HC_seq fun K12 hK12 => HC_region ?_; refine HLm rfl ?_; refine HL_nil (hK12 _ _ _ _ ?_); refine HC_ret ?_; refine HQ_post rfl rfl (.cons (res_tmp rfl) .nil) (fun w1 hs1 => ?_); refine ⟨?_, hs1.keep⟩; rw [← hinv, List.drop_of_length_le (by omega), idxL]; rfl
set_option maxRecDepth 10000 in
theorem S_Contains {R : List (Nat × Obj)} {xs : List Int} {p : Pl} (x : Int) (hl : xs.length ≤ 9223372036854775807) (hs : Seg R xs.length (intsC xs) p) : PureR Tryz.prog 141 [plV xs.length p, .int .i64 x].toArray (.bool (decide (0 ≤ idxL xs x 0))) R := by
  have h := S_Index x hl hs
  refine pureR_of_HC Tryz.func141 rfl rfl fun w => ?_; refine HC_seq fun K1 hK1 => HC_region ?_; refine HLm rfl ?_; refine HL_nil (hK1 _ _ _ _ ?_); refine HC_seq fun K2 hK2 => HC_region ?_; refine HLm rfl (HLm rfl (HL_callR rfl rfl rfl (enters_of Tryz.func199 (by kernel_rfl) rfl) h (fun q hq => Or.inr hq) ?_)); refine HLp rfl (HLm rfl ?_); refine HL_nil (hK2 _ _ _ _ ?_); refine HC_ret ?_; refine HQ_post rfl rfl (.cons (res_tmp rfl) .nil) (fun w1 hs1 => ?_); exact ⟨rfl, hs1.keep⟩
theorem idx5 (n : Int) : decide (0 ≤ idxL [1, 2, 4, 8, 32] n 0) = (decide (n = 1) || decide (n = 2) || decide (n = 4) || decide (n = 8) || decide (n = 32)) := by
  simp only [idxL]
  by_cases h1 : n = 1
  · simp [h1]
  by_cases h2 : n = 2
  · simp [h2]
  by_cases h4 : n = 4
  · simp [h4]
  by_cases h8 : n = 8
  · simp [h8]
  by_cases h32 : n = 32
  · simp [h32]
  simp [h1, h2, h4, h8, h32]
set_option maxRecDepth 10000 in
theorem F_1 {R : List (Nat × Obj)} {n : Int} {p : Pl} {ins : List Ty} (ht : Ty.In R (.mk 1 n p ins)) : PureR Tryz.prog 139 [Ty.val (.mk 1 n p ins)].toArray (.bool (okForm 1 n ins.length)) R := by
  have hno := S_none ht
  have hpl := S_plain ht
  have hro := S_row ht
  have hma := fun m => S_many ht m
  cases ht with
  | mk hk hn hl hs hi =>
  refine pureR_of_HC Tryz.func139 rfl rfl fun w => ?_; refine HC_seq fun K1 hK1 => HC_region ?_; refine HL_box (cs := #[_, _, _]) rfl rfl rfl rfl fun r1 => ?_; refine HLm rfl ?_; refine HL_nil (hK1 _ _ _ _ ?_); clear hK1 K1; refine HC_seq fun K2 hK2 => HC_region ?_; refine HL_r rfl rfl rfl rfl (R_loadA (vs := [_, _, _]) rfl (known_L (k := 0) rfl) rfl rfl rfl rfl) ?_; refine HL_callR rfl rfl rfl (enters_of Tryz.func140 (by kernel_rfl) rfl) hno (fun q hq => Or.inr hq) ?_; refine HLm rfl ?_
  refine HL_case 5 rfl (fun hb3 => ?_) (fun hb3 => ?_) <;> (try simp only [ZZ] at hb3) <;> first | (refine HL_buildSlice (vs := [_, _, _, _, _]) (zs := [_, _, _, _, _]) (r := [_, _, _, _, _]) rfl rfl rfl rfl rfl rfl rfl rfl rfl (by show (madeCells #[_] _).toList = _; rw [made_one]; exact rfl) rfl fun r2 => ?_) | (refine HL_skip rfl rfl rfl ?_)
  all_goals first
    | (refine HL_r rfl rfl rfl rfl (R_fieldAddr rfl rfl (by first | (simp only [Nat.zero_add, Nat.reduceAdd, Nat.reduceMul, Nat.zero_mul, Nat.mul_one, Nat.add_zero]; exact rfl) | exact rfl)) ?_)
    | (refine HL_skip rfl rfl rfl ?_)
  all_goals first
    | (refine HL_r rfl rfl rfl rfl (R_load rfl (known_L (k := 1) rfl) rfl rfl) ?_)
    | (refine HL_skip rfl rfl rfl ?_)
  all_goals first
    | (refine HL_callR rfl rfl rfl (enters_of Tryz.func141 (by kernel_rfl) rfl) (S_Contains (R := [(r2, _)]) (xs := [1, 2, 4, 8, 32]) (p := some (⟨r2, 0, none⟩, 5)) n (by decide) ⟨by decide, fun _ => ⟨rfl, _, _, _, List.mem_cons_self, rfl⟩⟩) (fun q hq => .inl (by rw [List.mem_singleton.1 hq]; exact List.mem_cons_self)) ?_; refine HL_as (congrArg Value.bool (idx5 n)) ?_)
    | (refine HL_skip rfl rfl rfl ?_)
  all_goals first
    | (refine HL_r rfl rfl rfl rfl (R_pickT rfl rfl) ?_)
    | (refine HL_r rfl rfl rfl rfl (R_pickF rfl rfl) ?_)
  all_goals refine HLm rfl ?_
  all_goals refine HL_nil ?_
  all_goals (
   refine hK2 _ _ _ _ ?_; clear hK2 K2; refine HC_ret ?_; refine HQ_post rfl rfl (.cons (res_tmp rfl) .nil) (fun w1 hs1 => ?_); refine ⟨?_, hs1.keep⟩
   unfold okForm
   simp_all [resVal]
   skip)
set_option maxRecDepth 10000 in
theorem F_2 {R : List (Nat × Obj)} {n : Int} {p : Pl} {ins : List Ty} (ht : Ty.In R (.mk 2 n p ins)) : PureR Tryz.prog 146 [Ty.val (.mk 2 n p ins)].toArray (.bool (okForm 2 n ins.length)) R := by
  have hno := S_none ht
  have hpl := S_plain ht
  have hro := S_row ht
  have hma := fun m => S_many ht m
  cases ht with
  | mk hk hn hl hs hi =>
  refine pureR_of_HC Tryz.func146 rfl rfl fun w => ?_; refine HC_seq fun K1 hK1 => HC_region ?_; refine HL_box (cs := #[_, _, _]) rfl rfl rfl rfl fun r1 => ?_; refine HLm rfl ?_; refine HL_nil (hK1 _ _ _ _ ?_); clear hK1 K1; refine HC_seq fun K2 hK2 => HC_region ?_; refine HL_r rfl rfl rfl rfl (R_loadA (vs := [_, _, _]) rfl (known_L (k := 0) rfl) rfl rfl rfl rfl) ?_; refine HL_callR rfl rfl rfl (enters_of Tryz.func140 (by kernel_rfl) rfl) hno (fun q hq => Or.inr hq) ?_; refine HLm rfl ?_
  refine HL_case 5 rfl (fun hb3 => ?_) (fun hb3 => ?_) <;> (try simp only [ZZ] at hb3) <;> first | (refine HL_r rfl rfl rfl rfl (R_loadA (vs := [_, _, _]) rfl (known_L (k := 0) rfl) rfl rfl rfl rfl) ?_) | (refine HL_skip rfl rfl rfl ?_)
  all_goals first
    | (refine HL_callR rfl rfl rfl (enters_of Tryz.func147 (by kernel_rfl) rfl) hpl (fun q hq => Or.inr hq) ?_)
    | (refine HL_skip rfl rfl rfl ?_)
  all_goals first
    | (refine HL_r rfl rfl rfl rfl (R_pickT rfl rfl) ?_)
    | (refine HL_r rfl rfl rfl rfl (R_pickF rfl rfl) ?_)
  all_goals refine HLm rfl ?_
  all_goals refine HL_nil ?_
  all_goals (
   refine hK2 _ _ _ _ ?_; clear hK2 K2; refine HC_ret ?_; refine HQ_post rfl rfl (.cons (res_tmp rfl) .nil) (fun w1 hs1 => ?_); refine ⟨?_, hs1.keep⟩
   unfold okForm
   simp_all [resVal]
   skip)
set_option maxRecDepth 10000 in
theorem F_3 {R : List (Nat × Obj)} {n : Int} {p : Pl} {ins : List Ty} (ht : Ty.In R (.mk 3 n p ins)) : PureR Tryz.prog 152 [Ty.val (.mk 3 n p ins)].toArray (.bool (okForm 3 n ins.length)) R := by
  have hno := S_none ht
  have hpl := S_plain ht
  have hro := S_row ht
  have hma := fun m => S_many ht m
  cases ht with
  | mk hk hn hl hs hi =>
  refine pureR_of_HC Tryz.func152 rfl rfl fun w => ?_; refine HC_seq fun K1 hK1 => HC_region ?_; refine HL_box (cs := #[_, _, _]) rfl rfl rfl rfl fun r1 => ?_; refine HLm rfl ?_; refine HL_nil (hK1 _ _ _ _ ?_); clear hK1 K1; refine HC_seq fun K2 hK2 => HC_region ?_; refine HL_r rfl rfl rfl rfl (R_loadA (vs := [_, _, _]) rfl (known_L (k := 0) rfl) rfl rfl rfl rfl) ?_; refine HL_callR rfl rfl rfl (enters_of Tryz.func153 (by kernel_rfl) rfl) (hma 1) (fun q hq => Or.inr hq) ?_; refine HLm rfl ?_
  refine HL_case 5 rfl (fun hb3 => ?_) (fun hb3 => ?_) <;> (try simp only [ZZ] at hb3) <;> first | (refine HL_r rfl rfl rfl rfl (R_loadA (vs := [_, _, _]) rfl (known_L (k := 0) rfl) rfl rfl rfl rfl) ?_) | (refine HL_skip rfl rfl rfl ?_)
  all_goals first
    | (refine HL_callR rfl rfl rfl (enters_of Tryz.func154 (by kernel_rfl) rfl) hro (fun q hq => Or.inr hq) ?_)
    | (refine HL_skip rfl rfl rfl ?_)
  all_goals first
    | (refine HL_r rfl rfl rfl rfl (R_pickT rfl rfl) ?_)
    | (refine HL_r rfl rfl rfl rfl (R_pickF rfl rfl) ?_)
  all_goals refine HLm rfl ?_
  all_goals refine HL_nil ?_
  all_goals (
   refine hK2 _ _ _ _ ?_; clear hK2 K2; refine HC_ret ?_; refine HQ_post rfl rfl (.cons (res_tmp rfl) .nil) (fun w1 hs1 => ?_); refine ⟨?_, hs1.keep⟩
   unfold okForm
   simp_all [resVal]
   first | done | rfl | omega | (rw [Bool.eq_iff_iff]; simp only [Bool.and_eq_true, Bool.or_eq_true, decide_eq_true_eq, beq_iff_eq]; omega) | (simp only [decide_eq_true_eq, decide_eq_false_iff_not]; omega)
   skip)
set_option maxRecDepth 10000 in
theorem F_4 {R : List (Nat × Obj)} {n : Int} {p : Pl} {ins : List Ty} (ht : Ty.In R (.mk 4 n p ins)) : PureR Tryz.prog 159 [Ty.val (.mk 4 n p ins)].toArray (.bool (okForm 4 n ins.length)) R := by
  have hno := S_none ht
  have hpl := S_plain ht
  have hro := S_row ht
  have hma := fun m => S_many ht m
  cases ht with
  | mk hk hn hl hs hi =>
  refine pureR_of_HC Tryz.func159 rfl rfl fun w => ?_; refine HC_seq fun K1 hK1 => HC_region ?_; refine HL_box (cs := #[_, _, _]) rfl rfl rfl rfl fun r1 => ?_; refine HLm rfl ?_; refine HL_nil (hK1 _ _ _ _ ?_); clear hK1 K1; refine HC_seq fun K2 hK2 => HC_region ?_; refine HL_r rfl rfl rfl rfl (R_loadA (vs := [_, _, _]) rfl (known_L (k := 0) rfl) rfl rfl rfl rfl) ?_; refine HL_callR rfl rfl rfl (enters_of Tryz.func153 (by kernel_rfl) rfl) (hma 1) (fun q hq => Or.inr hq) ?_; refine HLm rfl ?_
  refine HL_case 5 rfl (fun hb3 => ?_) (fun hb3 => ?_) <;> (try simp only [ZZ] at hb3) <;> first | (refine HL_r rfl rfl rfl rfl (R_loadA (vs := [_, _, _]) rfl (known_L (k := 0) rfl) rfl rfl rfl rfl) ?_) | (refine HL_skip rfl rfl rfl ?_)
  all_goals first
    | (refine HL_callR rfl rfl rfl (enters_of Tryz.func154 (by kernel_rfl) rfl) hro (fun q hq => Or.inr hq) ?_)
    | (refine HL_skip rfl rfl rfl ?_)
  all_goals first
    | (refine HL_r rfl rfl rfl rfl (R_pickT rfl rfl) ?_)
    | (refine HL_r rfl rfl rfl rfl (R_pickF rfl rfl) ?_)
  all_goals refine HLm rfl ?_
  all_goals refine HL_nil ?_
  all_goals (
   refine hK2 _ _ _ _ ?_; clear hK2 K2; refine HC_ret ?_; refine HQ_post rfl rfl (.cons (res_tmp rfl) .nil) (fun w1 hs1 => ?_); refine ⟨?_, hs1.keep⟩
   unfold okForm
   simp_all [resVal]
   first | done | rfl | omega | (rw [Bool.eq_iff_iff]; simp only [Bool.and_eq_true, Bool.or_eq_true, decide_eq_true_eq, beq_iff_eq]; omega) | (simp only [decide_eq_true_eq, decide_eq_false_iff_not]; omega)
   skip)
set_option maxRecDepth 10000 in
theorem F_5 {R : List (Nat × Obj)} {n : Int} {p : Pl} {ins : List Ty} (ht : Ty.In R (.mk 5 n p ins)) : PureR Tryz.prog 161 [Ty.val (.mk 5 n p ins)].toArray (.bool (okForm 5 n ins.length)) R := by
  have hno := S_none ht
  have hpl := S_plain ht
  have hro := S_row ht
  have hma := fun m => S_many ht m
  cases ht with
  | mk hk hn hl hs hi =>
  refine pureR_of_HC Tryz.func161 rfl rfl fun w => ?_; refine HC_seq fun K1 hK1 => HC_region ?_; refine HL_box (cs := #[_, _, _]) rfl rfl rfl rfl fun r1 => ?_; refine HLm rfl ?_; refine HL_nil (hK1 _ _ _ _ ?_); clear hK1 K1; refine HC_seq fun K2 hK2 => HC_region ?_; refine HL_r rfl rfl rfl rfl (R_loadA (vs := [_, _, _]) rfl (known_L (k := 0) rfl) rfl rfl rfl rfl) ?_; refine HL_callR rfl rfl rfl (enters_of Tryz.func140 (by kernel_rfl) rfl) hno (fun q hq => Or.inr hq) ?_; refine HLm rfl ?_
  refine HL_case 5 rfl (fun hb3 => ?_) (fun hb3 => ?_) <;> (try simp only [ZZ] at hb3) <;> first | (refine HL_r rfl rfl rfl rfl (R_loadA (vs := [_, _, _]) rfl (known_L (k := 0) rfl) rfl rfl rfl rfl) ?_) | (refine HL_skip rfl rfl rfl ?_)
  all_goals first
    | (refine HL_callR rfl rfl rfl (enters_of Tryz.func154 (by kernel_rfl) rfl) hro (fun q hq => Or.inr hq) ?_)
    | (refine HL_skip rfl rfl rfl ?_)
  all_goals first
    | (refine HL_r rfl rfl rfl rfl (R_pickT rfl rfl) ?_)
    | (refine HL_r rfl rfl rfl rfl (R_pickF rfl rfl) ?_)
  all_goals refine HLm rfl ?_
  all_goals refine HL_nil ?_
  all_goals (
   refine hK2 _ _ _ _ ?_; clear hK2 K2; refine HC_ret ?_; refine HQ_post rfl rfl (.cons (res_tmp rfl) .nil) (fun w1 hs1 => ?_); refine ⟨?_, hs1.keep⟩
   unfold okForm
   simp_all [resVal]
   skip)
set_option maxRecDepth 10000 in
theorem F_6 {R : List (Nat × Obj)} {n : Int} {p : Pl} {ins : List Ty} (ht : Ty.In R (.mk 6 n p ins)) : PureR Tryz.prog 165 [Ty.val (.mk 6 n p ins)].toArray (.bool (okForm 6 n ins.length)) R := by
  have hno := S_none ht
  have hpl := S_plain ht
  have hro := S_row ht
  have hma := fun m => S_many ht m
  cases ht with
  | mk hk hn hl hs hi =>
  refine pureR_of_HC Tryz.func165 rfl rfl fun w => ?_; refine HC_seq fun K1 hK1 => HC_region ?_; refine HL_box (cs := #[_, _, _]) rfl rfl rfl rfl fun r1 => ?_; refine HLm rfl ?_; refine HL_nil (hK1 _ _ _ _ ?_); clear hK1 K1; refine HC_seq fun K2 hK2 => HC_region ?_; refine HL_r rfl rfl rfl rfl (R_loadA (vs := [_, _, _]) rfl (known_L (k := 0) rfl) rfl rfl rfl rfl) ?_; refine HL_callR rfl rfl rfl (enters_of Tryz.func140 (by kernel_rfl) rfl) hno (fun q hq => Or.inr hq) ?_; refine HLm rfl ?_
  refine HL_case 5 rfl (fun hb3 => ?_) (fun hb3 => ?_) <;> (try simp only [ZZ] at hb3) <;> first | (refine HL_r rfl rfl rfl rfl (R_loadA (vs := [_, _, _]) rfl (known_L (k := 0) rfl) rfl rfl rfl rfl) ?_) | (refine HL_skip rfl rfl rfl ?_)
  all_goals first
    | (refine HL_callR rfl rfl rfl (enters_of Tryz.func154 (by kernel_rfl) rfl) hro (fun q hq => Or.inr hq) ?_)
    | (refine HL_skip rfl rfl rfl ?_)
  all_goals first
    | (refine HL_r rfl rfl rfl rfl (R_pickT rfl rfl) ?_)
    | (refine HL_r rfl rfl rfl rfl (R_pickF rfl rfl) ?_)
  all_goals refine HLm rfl ?_
  all_goals refine HL_nil ?_
  all_goals (
   refine hK2 _ _ _ _ ?_; clear hK2 K2; refine HC_ret ?_; refine HQ_post rfl rfl (.cons (res_tmp rfl) .nil) (fun w1 hs1 => ?_); refine ⟨?_, hs1.keep⟩
   unfold okForm
   simp_all [resVal]
   skip)
set_option maxRecDepth 10000 in
theorem F_7 {R : List (Nat × Obj)} {n : Int} {p : Pl} {ins : List Ty} (ht : Ty.In R (.mk 7 n p ins)) : PureR Tryz.prog 167 [Ty.val (.mk 7 n p ins)].toArray (.bool (okForm 7 n ins.length)) R := by
  have hno := S_none ht
  have hpl := S_plain ht
  have hro := S_row ht
  have hma := fun m => S_many ht m
  cases ht with
  | mk hk hn hl hs hi =>
  refine pureR_of_HC Tryz.func167 rfl rfl fun w => ?_; refine HC_seq fun K1 hK1 => HC_region ?_; refine HL_box (cs := #[_, _, _]) rfl rfl rfl rfl fun r1 => ?_; refine HLm rfl ?_; refine HL_nil (hK1 _ _ _ _ ?_); clear hK1 K1; refine HC_seq fun K2 hK2 => HC_region ?_; refine HL_r rfl rfl rfl rfl (R_loadA (vs := [_, _, _]) rfl (known_L (k := 0) rfl) rfl rfl rfl rfl) ?_; refine HL_callR rfl rfl rfl (enters_of Tryz.func153 (by kernel_rfl) rfl) (hma 16) (fun q hq => Or.inr hq) ?_; refine HLm rfl ?_
  refine HL_case 5 rfl (fun hb3 => ?_) (fun hb3 => ?_) <;> (try simp only [ZZ] at hb3) <;> first | (refine HL_r rfl rfl rfl rfl (R_loadA (vs := [_, _, _]) rfl (known_L (k := 0) rfl) rfl rfl rfl rfl) ?_) | (refine HL_skip rfl rfl rfl ?_)
  all_goals first
    | (refine HL_callR rfl rfl rfl (enters_of Tryz.func147 (by kernel_rfl) rfl) hpl (fun q hq => Or.inr hq) ?_)
    | (refine HL_skip rfl rfl rfl ?_)
  all_goals first
    | (refine HL_r rfl rfl rfl rfl (R_pickT rfl rfl) ?_)
    | (refine HL_r rfl rfl rfl rfl (R_pickF rfl rfl) ?_)
  all_goals refine HLm rfl ?_
  all_goals refine HL_nil ?_
  all_goals (
   refine hK2 _ _ _ _ ?_; clear hK2 K2; refine HC_ret ?_; refine HQ_post rfl rfl (.cons (res_tmp rfl) .nil) (fun w1 hs1 => ?_); refine ⟨?_, hs1.keep⟩
   unfold okForm
   simp_all [resVal]
   first | done | rfl | omega | (rw [Bool.eq_iff_iff]; simp only [Bool.and_eq_true, Bool.or_eq_true, decide_eq_true_eq, beq_iff_eq]; omega) | (simp only [decide_eq_true_eq, decide_eq_false_iff_not]; omega)
   skip)
set_option maxRecDepth 10000 in
theorem F_8 {R : List (Nat × Obj)} {n : Int} {p : Pl} {ins : List Ty} (ht : Ty.In R (.mk 8 n p ins)) : PureR Tryz.prog 170 [Ty.val (.mk 8 n p ins)].toArray (.bool (okForm 8 n ins.length)) R := by
  have hno := S_none ht
  have hpl := S_plain ht
  have hro := S_row ht
  have hma := fun m => S_many ht m
  cases ht with
  | mk hk hn hl hs hi =>
  refine pureR_of_HC Tryz.func170 rfl rfl fun w => ?_; refine HC_seq fun K1 hK1 => HC_region ?_; refine HL_box (cs := #[_, _, _]) rfl rfl rfl rfl fun r1 => ?_; refine HLm rfl ?_; refine HL_nil (hK1 _ _ _ _ ?_); clear hK1 K1; refine HC_seq fun K2 hK2 => HC_region ?_; refine HL_r rfl rfl rfl rfl (R_loadA (vs := [_, _, _]) rfl (known_L (k := 0) rfl) rfl rfl rfl rfl) ?_; refine HL_callR rfl rfl rfl (enters_of Tryz.func153 (by kernel_rfl) rfl) (hma 8) (fun q hq => Or.inr hq) ?_; refine HLm rfl ?_
  refine HL_case 5 rfl (fun hb3 => ?_) (fun hb3 => ?_) <;> (try simp only [ZZ] at hb3) <;> first | (refine HL_r rfl rfl rfl rfl (R_loadA (vs := [_, _, _]) rfl (known_L (k := 0) rfl) rfl rfl rfl rfl) ?_) | (refine HL_skip rfl rfl rfl ?_)
  all_goals first
    | (refine HL_callR rfl rfl rfl (enters_of Tryz.func147 (by kernel_rfl) rfl) hpl (fun q hq => Or.inr hq) ?_)
    | (refine HL_skip rfl rfl rfl ?_)
  all_goals first
    | (refine HL_r rfl rfl rfl rfl (R_pickT rfl rfl) ?_)
    | (refine HL_r rfl rfl rfl rfl (R_pickF rfl rfl) ?_)
  all_goals refine HLm rfl ?_
  all_goals refine HL_nil ?_
  all_goals (
   refine hK2 _ _ _ _ ?_; clear hK2 K2; refine HC_ret ?_; refine HQ_post rfl rfl (.cons (res_tmp rfl) .nil) (fun w1 hs1 => ?_); refine ⟨?_, hs1.keep⟩
   unfold okForm
   simp_all [resVal]
   first | done | rfl | omega | (rw [Bool.eq_iff_iff]; simp only [Bool.and_eq_true, Bool.or_eq_true, decide_eq_true_eq, beq_iff_eq]; omega) | (simp only [decide_eq_true_eq, decide_eq_false_iff_not]; omega)
   skip)
theorem isK_iff {k : Int} : isK k = true ↔ 1 ≤ k ∧ k ≤ 8 := by unfold isK; simp
theorem F_all {R : List (Nat × Obj)} {k n : Int} {p : Pl} {ins : List Ty} (ht : Ty.In R (.mk k n p ins)) (h : isK k = true) : Enters Tryz.prog (formF k) ∧ PureR Tryz.prog (formF k) [Ty.val (.mk k n p ins)].toArray (.bool (okForm k n ins.length)) R := by
  have := isK_iff.1 h
  have : k = 1 ∨ k = 2 ∨ k = 3 ∨ k = 4 ∨ k = 5 ∨ k = 6 ∨ k = 7 ∨ k = 8 := by omega
  rcases this with rfl | rfl | rfl | rfl | rfl | rfl | rfl | rfl
  · exact ⟨enters_of Tryz.func139 (by kernel_rfl) rfl, F_1 ht⟩
  · exact ⟨enters_of Tryz.func146 (by kernel_rfl) rfl, F_2 ht⟩
  · exact ⟨enters_of Tryz.func152 (by kernel_rfl) rfl, F_3 ht⟩
  · exact ⟨enters_of Tryz.func159 (by kernel_rfl) rfl, F_4 ht⟩
  · exact ⟨enters_of Tryz.func161 (by kernel_rfl) rfl, F_5 ht⟩
  · exact ⟨enters_of Tryz.func165 (by kernel_rfl) rfl, F_6 ht⟩
  · exact ⟨enters_of Tryz.func167 (by kernel_rfl) rfl, F_7 ht⟩
  · exact ⟨enters_of Tryz.func170 (by kernel_rfl) rfl, F_8 ht⟩
end Go.Proofs.YtlcbfphioeppaaaGreatDoor
