import Derived.Test.YthfinkklgbiaeaaDoorOd
namespace Go.Proofs.YthfinkklgbiaeaaDoor
set_option linter.all false
open Go.SL Go.RowKit Go.Shelf
theorem eqP_of {p q : List (List UInt8)} (h : p = q) : eqCells (p.map sV) (q.map sV) = true := by
  subst h
  induction p with
  | nil => rfl
  | cons a p ih => simp only [List.map_cons, eqCells, ih, Bool.and_true, sV, eqS]; exact beq_self_eq_true _
theorem eqP_iff {p q : List (List UInt8)} (hl : p.length = q.length) : eqCells (p.map sV) (q.map sV) = decide (p = q) := by
  induction p generalizing q with
  | nil => cases q with
    | nil => rfl
    | cons b q => simp at hl
  | cons a p ih => cases q with
    | nil => simp at hl
    | cons b q =>
      simp only [List.map_cons, eqCells, ih (by simpa using hl), sV, eqS, str_beq]
      rw [Bool.eq_iff_iff]; simp
theorem scalS {P : Program} {e : TypeId} (h : P.underlying e = some .string) (p : List (List UInt8)) : (p.map sV).all (scalB P e) = true := by
  simp [List.all_map, List.all_eq_true, sV, scalB, h]
def fewB (p : List (List UInt8)) : Bool := p.all fun x => decide (x.length ≤ 300)
set_option maxRecDepth 10000 in
theorem P_few {p : List (List UInt8)} (hp : p.length = 3) : Pure Tryd.prog 13 [pV p].toArray (.bool (fewB p)) := by
  obtain ⟨a, b, c, rfl⟩ := three hp
  refine pure_of_HC Tryd.func13 rfl rfl fun w => ?_
  refine HC_seq fun K1 hK1 => ?_
  refine HC_region ?_
  all_goals refine HL_box (cs := #[sV a, sV b, sV c]) rfl rfl rfl rfl fun r1 => ?_
  all_goals refine HL_r rfl rfl rfl rfl (R_assign rfl) ?_
  all_goals refine HL_nil ?_
  all_goals (
    refine HQ_then ?_
    refine hK1 _ _ _ _ ?_; clear hK1 K1
    refine HC_seq fun K2 hK2 => ?_
    refine HC_region ?_
    all_goals refine HL_r rfl rfl rfl rfl (R_indexA (j := 0) rfl rfl rfl rfl rfl (by first | decide | omega) (by first | (simp only [Nat.zero_add, Nat.reduceAdd, Nat.reduceMul, Nat.zero_mul, Nat.mul_one, Nat.add_zero]; exact rfl) | exact rfl)) ?_
    all_goals first
      | (refine HL_r rfl rfl rfl rfl (R_load rfl (known_L (k := 0) rfl) rfl rfl) ?_)
      | (refine HL_r rfl rfl rfl rfl (R_load rfl (known_L (k := 1) rfl) rfl rfl) ?_)
    all_goals first
      | (refine HL_r rfl rfl rfl rfl (R_lenBs rfl rfl) ?_)
      | (refine HL_r rfl rfl rfl rfl (R_lenSl rfl rfl) ?_)
      | (refine HL_r rfl rfl rfl rfl (R_lenStr rfl rfl rfl) ?_)
      | (refine HL_r rfl rfl rfl rfl (R_pure rfl rfl rfl) ?_)
    all_goals refine HL_r rfl rfl rfl rfl (R_pure rfl rfl rfl) ?_
    all_goals refine HL_r rfl rfl rfl rfl (R_move rfl) ?_
    all_goals first
      | (refine HL_r rfl rfl rfl rfl (R_indexA (j := 1) rfl rfl rfl rfl rfl (by first | decide | omega) (by first | (simp only [Nat.zero_add, Nat.reduceAdd, Nat.reduceMul, Nat.zero_mul, Nat.mul_one, Nat.add_zero]; exact rfl) | exact rfl)) ?_)
      | (refine HL_skip rfl rfl rfl ?_)
      | (refine HL_case 7 rfl (fun hb3 => ?_) (fun hb3 => ?_) <;> (try simp only [decide_eq_true_eq, decide_eq_false_iff_not, beq_iff_eq, beq_eq_false_iff_ne, bne_iff_ne, bne_eq_false_iff_eq, Bool.not_eq_true', Bool.not_eq_false', ne_eq, Int.not_lt, Int.not_le, ge_iff_le, gt_iff_lt] at hb3) <;> first | (refine HL_r rfl rfl rfl rfl (R_indexA (j := 1) rfl rfl rfl rfl rfl (by first | decide | omega) (by first | (simp only [Nat.zero_add, Nat.reduceAdd, Nat.reduceMul, Nat.zero_mul, Nat.mul_one, Nat.add_zero]; exact rfl) | exact rfl)) ?_) | (refine HL_skip rfl rfl rfl ?_))
    all_goals first
      | (refine HL_r rfl rfl rfl rfl (R_load rfl (known_L (k := 0) rfl) rfl rfl) ?_)
      | (refine HL_r rfl rfl rfl rfl (R_load rfl (known_L (k := 1) rfl) rfl rfl) ?_)
      | (refine HL_skip rfl rfl rfl ?_)
      | (refine HL_case 7 rfl (fun hb4 => ?_) (fun hb4 => ?_) <;> (try simp only [decide_eq_true_eq, decide_eq_false_iff_not, beq_iff_eq, beq_eq_false_iff_ne, bne_iff_ne, bne_eq_false_iff_eq, Bool.not_eq_true', Bool.not_eq_false', ne_eq, Int.not_lt, Int.not_le, ge_iff_le, gt_iff_lt] at hb4) <;> first | (refine HL_r rfl rfl rfl rfl (R_load rfl (known_L (k := 0) rfl) rfl rfl) ?_) | (refine HL_r rfl rfl rfl rfl (R_load rfl (known_L (k := 1) rfl) rfl rfl) ?_) | (refine HL_skip rfl rfl rfl ?_))
    all_goals first
      | (refine HL_r rfl rfl rfl rfl (R_lenBs rfl rfl) ?_)
      | (refine HL_r rfl rfl rfl rfl (R_lenSl rfl rfl) ?_)
      | (refine HL_r rfl rfl rfl rfl (R_lenStr rfl rfl rfl) ?_)
      | (refine HL_r rfl rfl rfl rfl (R_pure rfl rfl rfl) ?_)
      | (refine HL_skip rfl rfl rfl ?_)
      | (refine HL_case 7 rfl (fun hb5 => ?_) (fun hb5 => ?_) <;> (try simp only [decide_eq_true_eq, decide_eq_false_iff_not, beq_iff_eq, beq_eq_false_iff_ne, bne_iff_ne, bne_eq_false_iff_eq, Bool.not_eq_true', Bool.not_eq_false', ne_eq, Int.not_lt, Int.not_le, ge_iff_le, gt_iff_lt] at hb5) <;> first | (refine HL_r rfl rfl rfl rfl (R_lenBs rfl rfl) ?_) | (refine HL_r rfl rfl rfl rfl (R_lenSl rfl rfl) ?_) | (refine HL_r rfl rfl rfl rfl (R_lenStr rfl rfl rfl) ?_) | (refine HL_r rfl rfl rfl rfl (R_pure rfl rfl rfl) ?_) | (refine HL_skip rfl rfl rfl ?_))
    all_goals first
      | (refine HL_r rfl rfl rfl rfl (R_pure rfl rfl rfl) ?_)
      | (refine HL_skip rfl rfl rfl ?_)
      | (refine HL_case 7 rfl (fun hb6 => ?_) (fun hb6 => ?_) <;> (try simp only [decide_eq_true_eq, decide_eq_false_iff_not, beq_iff_eq, beq_eq_false_iff_ne, bne_iff_ne, bne_eq_false_iff_eq, Bool.not_eq_true', Bool.not_eq_false', ne_eq, Int.not_lt, Int.not_le, ge_iff_le, gt_iff_lt] at hb6) <;> first | (refine HL_r rfl rfl rfl rfl (R_pure rfl rfl rfl) ?_) | (refine HL_skip rfl rfl rfl ?_))
    all_goals first
      | (refine HL_r rfl rfl rfl rfl (R_pickT rfl rfl) ?_)
      | (refine HL_r rfl rfl rfl rfl (R_pickF rfl rfl) ?_)
    all_goals refine HL_r rfl rfl rfl rfl (R_move rfl) ?_
    all_goals first
      | (refine HL_r rfl rfl rfl rfl (R_indexA (j := 2) rfl rfl rfl rfl rfl (by first | decide | omega) (by first | (simp only [Nat.zero_add, Nat.reduceAdd, Nat.reduceMul, Nat.zero_mul, Nat.mul_one, Nat.add_zero]; exact rfl) | exact rfl)) ?_)
      | (refine HL_skip rfl rfl rfl ?_)
      | (refine HL_case 13 rfl (fun hb7 => ?_) (fun hb7 => ?_) <;> (try simp only [decide_eq_true_eq, decide_eq_false_iff_not, beq_iff_eq, beq_eq_false_iff_ne, bne_iff_ne, bne_eq_false_iff_eq, Bool.not_eq_true', Bool.not_eq_false', ne_eq, Int.not_lt, Int.not_le, ge_iff_le, gt_iff_lt] at hb7) <;> first | (refine HL_r rfl rfl rfl rfl (R_indexA (j := 2) rfl rfl rfl rfl rfl (by first | decide | omega) (by first | (simp only [Nat.zero_add, Nat.reduceAdd, Nat.reduceMul, Nat.zero_mul, Nat.mul_one, Nat.add_zero]; exact rfl) | exact rfl)) ?_) | (refine HL_skip rfl rfl rfl ?_))
    all_goals first
      | (refine HL_r rfl rfl rfl rfl (R_load rfl (known_L (k := 0) rfl) rfl rfl) ?_)
      | (refine HL_r rfl rfl rfl rfl (R_load rfl (known_L (k := 1) rfl) rfl rfl) ?_)
      | (refine HL_skip rfl rfl rfl ?_)
      | (refine HL_case 13 rfl (fun hb8 => ?_) (fun hb8 => ?_) <;> (try simp only [decide_eq_true_eq, decide_eq_false_iff_not, beq_iff_eq, beq_eq_false_iff_ne, bne_iff_ne, bne_eq_false_iff_eq, Bool.not_eq_true', Bool.not_eq_false', ne_eq, Int.not_lt, Int.not_le, ge_iff_le, gt_iff_lt] at hb8) <;> first | (refine HL_r rfl rfl rfl rfl (R_load rfl (known_L (k := 0) rfl) rfl rfl) ?_) | (refine HL_r rfl rfl rfl rfl (R_load rfl (known_L (k := 1) rfl) rfl rfl) ?_) | (refine HL_skip rfl rfl rfl ?_))
    all_goals first
      | (refine HL_r rfl rfl rfl rfl (R_lenBs rfl rfl) ?_)
      | (refine HL_r rfl rfl rfl rfl (R_lenSl rfl rfl) ?_)
      | (refine HL_r rfl rfl rfl rfl (R_lenStr rfl rfl rfl) ?_)
      | (refine HL_r rfl rfl rfl rfl (R_pure rfl rfl rfl) ?_)
      | (refine HL_skip rfl rfl rfl ?_)
      | (refine HL_case 13 rfl (fun hb9 => ?_) (fun hb9 => ?_) <;> (try simp only [decide_eq_true_eq, decide_eq_false_iff_not, beq_iff_eq, beq_eq_false_iff_ne, bne_iff_ne, bne_eq_false_iff_eq, Bool.not_eq_true', Bool.not_eq_false', ne_eq, Int.not_lt, Int.not_le, ge_iff_le, gt_iff_lt] at hb9) <;> first | (refine HL_r rfl rfl rfl rfl (R_lenBs rfl rfl) ?_) | (refine HL_r rfl rfl rfl rfl (R_lenSl rfl rfl) ?_) | (refine HL_r rfl rfl rfl rfl (R_lenStr rfl rfl rfl) ?_) | (refine HL_r rfl rfl rfl rfl (R_pure rfl rfl rfl) ?_) | (refine HL_skip rfl rfl rfl ?_))
    all_goals first
      | (refine HL_r rfl rfl rfl rfl (R_pure rfl rfl rfl) ?_)
      | (refine HL_skip rfl rfl rfl ?_)
      | (refine HL_case 13 rfl (fun hb10 => ?_) (fun hb10 => ?_) <;> (try simp only [decide_eq_true_eq, decide_eq_false_iff_not, beq_iff_eq, beq_eq_false_iff_ne, bne_iff_ne, bne_eq_false_iff_eq, Bool.not_eq_true', Bool.not_eq_false', ne_eq, Int.not_lt, Int.not_le, ge_iff_le, gt_iff_lt] at hb10) <;> first | (refine HL_r rfl rfl rfl rfl (R_pure rfl rfl rfl) ?_) | (refine HL_skip rfl rfl rfl ?_))
    all_goals first
      | (refine HL_r rfl rfl rfl rfl (R_pickT rfl rfl) ?_)
      | (refine HL_r rfl rfl rfl rfl (R_pickF rfl rfl) ?_)
    all_goals refine HL_r rfl rfl rfl rfl (R_assign rfl) ?_
    all_goals refine HL_nil ?_
    all_goals (
      refine HQ_then ?_
      refine hK2 _ _ _ _ ?_; clear hK2 K2
      refine HC_ret ?_
      refine HQ_post rfl rfl (.cons (res_tmp rfl) .nil) (fun w1 hs1 => ?_)
      refine ⟨?_, hs1.keep⟩
      simp only [resVal, fewB, List.all_cons, List.all_nil, Bool.and_true]
      rw [show ∀ x y : Bool, (Ending.returned (Value.bool x) = Ending.returned (Value.bool y)) = (x = y) from fun x y => by simp]
      rw [Bool.eq_iff_iff]
      simp only [Bool.and_eq_true, decide_eq_true_eq, Bool.false_eq_true, false_iff]
      omega
      skip)
    skip)
theorem bool_eq' {a b : Bool} (h : a = b) : Value.bool a = Value.bool b := by rw [h]
def zz : List UInt8 := List.replicate 32 0
def P3 : List (List UInt8) := [zz, zz, zz]
theorem o_a : (putR 0 P3 0).2 = 0 := by decide +kernel
theorem o_b : (putR 1 P3 9).2 = 0 := by decide +kernel
theorem o_c : putR 0 P3 1 = ([], 2) := by decide +kernel
theorem o_d : putR 2 P3 0 = ([], 9) := by decide +kernel
theorem o_e : getR ((putR 0 P3 0).1 ++ [120]) = (0, [[], [], []], 0, 4) := by decide +kernel
theorem o_f : getR [] = (0, [[], [], []], 0, 3) := by decide +kernel
set_option maxRecDepth 10000 in
theorem P_works21 : Pure Tryd.prog 12 [].toArray (.bool true) := by
  refine pure_of_HC Tryd.func12 rfl rfl fun w => ?_
  obtain ⟨p, hpp⟩ : ∃ p, p = P3 := ⟨_, rfl⟩
  have hp : p.length = 3 := by rw [hpp]; rfl
  obtain ⟨h, hh⟩ : ∃ h, h = zz := ⟨_, rfl⟩
  have hhl : h.length = 32 := by rw [hh]; rfl
  have hhp : p = [h, h, h] := by rw [hpp, hh]; rfl
  obtain ⟨S, hS⟩ : ∃ S, S = (putR 0 p 0).1 := ⟨_, rfl⟩
  have hS0 : putR 0 p 0 = (S, 0) := by rw [hS]; exact Prod.ext rfl (by rw [hpp]; exact o_a)
  obtain ⟨T, hT⟩ : ∃ T, T = (putR 1 p 9).1 := ⟨_, rfl⟩
  have hT0 : putR 1 p 9 = (T, 0) := by rw [hT]; exact Prod.ext rfl (by rw [hpp]; exact o_b)
  obtain ⟨hgS, hSl⟩ := get_put hp (by decide) hS0
  obtain ⟨hgT, hTl⟩ := get_put hp (by decide) hT0
  have hSl : S.length = 128 := hSl
  have hTl : T.length = 136 := hTl
  have hgT : getR T = (1, p, 9, 0) := hgT
  have hr0 : rootR 0 p 0 = (kec S, 0) := by unfold rootR; rw [hS0, if_pos rfl]
  have hc : putR 0 p 1 = ([], 2) := by rw [hpp]; exact o_c
  have hd : putR 2 p 0 = ([], 9) := by rw [hpp]; exact o_d
  have he : getR (S ++ [120]) = (0, [[], [], []], 0, 4) := by rw [hS, hpp]; exact o_e
  have hz : List.replicate 32 (Value.int .u8 0) = h.map bV := by rw [hh]; rfl
  refine HC_seq fun K1 hK1 => ?_
  refine HC_region ?_
  all_goals refine HL_r rfl rfl rfl rfl (R_assign rfl) ?_
  all_goals refine HL_nil ?_
  all_goals (
    refine HQ_then ?_
    refine hK1 _ _ _ _ ?_; clear hK1 K1
    refine HC_seq fun K2 hK2 => ?_
    refine HC_region ?_
    all_goals refine HL_make (n := 32) (b := 1) rfl rfl rfl rfl rfl rfl rfl rfl rfl (by decide) (by decide) fun r1 => ?_; rw [hz]
    all_goals refine HL_r rfl rfl rfl rfl (R_bytesStr (b := h) (row := some (r1, 32, [])) (e := 5) (show _ = some (rowV h.length (some (r1, 32, []))) from by rw [hhl]; rfl) ⟨by simp, by simp [hhl]⟩ (fun p hp => .inl (by rw [List.mem_singleton.1 hp]; simp)) rfl rfl rfl) ?_
    all_goals refine HL_r rfl rfl rfl rfl (R_assign rfl) ?_
    all_goals refine HL_nil ?_
    all_goals (
      refine HQ_then ?_
      refine hK2 _ _ _ _ ?_; clear hK2 K2
      refine HC_seq fun K3 hK3 => ?_
      refine HC_region ?_
      all_goals refine HL_r rfl rfl rfl rfl (R_move rfl) ?_
      all_goals refine HL_r rfl rfl rfl rfl (R_move rfl) ?_
      all_goals refine HL_r rfl rfl rfl rfl (R_move rfl) ?_
      all_goals refine HL_r rfl rfl rfl rfl (R_build (r := [sV h, sV h, sV h]) rfl rfl) ?_; refine HL_as (show _ = pV p from by rw [hhp]; rfl) ?_
      all_goals refine HL_alloc (cs := (([[], [], []] : List (List UInt8)).map sV).toArray) rfl rfl rfl rfl fun r2 => ?_
      all_goals first
        | (refine HL_storeArr (k := 0) (n := 3) rfl rfl rfl rfl rfl (by first | (with_reducible (rw [List.length_map]; first | exact hp | exact hq | exact hP3 | exact getR_p3 _)) | exact rfl) (by first | (with_reducible (rw [List.length_map]; first | exact hp | exact hq | exact hP3 | exact getR_p3 _)) | exact rfl) (by first | exact mapS_one _ | rfl) rfl ?_)
        | (refine HL_storeArr (k := 1) (n := 3) rfl rfl rfl rfl rfl (by first | (with_reducible (rw [List.length_map]; first | exact hp | exact hq | exact hP3 | exact getR_p3 _)) | exact rfl) (by first | (with_reducible (rw [List.length_map]; first | exact hp | exact hq | exact hP3 | exact getR_p3 _)) | exact rfl) (by first | exact mapS_one _ | rfl) rfl ?_)
        | (refine HL_storeArr (k := 2) (n := 3) rfl rfl rfl rfl rfl (by first | (with_reducible (rw [List.length_map]; first | exact hp | exact hq | exact hP3 | exact getR_p3 _)) | exact rfl) (by first | (with_reducible (rw [List.length_map]; first | exact hp | exact hq | exact hP3 | exact getR_p3 _)) | exact rfl) (by first | exact mapS_one _ | rfl) rfl ?_)
        | (refine HL_storeArr (k := 3) (n := 3) rfl rfl rfl rfl rfl (by first | (with_reducible (rw [List.length_map]; first | exact hp | exact hq | exact hP3 | exact getR_p3 _)) | exact rfl) (by first | (with_reducible (rw [List.length_map]; first | exact hp | exact hq | exact hP3 | exact getR_p3 _)) | exact rfl) (by first | exact mapS_one _ | rfl) rfl ?_)
        | (refine HL_storeArr (k := 4) (n := 3) rfl rfl rfl rfl rfl (by first | (with_reducible (rw [List.length_map]; first | exact hp | exact hq | exact hP3 | exact getR_p3 _)) | exact rfl) (by first | (with_reducible (rw [List.length_map]; first | exact hp | exact hq | exact hP3 | exact getR_p3 _)) | exact rfl) (by first | exact mapS_one _ | rfl) rfl ?_)
        | (refine HL_storeArr (k := 5) (n := 3) rfl rfl rfl rfl rfl (by first | (with_reducible (rw [List.length_map]; first | exact hp | exact hq | exact hP3 | exact getR_p3 _)) | exact rfl) (by first | (with_reducible (rw [List.length_map]; first | exact hp | exact hq | exact hP3 | exact getR_p3 _)) | exact rfl) (by first | exact mapS_one _ | rfl) rfl ?_)
        | (refine HL_storeArr (k := 6) (n := 3) rfl rfl rfl rfl rfl (by first | (with_reducible (rw [List.length_map]; first | exact hp | exact hq | exact hP3 | exact getR_p3 _)) | exact rfl) (by first | (with_reducible (rw [List.length_map]; first | exact hp | exact hq | exact hP3 | exact getR_p3 _)) | exact rfl) (by first | exact mapS_one _ | rfl) rfl ?_)
      all_goals refine HL_nil ?_
      all_goals (
        refine HQ_then ?_
        refine hK3 _ _ _ _ ?_; clear hK3 K3
        refine HC_seq fun K4 hK4 => ?_
        refine HC_region ?_
        all_goals first
          | (refine HL_r rfl rfl rfl rfl (R_loadArr (n := 3) rfl (known_L (k := 0) rfl) rfl rfl (by first | (with_reducible (rw [List.length_map]; first | exact hp | exact hq | exact hP3 | exact getR_p3 _)) | exact rfl)) ?_)
          | (refine HL_r rfl rfl rfl rfl (R_loadArr (n := 3) rfl (known_L (k := 1) rfl) rfl rfl (by first | (with_reducible (rw [List.length_map]; first | exact hp | exact hq | exact hP3 | exact getR_p3 _)) | exact rfl)) ?_)
          | (refine HL_r rfl rfl rfl rfl (R_loadArr (n := 3) rfl (known_L (k := 2) rfl) rfl rfl (by first | (with_reducible (rw [List.length_map]; first | exact hp | exact hq | exact hP3 | exact getR_p3 _)) | exact rfl)) ?_)
          | (refine HL_r rfl rfl rfl rfl (R_loadArr (n := 3) rfl (known_L (k := 3) rfl) rfl rfl (by first | (with_reducible (rw [List.length_map]; first | exact hp | exact hq | exact hP3 | exact getR_p3 _)) | exact rfl)) ?_)
          | (refine HL_r rfl rfl rfl rfl (R_loadArr (n := 3) rfl (known_L (k := 4) rfl) rfl rfl (by first | (with_reducible (rw [List.length_map]; first | exact hp | exact hq | exact hP3 | exact getR_p3 _)) | exact rfl)) ?_)
          | (refine HL_r rfl rfl rfl rfl (R_loadArr (n := 3) rfl (known_L (k := 5) rfl) rfl rfl (by first | (with_reducible (rw [List.length_map]; first | exact hp | exact hq | exact hP3 | exact getR_p3 _)) | exact rfl)) ?_)
          | (refine HL_r rfl rfl rfl rfl (R_loadArr (n := 3) rfl (known_L (k := 6) rfl) rfl rfl (by first | (with_reducible (rw [List.length_map]; first | exact hp | exact hq | exact hP3 | exact getR_p3 _)) | exact rfl)) ?_)
        all_goals refine HL_callP rfl rfl rfl (enters_of Tryd.func14 (by kernel_rfl) rfl) (P_out_Put hp (n := 0) (by decide) 0) ?_; refine HL_as (congrArg resS hS0) ?_
        all_goals refine HL_r rfl rfl rfl rfl (R_move rfl) ?_
        all_goals refine HL_r rfl rfl rfl rfl (R_extract rfl rfl) ?_
        all_goals refine HL_r rfl rfl rfl rfl (R_extract rfl rfl) ?_
        all_goals refine HL_r rfl rfl rfl rfl (R_assign rfl) ?_
        all_goals refine HL_r rfl rfl rfl rfl (R_assign rfl) ?_
        all_goals refine HL_nil ?_
        all_goals (
          refine HQ_then ?_
          refine hK4 _ _ _ _ ?_; clear hK4 K4
          refine HC_seq fun K5 hK5 => ?_
          refine HC_region ?_
          all_goals first
            | (refine HL_r rfl rfl rfl rfl (R_loadArr (n := 3) rfl (known_L (k := 0) rfl) rfl rfl (by first | (with_reducible (rw [List.length_map]; first | exact hp | exact hq | exact hP3 | exact getR_p3 _)) | exact rfl)) ?_)
            | (refine HL_r rfl rfl rfl rfl (R_loadArr (n := 3) rfl (known_L (k := 1) rfl) rfl rfl (by first | (with_reducible (rw [List.length_map]; first | exact hp | exact hq | exact hP3 | exact getR_p3 _)) | exact rfl)) ?_)
            | (refine HL_r rfl rfl rfl rfl (R_loadArr (n := 3) rfl (known_L (k := 2) rfl) rfl rfl (by first | (with_reducible (rw [List.length_map]; first | exact hp | exact hq | exact hP3 | exact getR_p3 _)) | exact rfl)) ?_)
            | (refine HL_r rfl rfl rfl rfl (R_loadArr (n := 3) rfl (known_L (k := 3) rfl) rfl rfl (by first | (with_reducible (rw [List.length_map]; first | exact hp | exact hq | exact hP3 | exact getR_p3 _)) | exact rfl)) ?_)
            | (refine HL_r rfl rfl rfl rfl (R_loadArr (n := 3) rfl (known_L (k := 4) rfl) rfl rfl (by first | (with_reducible (rw [List.length_map]; first | exact hp | exact hq | exact hP3 | exact getR_p3 _)) | exact rfl)) ?_)
            | (refine HL_r rfl rfl rfl rfl (R_loadArr (n := 3) rfl (known_L (k := 5) rfl) rfl rfl (by first | (with_reducible (rw [List.length_map]; first | exact hp | exact hq | exact hP3 | exact getR_p3 _)) | exact rfl)) ?_)
            | (refine HL_r rfl rfl rfl rfl (R_loadArr (n := 3) rfl (known_L (k := 6) rfl) rfl rfl (by first | (with_reducible (rw [List.length_map]; first | exact hp | exact hq | exact hP3 | exact getR_p3 _)) | exact rfl)) ?_)
          all_goals refine HL_callP rfl rfl rfl (enters_of Tryd.func14 (by kernel_rfl) rfl) (P_out_Put hp (n := 9) (by decide) 1) ?_; refine HL_as (congrArg resS hT0) ?_
          all_goals refine HL_r rfl rfl rfl rfl (R_move rfl) ?_
          all_goals refine HL_r rfl rfl rfl rfl (R_extract rfl rfl) ?_
          all_goals refine HL_r rfl rfl rfl rfl (R_extract rfl rfl) ?_
          all_goals refine HL_r rfl rfl rfl rfl (R_assign rfl) ?_
          all_goals refine HL_r rfl rfl rfl rfl (R_assign rfl) ?_
          all_goals refine HL_nil ?_
          all_goals (
            refine HQ_then ?_
            refine hK5 _ _ _ _ ?_; clear hK5 K5
            refine HC_seq fun K6 hK6 => ?_
            refine HC_region ?_
            all_goals refine HL_r rfl rfl rfl rfl (R_move rfl) ?_
            all_goals refine HL_callP rfl rfl rfl (enters_of Tryd.func18 (by kernel_rfl) rfl) (P_out_Get (s := T) (by omega)) ?_; refine HL_as (congrArg resG hgT) ?_
            all_goals refine HL_r rfl rfl rfl rfl (R_move rfl) ?_
            all_goals refine HL_r rfl rfl rfl rfl (R_extract rfl rfl) ?_
            all_goals refine HL_r rfl rfl rfl rfl (R_extract rfl rfl) ?_
            all_goals refine HL_r rfl rfl rfl rfl (R_extract rfl rfl) ?_
            all_goals refine HL_r rfl rfl rfl rfl (R_extract rfl rfl) ?_
            all_goals refine HL_alloc (cs := #[_, _, _]) rfl rfl rfl rfl fun r1 => ?_
            all_goals refine HL_r rfl rfl rfl rfl (R_assign rfl) ?_
            all_goals first
              | (refine HL_storeArr (k := 0) (n := 3) rfl rfl rfl rfl rfl (by first | (with_reducible (rw [List.length_map]; first | exact hp | exact hq | exact hP3 | exact getR_p3 _)) | exact rfl) (by first | (with_reducible (rw [List.length_map]; first | exact hp | exact hq | exact hP3 | exact getR_p3 _)) | exact rfl) (by first | exact mapS_one _ | rfl) rfl ?_)
              | (refine HL_storeArr (k := 1) (n := 3) rfl rfl rfl rfl rfl (by first | (with_reducible (rw [List.length_map]; first | exact hp | exact hq | exact hP3 | exact getR_p3 _)) | exact rfl) (by first | (with_reducible (rw [List.length_map]; first | exact hp | exact hq | exact hP3 | exact getR_p3 _)) | exact rfl) (by first | exact mapS_one _ | rfl) rfl ?_)
              | (refine HL_storeArr (k := 2) (n := 3) rfl rfl rfl rfl rfl (by first | (with_reducible (rw [List.length_map]; first | exact hp | exact hq | exact hP3 | exact getR_p3 _)) | exact rfl) (by first | (with_reducible (rw [List.length_map]; first | exact hp | exact hq | exact hP3 | exact getR_p3 _)) | exact rfl) (by first | exact mapS_one _ | rfl) rfl ?_)
              | (refine HL_storeArr (k := 3) (n := 3) rfl rfl rfl rfl rfl (by first | (with_reducible (rw [List.length_map]; first | exact hp | exact hq | exact hP3 | exact getR_p3 _)) | exact rfl) (by first | (with_reducible (rw [List.length_map]; first | exact hp | exact hq | exact hP3 | exact getR_p3 _)) | exact rfl) (by first | exact mapS_one _ | rfl) rfl ?_)
              | (refine HL_storeArr (k := 4) (n := 3) rfl rfl rfl rfl rfl (by first | (with_reducible (rw [List.length_map]; first | exact hp | exact hq | exact hP3 | exact getR_p3 _)) | exact rfl) (by first | (with_reducible (rw [List.length_map]; first | exact hp | exact hq | exact hP3 | exact getR_p3 _)) | exact rfl) (by first | exact mapS_one _ | rfl) rfl ?_)
              | (refine HL_storeArr (k := 5) (n := 3) rfl rfl rfl rfl rfl (by first | (with_reducible (rw [List.length_map]; first | exact hp | exact hq | exact hP3 | exact getR_p3 _)) | exact rfl) (by first | (with_reducible (rw [List.length_map]; first | exact hp | exact hq | exact hP3 | exact getR_p3 _)) | exact rfl) (by first | exact mapS_one _ | rfl) rfl ?_)
              | (refine HL_storeArr (k := 6) (n := 3) rfl rfl rfl rfl rfl (by first | (with_reducible (rw [List.length_map]; first | exact hp | exact hq | exact hP3 | exact getR_p3 _)) | exact rfl) (by first | (with_reducible (rw [List.length_map]; first | exact hp | exact hq | exact hP3 | exact getR_p3 _)) | exact rfl) (by first | exact mapS_one _ | rfl) rfl ?_)
            all_goals refine HL_r rfl rfl rfl rfl (R_assign rfl) ?_
            all_goals refine HL_r rfl rfl rfl rfl (R_assign rfl) ?_
            all_goals refine HL_nil ?_
            all_goals (
              refine HQ_then ?_
              refine hK6 _ _ _ _ ?_; clear hK6 K6
              refine HC_seq fun K7 hK7 => ?_
              refine HC_region ?_
              all_goals first
                | (refine HL_r rfl rfl rfl rfl (R_loadArr (n := 3) rfl (known_L (k := 0) rfl) rfl rfl (by first | (with_reducible (rw [List.length_map]; first | exact hp | exact hq | exact hP3 | exact getR_p3 _)) | exact rfl)) ?_)
                | (refine HL_r rfl rfl rfl rfl (R_loadArr (n := 3) rfl (known_L (k := 1) rfl) rfl rfl (by first | (with_reducible (rw [List.length_map]; first | exact hp | exact hq | exact hP3 | exact getR_p3 _)) | exact rfl)) ?_)
                | (refine HL_r rfl rfl rfl rfl (R_loadArr (n := 3) rfl (known_L (k := 2) rfl) rfl rfl (by first | (with_reducible (rw [List.length_map]; first | exact hp | exact hq | exact hP3 | exact getR_p3 _)) | exact rfl)) ?_)
                | (refine HL_r rfl rfl rfl rfl (R_loadArr (n := 3) rfl (known_L (k := 3) rfl) rfl rfl (by first | (with_reducible (rw [List.length_map]; first | exact hp | exact hq | exact hP3 | exact getR_p3 _)) | exact rfl)) ?_)
                | (refine HL_r rfl rfl rfl rfl (R_loadArr (n := 3) rfl (known_L (k := 4) rfl) rfl rfl (by first | (with_reducible (rw [List.length_map]; first | exact hp | exact hq | exact hP3 | exact getR_p3 _)) | exact rfl)) ?_)
                | (refine HL_r rfl rfl rfl rfl (R_loadArr (n := 3) rfl (known_L (k := 5) rfl) rfl rfl (by first | (with_reducible (rw [List.length_map]; first | exact hp | exact hq | exact hP3 | exact getR_p3 _)) | exact rfl)) ?_)
                | (refine HL_r rfl rfl rfl rfl (R_loadArr (n := 3) rfl (known_L (k := 6) rfl) rfl rfl (by first | (with_reducible (rw [List.length_map]; first | exact hp | exact hq | exact hP3 | exact getR_p3 _)) | exact rfl)) ?_)
              all_goals refine HL_callP rfl rfl rfl (enters_of Tryd.func16 (by kernel_rfl) rfl) (P_out_Root hp (n := 0) (by decide) 0) ?_; refine HL_as (congrArg resS hr0) ?_
              all_goals refine HL_r rfl rfl rfl rfl (R_move rfl) ?_
              all_goals refine HL_r rfl rfl rfl rfl (R_extract rfl rfl) ?_
              all_goals refine HL_r rfl rfl rfl rfl (R_extract rfl rfl) ?_
              all_goals refine HL_r rfl rfl rfl rfl (R_assign rfl) ?_
              all_goals refine HL_r rfl rfl rfl rfl (R_assign rfl) ?_
              all_goals refine HL_nil ?_
              all_goals (
                refine HQ_then ?_
                refine hK7 _ _ _ _ ?_; clear hK7 K7
                refine HC_seq fun K8 hK8 => ?_
                refine HC_region ?_
                all_goals first
                  | (refine HL_r rfl rfl rfl rfl (R_loadArr (n := 3) rfl (known_L (k := 0) rfl) rfl rfl (by first | (with_reducible (rw [List.length_map]; first | exact hp | exact hq | exact hP3 | exact getR_p3 _)) | exact rfl)) ?_)
                  | (refine HL_r rfl rfl rfl rfl (R_loadArr (n := 3) rfl (known_L (k := 1) rfl) rfl rfl (by first | (with_reducible (rw [List.length_map]; first | exact hp | exact hq | exact hP3 | exact getR_p3 _)) | exact rfl)) ?_)
                  | (refine HL_r rfl rfl rfl rfl (R_loadArr (n := 3) rfl (known_L (k := 2) rfl) rfl rfl (by first | (with_reducible (rw [List.length_map]; first | exact hp | exact hq | exact hP3 | exact getR_p3 _)) | exact rfl)) ?_)
                  | (refine HL_r rfl rfl rfl rfl (R_loadArr (n := 3) rfl (known_L (k := 3) rfl) rfl rfl (by first | (with_reducible (rw [List.length_map]; first | exact hp | exact hq | exact hP3 | exact getR_p3 _)) | exact rfl)) ?_)
                  | (refine HL_r rfl rfl rfl rfl (R_loadArr (n := 3) rfl (known_L (k := 4) rfl) rfl rfl (by first | (with_reducible (rw [List.length_map]; first | exact hp | exact hq | exact hP3 | exact getR_p3 _)) | exact rfl)) ?_)
                  | (refine HL_r rfl rfl rfl rfl (R_loadArr (n := 3) rfl (known_L (k := 5) rfl) rfl rfl (by first | (with_reducible (rw [List.length_map]; first | exact hp | exact hq | exact hP3 | exact getR_p3 _)) | exact rfl)) ?_)
                  | (refine HL_r rfl rfl rfl rfl (R_loadArr (n := 3) rfl (known_L (k := 6) rfl) rfl rfl (by first | (with_reducible (rw [List.length_map]; first | exact hp | exact hq | exact hP3 | exact getR_p3 _)) | exact rfl)) ?_)
                all_goals refine HL_callP rfl rfl rfl (enters_of Tryd.func14 (by kernel_rfl) rfl) (P_out_Put hp (n := 1) (by decide) 0) ?_; refine HL_as (congrArg resS hc) ?_
                all_goals refine HL_r rfl rfl rfl rfl (R_move rfl) ?_
                all_goals refine HL_r rfl rfl rfl rfl (R_extract rfl rfl) ?_
                all_goals refine HL_r rfl rfl rfl rfl (R_extract rfl rfl) ?_
                all_goals refine HL_r rfl rfl rfl rfl (R_assign rfl) ?_
                all_goals refine HL_r rfl rfl rfl rfl (R_assign rfl) ?_
                all_goals refine HL_nil ?_
                all_goals (
                  refine HQ_then ?_
                  refine hK8 _ _ _ _ ?_; clear hK8 K8
                  refine HC_seq fun K9 hK9 => ?_
                  refine HC_region ?_
                  all_goals first
                    | (refine HL_r rfl rfl rfl rfl (R_loadArr (n := 3) rfl (known_L (k := 0) rfl) rfl rfl (by first | (with_reducible (rw [List.length_map]; first | exact hp | exact hq | exact hP3 | exact getR_p3 _)) | exact rfl)) ?_)
                    | (refine HL_r rfl rfl rfl rfl (R_loadArr (n := 3) rfl (known_L (k := 1) rfl) rfl rfl (by first | (with_reducible (rw [List.length_map]; first | exact hp | exact hq | exact hP3 | exact getR_p3 _)) | exact rfl)) ?_)
                    | (refine HL_r rfl rfl rfl rfl (R_loadArr (n := 3) rfl (known_L (k := 2) rfl) rfl rfl (by first | (with_reducible (rw [List.length_map]; first | exact hp | exact hq | exact hP3 | exact getR_p3 _)) | exact rfl)) ?_)
                    | (refine HL_r rfl rfl rfl rfl (R_loadArr (n := 3) rfl (known_L (k := 3) rfl) rfl rfl (by first | (with_reducible (rw [List.length_map]; first | exact hp | exact hq | exact hP3 | exact getR_p3 _)) | exact rfl)) ?_)
                    | (refine HL_r rfl rfl rfl rfl (R_loadArr (n := 3) rfl (known_L (k := 4) rfl) rfl rfl (by first | (with_reducible (rw [List.length_map]; first | exact hp | exact hq | exact hP3 | exact getR_p3 _)) | exact rfl)) ?_)
                    | (refine HL_r rfl rfl rfl rfl (R_loadArr (n := 3) rfl (known_L (k := 5) rfl) rfl rfl (by first | (with_reducible (rw [List.length_map]; first | exact hp | exact hq | exact hP3 | exact getR_p3 _)) | exact rfl)) ?_)
                    | (refine HL_r rfl rfl rfl rfl (R_loadArr (n := 3) rfl (known_L (k := 6) rfl) rfl rfl (by first | (with_reducible (rw [List.length_map]; first | exact hp | exact hq | exact hP3 | exact getR_p3 _)) | exact rfl)) ?_)
                  all_goals refine HL_callP rfl rfl rfl (enters_of Tryd.func14 (by kernel_rfl) rfl) (P_out_Put hp (n := 0) (by decide) 2) ?_; refine HL_as (congrArg resS hd) ?_
                  all_goals refine HL_r rfl rfl rfl rfl (R_move rfl) ?_
                  all_goals refine HL_r rfl rfl rfl rfl (R_extract rfl rfl) ?_
                  all_goals refine HL_r rfl rfl rfl rfl (R_extract rfl rfl) ?_
                  all_goals refine HL_r rfl rfl rfl rfl (R_assign rfl) ?_
                  all_goals refine HL_r rfl rfl rfl rfl (R_assign rfl) ?_
                  all_goals refine HL_nil ?_
                  all_goals (
                    refine HQ_then ?_
                    refine hK9 _ _ _ _ ?_; clear hK9 K9
                    refine HC_seq fun K10 hK10 => ?_
                    refine HC_region ?_
                    all_goals refine HL_r rfl rfl rfl rfl (R_move rfl) ?_
                    all_goals refine HL_r rfl rfl rfl rfl (R_concat (b := [120]) rfl rfl (by rw [hSl]; decide)) ?_
                    all_goals refine HL_callP rfl rfl rfl (enters_of Tryd.func18 (by kernel_rfl) rfl) (P_out_Get (s := S ++ [120]) (by rw [List.length_append, hSl]; decide)) ?_; refine HL_as (congrArg resG he) ?_
                    all_goals refine HL_r rfl rfl rfl rfl (R_move rfl) ?_
                    all_goals refine HL_r rfl rfl rfl rfl (R_extract rfl rfl) ?_
                    all_goals refine HL_r rfl rfl rfl rfl (R_extract rfl rfl) ?_
                    all_goals refine HL_r rfl rfl rfl rfl (R_extract rfl rfl) ?_
                    all_goals refine HL_r rfl rfl rfl rfl (R_extract rfl rfl) ?_
                    all_goals refine HL_alloc (cs := #[_, _, _]) rfl rfl rfl rfl fun r2 => ?_
                    all_goals refine HL_r rfl rfl rfl rfl (R_assign rfl) ?_
                    all_goals first
                      | (refine HL_storeArr (k := 0) (n := 3) rfl rfl rfl rfl rfl (by first | (with_reducible (rw [List.length_map]; first | exact hp | exact hq | exact hP3 | exact getR_p3 _)) | exact rfl) (by first | (with_reducible (rw [List.length_map]; first | exact hp | exact hq | exact hP3 | exact getR_p3 _)) | exact rfl) (by first | exact mapS_one _ | rfl) rfl ?_)
                      | (refine HL_storeArr (k := 1) (n := 3) rfl rfl rfl rfl rfl (by first | (with_reducible (rw [List.length_map]; first | exact hp | exact hq | exact hP3 | exact getR_p3 _)) | exact rfl) (by first | (with_reducible (rw [List.length_map]; first | exact hp | exact hq | exact hP3 | exact getR_p3 _)) | exact rfl) (by first | exact mapS_one _ | rfl) rfl ?_)
                      | (refine HL_storeArr (k := 2) (n := 3) rfl rfl rfl rfl rfl (by first | (with_reducible (rw [List.length_map]; first | exact hp | exact hq | exact hP3 | exact getR_p3 _)) | exact rfl) (by first | (with_reducible (rw [List.length_map]; first | exact hp | exact hq | exact hP3 | exact getR_p3 _)) | exact rfl) (by first | exact mapS_one _ | rfl) rfl ?_)
                      | (refine HL_storeArr (k := 3) (n := 3) rfl rfl rfl rfl rfl (by first | (with_reducible (rw [List.length_map]; first | exact hp | exact hq | exact hP3 | exact getR_p3 _)) | exact rfl) (by first | (with_reducible (rw [List.length_map]; first | exact hp | exact hq | exact hP3 | exact getR_p3 _)) | exact rfl) (by first | exact mapS_one _ | rfl) rfl ?_)
                      | (refine HL_storeArr (k := 4) (n := 3) rfl rfl rfl rfl rfl (by first | (with_reducible (rw [List.length_map]; first | exact hp | exact hq | exact hP3 | exact getR_p3 _)) | exact rfl) (by first | (with_reducible (rw [List.length_map]; first | exact hp | exact hq | exact hP3 | exact getR_p3 _)) | exact rfl) (by first | exact mapS_one _ | rfl) rfl ?_)
                      | (refine HL_storeArr (k := 5) (n := 3) rfl rfl rfl rfl rfl (by first | (with_reducible (rw [List.length_map]; first | exact hp | exact hq | exact hP3 | exact getR_p3 _)) | exact rfl) (by first | (with_reducible (rw [List.length_map]; first | exact hp | exact hq | exact hP3 | exact getR_p3 _)) | exact rfl) (by first | exact mapS_one _ | rfl) rfl ?_)
                      | (refine HL_storeArr (k := 6) (n := 3) rfl rfl rfl rfl rfl (by first | (with_reducible (rw [List.length_map]; first | exact hp | exact hq | exact hP3 | exact getR_p3 _)) | exact rfl) (by first | (with_reducible (rw [List.length_map]; first | exact hp | exact hq | exact hP3 | exact getR_p3 _)) | exact rfl) (by first | exact mapS_one _ | rfl) rfl ?_)
                    all_goals refine HL_r rfl rfl rfl rfl (R_assign rfl) ?_
                    all_goals refine HL_r rfl rfl rfl rfl (R_assign rfl) ?_
                    all_goals refine HL_nil ?_
                    all_goals (
                      refine HQ_then ?_
                      refine hK10 _ _ _ _ ?_; clear hK10 K10
                      refine HC_seq fun K11 hK11 => ?_
                      refine HC_region ?_
                      all_goals refine HL_callP rfl rfl rfl (enters_of Tryd.func18 (by kernel_rfl) rfl) (P_out_Get (s := []) (by decide)) ?_; refine HL_as (congrArg resG o_f) ?_
                      all_goals refine HL_r rfl rfl rfl rfl (R_move rfl) ?_
                      all_goals refine HL_r rfl rfl rfl rfl (R_extract rfl rfl) ?_
                      all_goals refine HL_r rfl rfl rfl rfl (R_extract rfl rfl) ?_
                      all_goals refine HL_r rfl rfl rfl rfl (R_extract rfl rfl) ?_
                      all_goals refine HL_r rfl rfl rfl rfl (R_extract rfl rfl) ?_
                      all_goals refine HL_alloc (cs := #[_, _, _]) rfl rfl rfl rfl fun r3 => ?_
                      all_goals refine HL_r rfl rfl rfl rfl (R_assign rfl) ?_
                      all_goals first
                        | (refine HL_storeArr (k := 0) (n := 3) rfl rfl rfl rfl rfl (by first | (with_reducible (rw [List.length_map]; first | exact hp | exact hq | exact hP3 | exact getR_p3 _)) | exact rfl) (by first | (with_reducible (rw [List.length_map]; first | exact hp | exact hq | exact hP3 | exact getR_p3 _)) | exact rfl) (by first | exact mapS_one _ | rfl) rfl ?_)
                        | (refine HL_storeArr (k := 1) (n := 3) rfl rfl rfl rfl rfl (by first | (with_reducible (rw [List.length_map]; first | exact hp | exact hq | exact hP3 | exact getR_p3 _)) | exact rfl) (by first | (with_reducible (rw [List.length_map]; first | exact hp | exact hq | exact hP3 | exact getR_p3 _)) | exact rfl) (by first | exact mapS_one _ | rfl) rfl ?_)
                        | (refine HL_storeArr (k := 2) (n := 3) rfl rfl rfl rfl rfl (by first | (with_reducible (rw [List.length_map]; first | exact hp | exact hq | exact hP3 | exact getR_p3 _)) | exact rfl) (by first | (with_reducible (rw [List.length_map]; first | exact hp | exact hq | exact hP3 | exact getR_p3 _)) | exact rfl) (by first | exact mapS_one _ | rfl) rfl ?_)
                        | (refine HL_storeArr (k := 3) (n := 3) rfl rfl rfl rfl rfl (by first | (with_reducible (rw [List.length_map]; first | exact hp | exact hq | exact hP3 | exact getR_p3 _)) | exact rfl) (by first | (with_reducible (rw [List.length_map]; first | exact hp | exact hq | exact hP3 | exact getR_p3 _)) | exact rfl) (by first | exact mapS_one _ | rfl) rfl ?_)
                        | (refine HL_storeArr (k := 4) (n := 3) rfl rfl rfl rfl rfl (by first | (with_reducible (rw [List.length_map]; first | exact hp | exact hq | exact hP3 | exact getR_p3 _)) | exact rfl) (by first | (with_reducible (rw [List.length_map]; first | exact hp | exact hq | exact hP3 | exact getR_p3 _)) | exact rfl) (by first | exact mapS_one _ | rfl) rfl ?_)
                        | (refine HL_storeArr (k := 5) (n := 3) rfl rfl rfl rfl rfl (by first | (with_reducible (rw [List.length_map]; first | exact hp | exact hq | exact hP3 | exact getR_p3 _)) | exact rfl) (by first | (with_reducible (rw [List.length_map]; first | exact hp | exact hq | exact hP3 | exact getR_p3 _)) | exact rfl) (by first | exact mapS_one _ | rfl) rfl ?_)
                        | (refine HL_storeArr (k := 6) (n := 3) rfl rfl rfl rfl rfl (by first | (with_reducible (rw [List.length_map]; first | exact hp | exact hq | exact hP3 | exact getR_p3 _)) | exact rfl) (by first | (with_reducible (rw [List.length_map]; first | exact hp | exact hq | exact hP3 | exact getR_p3 _)) | exact rfl) (by first | exact mapS_one _ | rfl) rfl ?_)
                      all_goals refine HL_r rfl rfl rfl rfl (R_assign rfl) ?_
                      all_goals refine HL_r rfl rfl rfl rfl (R_assign rfl) ?_
                      all_goals refine HL_nil ?_
                      all_goals (
                        refine HQ_then ?_
                        refine hK11 _ _ _ _ ?_; clear hK11 K11
                        refine HC_seq fun K12 hK12 => ?_
                        refine HC_region ?_
                        all_goals refine HL_r rfl rfl rfl rfl (R_move rfl) ?_
                        all_goals first
                          | (refine HL_r rfl rfl rfl rfl (R_lenBs rfl rfl) ?_)
                          | (refine HL_r rfl rfl rfl rfl (R_lenSl rfl rfl) ?_)
                          | (refine HL_r rfl rfl rfl rfl (R_lenStr rfl rfl rfl) ?_)
                          | (refine HL_r rfl rfl rfl rfl (R_pure rfl rfl rfl) ?_)
                        all_goals refine HL_r rfl rfl rfl rfl (R_pure rfl rfl rfl) ?_
                        all_goals first
                          | (refine HL_as (show _ = Value.bool true from bool_eq' (by exact ieqT (show (S.length : Int) = 128 from by omega))) ?_)
                          | (refine HL_as (show _ = Value.bool false from bool_eq' (by exact ieqT (show (S.length : Int) = 128 from by omega))) ?_)
                          | skip
                        all_goals refine HL_r rfl rfl rfl rfl (R_move rfl) ?_
                        all_goals first
                          | (refine HL_r rfl rfl rfl rfl (R_move rfl) ?_)
                          | (refine HL_skip rfl rfl rfl ?_)
                          | (refine HL_case 80 rfl (fun hb13 => ?_) (fun hb13 => ?_) <;> (try simp only [decide_eq_true_eq, decide_eq_false_iff_not, beq_iff_eq, beq_eq_false_iff_ne, bne_iff_ne, bne_eq_false_iff_eq, Bool.not_eq_true', Bool.not_eq_false', ne_eq, Int.not_lt, Int.not_le, ge_iff_le, gt_iff_lt] at hb13) <;> first | (refine HL_r rfl rfl rfl rfl (R_move rfl) ?_) | (refine HL_skip rfl rfl rfl ?_))
                        all_goals first
                          | (refine HL_r rfl rfl rfl rfl (R_pure rfl rfl rfl) ?_)
                          | (refine HL_skip rfl rfl rfl ?_)
                          | (refine HL_case 80 rfl (fun hb14 => ?_) (fun hb14 => ?_) <;> (try simp only [decide_eq_true_eq, decide_eq_false_iff_not, beq_iff_eq, beq_eq_false_iff_ne, bne_iff_ne, bne_eq_false_iff_eq, Bool.not_eq_true', Bool.not_eq_false', ne_eq, Int.not_lt, Int.not_le, ge_iff_le, gt_iff_lt] at hb14) <;> first | (refine HL_r rfl rfl rfl rfl (R_pure rfl rfl rfl) ?_) | (refine HL_skip rfl rfl rfl ?_))
                        all_goals first
                          | (refine HL_as (show _ = Value.bool true from bool_eq' (rfl)) ?_)
                          | (refine HL_as (show _ = Value.bool false from bool_eq' (rfl)) ?_)
                          | skip
                        all_goals first
                          | (refine HL_r rfl rfl rfl rfl (R_pickT rfl rfl) ?_)
                          | (refine HL_r rfl rfl rfl rfl (R_pickF rfl rfl) ?_)
                        all_goals refine HL_r rfl rfl rfl rfl (R_move rfl) ?_
                        all_goals first
                          | (refine HL_r rfl rfl rfl rfl (R_move rfl) ?_)
                          | (refine HL_skip rfl rfl rfl ?_)
                          | (refine HL_case 84 rfl (fun hb15 => ?_) (fun hb15 => ?_) <;> (try simp only [decide_eq_true_eq, decide_eq_false_iff_not, beq_iff_eq, beq_eq_false_iff_ne, bne_iff_ne, bne_eq_false_iff_eq, Bool.not_eq_true', Bool.not_eq_false', ne_eq, Int.not_lt, Int.not_le, ge_iff_le, gt_iff_lt] at hb15) <;> first | (refine HL_r rfl rfl rfl rfl (R_move rfl) ?_) | (refine HL_skip rfl rfl rfl ?_))
                        all_goals first
                          | (refine HL_r rfl rfl rfl rfl (R_lenBs rfl rfl) ?_)
                          | (refine HL_r rfl rfl rfl rfl (R_lenSl rfl rfl) ?_)
                          | (refine HL_r rfl rfl rfl rfl (R_lenStr rfl rfl rfl) ?_)
                          | (refine HL_r rfl rfl rfl rfl (R_pure rfl rfl rfl) ?_)
                          | (refine HL_skip rfl rfl rfl ?_)
                          | (refine HL_case 84 rfl (fun hb16 => ?_) (fun hb16 => ?_) <;> (try simp only [decide_eq_true_eq, decide_eq_false_iff_not, beq_iff_eq, beq_eq_false_iff_ne, bne_iff_ne, bne_eq_false_iff_eq, Bool.not_eq_true', Bool.not_eq_false', ne_eq, Int.not_lt, Int.not_le, ge_iff_le, gt_iff_lt] at hb16) <;> first | (refine HL_r rfl rfl rfl rfl (R_lenBs rfl rfl) ?_) | (refine HL_r rfl rfl rfl rfl (R_lenSl rfl rfl) ?_) | (refine HL_r rfl rfl rfl rfl (R_lenStr rfl rfl rfl) ?_) | (refine HL_r rfl rfl rfl rfl (R_pure rfl rfl rfl) ?_) | (refine HL_skip rfl rfl rfl ?_))
                        all_goals first
                          | (refine HL_r rfl rfl rfl rfl (R_pure rfl rfl rfl) ?_)
                          | (refine HL_skip rfl rfl rfl ?_)
                          | (refine HL_case 84 rfl (fun hb17 => ?_) (fun hb17 => ?_) <;> (try simp only [decide_eq_true_eq, decide_eq_false_iff_not, beq_iff_eq, beq_eq_false_iff_ne, bne_iff_ne, bne_eq_false_iff_eq, Bool.not_eq_true', Bool.not_eq_false', ne_eq, Int.not_lt, Int.not_le, ge_iff_le, gt_iff_lt] at hb17) <;> first | (refine HL_r rfl rfl rfl rfl (R_pure rfl rfl rfl) ?_) | (refine HL_skip rfl rfl rfl ?_))
                        all_goals first
                          | (refine HL_as (show _ = Value.bool true from bool_eq' (by exact ieqT (show (T.length : Int) = 136 from by omega))) ?_)
                          | (refine HL_as (show _ = Value.bool false from bool_eq' (by exact ieqT (show (T.length : Int) = 136 from by omega))) ?_)
                          | skip
                        all_goals first
                          | (refine HL_r rfl rfl rfl rfl (R_pickT rfl rfl) ?_)
                          | (refine HL_r rfl rfl rfl rfl (R_pickF rfl rfl) ?_)
                        all_goals refine HL_r rfl rfl rfl rfl (R_move rfl) ?_
                        all_goals first
                          | (refine HL_r rfl rfl rfl rfl (R_move rfl) ?_)
                          | (refine HL_skip rfl rfl rfl ?_)
                          | (refine HL_case 89 rfl (fun hb18 => ?_) (fun hb18 => ?_) <;> (try simp only [decide_eq_true_eq, decide_eq_false_iff_not, beq_iff_eq, beq_eq_false_iff_ne, bne_iff_ne, bne_eq_false_iff_eq, Bool.not_eq_true', Bool.not_eq_false', ne_eq, Int.not_lt, Int.not_le, ge_iff_le, gt_iff_lt] at hb18) <;> first | (refine HL_r rfl rfl rfl rfl (R_move rfl) ?_) | (refine HL_skip rfl rfl rfl ?_))
                        all_goals first
                          | (refine HL_r rfl rfl rfl rfl (R_pure rfl rfl rfl) ?_)
                          | (refine HL_skip rfl rfl rfl ?_)
                          | (refine HL_case 89 rfl (fun hb19 => ?_) (fun hb19 => ?_) <;> (try simp only [decide_eq_true_eq, decide_eq_false_iff_not, beq_iff_eq, beq_eq_false_iff_ne, bne_iff_ne, bne_eq_false_iff_eq, Bool.not_eq_true', Bool.not_eq_false', ne_eq, Int.not_lt, Int.not_le, ge_iff_le, gt_iff_lt] at hb19) <;> first | (refine HL_r rfl rfl rfl rfl (R_pure rfl rfl rfl) ?_) | (refine HL_skip rfl rfl rfl ?_))
                        all_goals first
                          | (refine HL_as (show _ = Value.bool true from bool_eq' (rfl)) ?_)
                          | (refine HL_as (show _ = Value.bool false from bool_eq' (rfl)) ?_)
                          | skip
                        all_goals first
                          | (refine HL_r rfl rfl rfl rfl (R_pickT rfl rfl) ?_)
                          | (refine HL_r rfl rfl rfl rfl (R_pickF rfl rfl) ?_)
                        all_goals refine HL_r rfl rfl rfl rfl (R_move rfl) ?_
                        all_goals first
                          | (refine HL_r rfl rfl rfl rfl (R_move rfl) ?_)
                          | (refine HL_skip rfl rfl rfl ?_)
                          | (refine HL_case 93 rfl (fun hb20 => ?_) (fun hb20 => ?_) <;> (try simp only [decide_eq_true_eq, decide_eq_false_iff_not, beq_iff_eq, beq_eq_false_iff_ne, bne_iff_ne, bne_eq_false_iff_eq, Bool.not_eq_true', Bool.not_eq_false', ne_eq, Int.not_lt, Int.not_le, ge_iff_le, gt_iff_lt] at hb20) <;> first | (refine HL_r rfl rfl rfl rfl (R_move rfl) ?_) | (refine HL_skip rfl rfl rfl ?_))
                        all_goals first
                          | (refine HL_r rfl rfl rfl rfl (R_pure rfl rfl rfl) ?_)
                          | (refine HL_skip rfl rfl rfl ?_)
                          | (refine HL_case 93 rfl (fun hb21 => ?_) (fun hb21 => ?_) <;> (try simp only [decide_eq_true_eq, decide_eq_false_iff_not, beq_iff_eq, beq_eq_false_iff_ne, bne_iff_ne, bne_eq_false_iff_eq, Bool.not_eq_true', Bool.not_eq_false', ne_eq, Int.not_lt, Int.not_le, ge_iff_le, gt_iff_lt] at hb21) <;> first | (refine HL_r rfl rfl rfl rfl (R_pure rfl rfl rfl) ?_) | (refine HL_skip rfl rfl rfl ?_))
                        all_goals first
                          | (refine HL_as (show _ = Value.bool true from bool_eq' (rfl)) ?_)
                          | (refine HL_as (show _ = Value.bool false from bool_eq' (rfl)) ?_)
                          | skip
                        all_goals first
                          | (refine HL_r rfl rfl rfl rfl (R_pickT rfl rfl) ?_)
                          | (refine HL_r rfl rfl rfl rfl (R_pickF rfl rfl) ?_)
                        all_goals refine HL_r rfl rfl rfl rfl (R_move rfl) ?_
                        all_goals first
                          | (refine HL_r rfl rfl rfl rfl (R_loadArr (n := 3) rfl (known_L (k := 0) rfl) rfl rfl (by first | (with_reducible (rw [List.length_map]; first | exact hp | exact hq | exact hP3 | exact getR_p3 _)) | exact rfl)) ?_)
                          | (refine HL_r rfl rfl rfl rfl (R_loadArr (n := 3) rfl (known_L (k := 1) rfl) rfl rfl (by first | (with_reducible (rw [List.length_map]; first | exact hp | exact hq | exact hP3 | exact getR_p3 _)) | exact rfl)) ?_)
                          | (refine HL_r rfl rfl rfl rfl (R_loadArr (n := 3) rfl (known_L (k := 2) rfl) rfl rfl (by first | (with_reducible (rw [List.length_map]; first | exact hp | exact hq | exact hP3 | exact getR_p3 _)) | exact rfl)) ?_)
                          | (refine HL_r rfl rfl rfl rfl (R_loadArr (n := 3) rfl (known_L (k := 3) rfl) rfl rfl (by first | (with_reducible (rw [List.length_map]; first | exact hp | exact hq | exact hP3 | exact getR_p3 _)) | exact rfl)) ?_)
                          | (refine HL_r rfl rfl rfl rfl (R_loadArr (n := 3) rfl (known_L (k := 4) rfl) rfl rfl (by first | (with_reducible (rw [List.length_map]; first | exact hp | exact hq | exact hP3 | exact getR_p3 _)) | exact rfl)) ?_)
                          | (refine HL_r rfl rfl rfl rfl (R_loadArr (n := 3) rfl (known_L (k := 5) rfl) rfl rfl (by first | (with_reducible (rw [List.length_map]; first | exact hp | exact hq | exact hP3 | exact getR_p3 _)) | exact rfl)) ?_)
                          | (refine HL_r rfl rfl rfl rfl (R_loadArr (n := 3) rfl (known_L (k := 6) rfl) rfl rfl (by first | (with_reducible (rw [List.length_map]; first | exact hp | exact hq | exact hP3 | exact getR_p3 _)) | exact rfl)) ?_)
                          | (refine HL_skip rfl rfl rfl ?_)
                          | (refine HL_case 97 rfl (fun hb22 => ?_) (fun hb22 => ?_) <;> (try simp only [decide_eq_true_eq, decide_eq_false_iff_not, beq_iff_eq, beq_eq_false_iff_ne, bne_iff_ne, bne_eq_false_iff_eq, Bool.not_eq_true', Bool.not_eq_false', ne_eq, Int.not_lt, Int.not_le, ge_iff_le, gt_iff_lt] at hb22) <;> first | (refine HL_r rfl rfl rfl rfl (R_loadArr (n := 3) rfl (known_L (k := 0) rfl) rfl rfl (by first | (with_reducible (rw [List.length_map]; first | exact hp | exact hq | exact hP3 | exact getR_p3 _)) | exact rfl)) ?_) | (refine HL_r rfl rfl rfl rfl (R_loadArr (n := 3) rfl (known_L (k := 1) rfl) rfl rfl (by first | (with_reducible (rw [List.length_map]; first | exact hp | exact hq | exact hP3 | exact getR_p3 _)) | exact rfl)) ?_) | (refine HL_r rfl rfl rfl rfl (R_loadArr (n := 3) rfl (known_L (k := 2) rfl) rfl rfl (by first | (with_reducible (rw [List.length_map]; first | exact hp | exact hq | exact hP3 | exact getR_p3 _)) | exact rfl)) ?_) | (refine HL_r rfl rfl rfl rfl (R_loadArr (n := 3) rfl (known_L (k := 3) rfl) rfl rfl (by first | (with_reducible (rw [List.length_map]; first | exact hp | exact hq | exact hP3 | exact getR_p3 _)) | exact rfl)) ?_) | (refine HL_r rfl rfl rfl rfl (R_loadArr (n := 3) rfl (known_L (k := 4) rfl) rfl rfl (by first | (with_reducible (rw [List.length_map]; first | exact hp | exact hq | exact hP3 | exact getR_p3 _)) | exact rfl)) ?_) | (refine HL_r rfl rfl rfl rfl (R_loadArr (n := 3) rfl (known_L (k := 5) rfl) rfl rfl (by first | (with_reducible (rw [List.length_map]; first | exact hp | exact hq | exact hP3 | exact getR_p3 _)) | exact rfl)) ?_) | (refine HL_r rfl rfl rfl rfl (R_loadArr (n := 3) rfl (known_L (k := 6) rfl) rfl rfl (by first | (with_reducible (rw [List.length_map]; first | exact hp | exact hq | exact hP3 | exact getR_p3 _)) | exact rfl)) ?_) | (refine HL_skip rfl rfl rfl ?_))
                        all_goals first
                          | (refine HL_r rfl rfl rfl rfl (R_loadArr (n := 3) rfl (known_L (k := 0) rfl) rfl rfl (by first | (with_reducible (rw [List.length_map]; first | exact hp | exact hq | exact hP3 | exact getR_p3 _)) | exact rfl)) ?_)
                          | (refine HL_r rfl rfl rfl rfl (R_loadArr (n := 3) rfl (known_L (k := 1) rfl) rfl rfl (by first | (with_reducible (rw [List.length_map]; first | exact hp | exact hq | exact hP3 | exact getR_p3 _)) | exact rfl)) ?_)
                          | (refine HL_r rfl rfl rfl rfl (R_loadArr (n := 3) rfl (known_L (k := 2) rfl) rfl rfl (by first | (with_reducible (rw [List.length_map]; first | exact hp | exact hq | exact hP3 | exact getR_p3 _)) | exact rfl)) ?_)
                          | (refine HL_r rfl rfl rfl rfl (R_loadArr (n := 3) rfl (known_L (k := 3) rfl) rfl rfl (by first | (with_reducible (rw [List.length_map]; first | exact hp | exact hq | exact hP3 | exact getR_p3 _)) | exact rfl)) ?_)
                          | (refine HL_r rfl rfl rfl rfl (R_loadArr (n := 3) rfl (known_L (k := 4) rfl) rfl rfl (by first | (with_reducible (rw [List.length_map]; first | exact hp | exact hq | exact hP3 | exact getR_p3 _)) | exact rfl)) ?_)
                          | (refine HL_r rfl rfl rfl rfl (R_loadArr (n := 3) rfl (known_L (k := 5) rfl) rfl rfl (by first | (with_reducible (rw [List.length_map]; first | exact hp | exact hq | exact hP3 | exact getR_p3 _)) | exact rfl)) ?_)
                          | (refine HL_r rfl rfl rfl rfl (R_loadArr (n := 3) rfl (known_L (k := 6) rfl) rfl rfl (by first | (with_reducible (rw [List.length_map]; first | exact hp | exact hq | exact hP3 | exact getR_p3 _)) | exact rfl)) ?_)
                          | (refine HL_skip rfl rfl rfl ?_)
                          | (refine HL_case 97 rfl (fun hb23 => ?_) (fun hb23 => ?_) <;> (try simp only [decide_eq_true_eq, decide_eq_false_iff_not, beq_iff_eq, beq_eq_false_iff_ne, bne_iff_ne, bne_eq_false_iff_eq, Bool.not_eq_true', Bool.not_eq_false', ne_eq, Int.not_lt, Int.not_le, ge_iff_le, gt_iff_lt] at hb23) <;> first | (refine HL_r rfl rfl rfl rfl (R_loadArr (n := 3) rfl (known_L (k := 0) rfl) rfl rfl (by first | (with_reducible (rw [List.length_map]; first | exact hp | exact hq | exact hP3 | exact getR_p3 _)) | exact rfl)) ?_) | (refine HL_r rfl rfl rfl rfl (R_loadArr (n := 3) rfl (known_L (k := 1) rfl) rfl rfl (by first | (with_reducible (rw [List.length_map]; first | exact hp | exact hq | exact hP3 | exact getR_p3 _)) | exact rfl)) ?_) | (refine HL_r rfl rfl rfl rfl (R_loadArr (n := 3) rfl (known_L (k := 2) rfl) rfl rfl (by first | (with_reducible (rw [List.length_map]; first | exact hp | exact hq | exact hP3 | exact getR_p3 _)) | exact rfl)) ?_) | (refine HL_r rfl rfl rfl rfl (R_loadArr (n := 3) rfl (known_L (k := 3) rfl) rfl rfl (by first | (with_reducible (rw [List.length_map]; first | exact hp | exact hq | exact hP3 | exact getR_p3 _)) | exact rfl)) ?_) | (refine HL_r rfl rfl rfl rfl (R_loadArr (n := 3) rfl (known_L (k := 4) rfl) rfl rfl (by first | (with_reducible (rw [List.length_map]; first | exact hp | exact hq | exact hP3 | exact getR_p3 _)) | exact rfl)) ?_) | (refine HL_r rfl rfl rfl rfl (R_loadArr (n := 3) rfl (known_L (k := 5) rfl) rfl rfl (by first | (with_reducible (rw [List.length_map]; first | exact hp | exact hq | exact hP3 | exact getR_p3 _)) | exact rfl)) ?_) | (refine HL_r rfl rfl rfl rfl (R_loadArr (n := 3) rfl (known_L (k := 6) rfl) rfl rfl (by first | (with_reducible (rw [List.length_map]; first | exact hp | exact hq | exact hP3 | exact getR_p3 _)) | exact rfl)) ?_) | (refine HL_skip rfl rfl rfl ?_))
                        all_goals first
                          | (refine HL_r rfl rfl rfl rfl (R_eqArr rfl rfl rfl rfl rfl (by kernel_rfl) (by first | (with_reducible (rw [List.length_map]; first | exact hp | exact hq | exact hP3 | exact getR_p3 _)) | exact rfl) (by first | (with_reducible (rw [List.length_map]; first | exact hp | exact hq | exact hP3 | exact getR_p3 _)) | exact rfl) (by first | exact scalS rfl _ | rfl) (by first | exact scalS rfl _ | rfl)) ?_)
                          | (refine HL_skip rfl rfl rfl ?_)
                          | (refine HL_case 97 rfl (fun hb24 => ?_) (fun hb24 => ?_) <;> (try simp only [decide_eq_true_eq, decide_eq_false_iff_not, beq_iff_eq, beq_eq_false_iff_ne, bne_iff_ne, bne_eq_false_iff_eq, Bool.not_eq_true', Bool.not_eq_false', ne_eq, Int.not_lt, Int.not_le, ge_iff_le, gt_iff_lt] at hb24) <;> first | (refine HL_r rfl rfl rfl rfl (R_eqArr rfl rfl rfl rfl rfl (by kernel_rfl) (by first | (with_reducible (rw [List.length_map]; first | exact hp | exact hq | exact hP3 | exact getR_p3 _)) | exact rfl) (by first | (with_reducible (rw [List.length_map]; first | exact hp | exact hq | exact hP3 | exact getR_p3 _)) | exact rfl) (by first | exact scalS rfl _ | rfl) (by first | exact scalS rfl _ | rfl)) ?_) | (refine HL_skip rfl rfl rfl ?_))
                        all_goals first
                          | (refine HL_as (show _ = Value.bool true from bool_eq' (by exact eqP_of rfl)) ?_)
                          | (refine HL_as (show _ = Value.bool false from bool_eq' (by exact eqP_of rfl)) ?_)
                          | skip
                        all_goals first
                          | (refine HL_r rfl rfl rfl rfl (R_pickT rfl rfl) ?_)
                          | (refine HL_r rfl rfl rfl rfl (R_pickF rfl rfl) ?_)
                        all_goals refine HL_r rfl rfl rfl rfl (R_move rfl) ?_
                        all_goals first
                          | (refine HL_r rfl rfl rfl rfl (R_move rfl) ?_)
                          | (refine HL_skip rfl rfl rfl ?_)
                          | (refine HL_case 102 rfl (fun hb25 => ?_) (fun hb25 => ?_) <;> (try simp only [decide_eq_true_eq, decide_eq_false_iff_not, beq_iff_eq, beq_eq_false_iff_ne, bne_iff_ne, bne_eq_false_iff_eq, Bool.not_eq_true', Bool.not_eq_false', ne_eq, Int.not_lt, Int.not_le, ge_iff_le, gt_iff_lt] at hb25) <;> first | (refine HL_r rfl rfl rfl rfl (R_move rfl) ?_) | (refine HL_skip rfl rfl rfl ?_))
                        all_goals first
                          | (refine HL_r rfl rfl rfl rfl (R_pure rfl rfl rfl) ?_)
                          | (refine HL_skip rfl rfl rfl ?_)
                          | (refine HL_case 102 rfl (fun hb26 => ?_) (fun hb26 => ?_) <;> (try simp only [decide_eq_true_eq, decide_eq_false_iff_not, beq_iff_eq, beq_eq_false_iff_ne, bne_iff_ne, bne_eq_false_iff_eq, Bool.not_eq_true', Bool.not_eq_false', ne_eq, Int.not_lt, Int.not_le, ge_iff_le, gt_iff_lt] at hb26) <;> first | (refine HL_r rfl rfl rfl rfl (R_pure rfl rfl rfl) ?_) | (refine HL_skip rfl rfl rfl ?_))
                        all_goals first
                          | (refine HL_as (show _ = Value.bool true from bool_eq' (rfl)) ?_)
                          | (refine HL_as (show _ = Value.bool false from bool_eq' (rfl)) ?_)
                          | skip
                        all_goals first
                          | (refine HL_r rfl rfl rfl rfl (R_pickT rfl rfl) ?_)
                          | (refine HL_r rfl rfl rfl rfl (R_pickF rfl rfl) ?_)
                        all_goals refine HL_r rfl rfl rfl rfl (R_move rfl) ?_
                        all_goals first
                          | (refine HL_r rfl rfl rfl rfl (R_move rfl) ?_)
                          | (refine HL_skip rfl rfl rfl ?_)
                          | (refine HL_case 106 rfl (fun hb27 => ?_) (fun hb27 => ?_) <;> (try simp only [decide_eq_true_eq, decide_eq_false_iff_not, beq_iff_eq, beq_eq_false_iff_ne, bne_iff_ne, bne_eq_false_iff_eq, Bool.not_eq_true', Bool.not_eq_false', ne_eq, Int.not_lt, Int.not_le, ge_iff_le, gt_iff_lt] at hb27) <;> first | (refine HL_r rfl rfl rfl rfl (R_move rfl) ?_) | (refine HL_skip rfl rfl rfl ?_))
                        all_goals first
                          | (refine HL_r rfl rfl rfl rfl (R_pure rfl rfl rfl) ?_)
                          | (refine HL_skip rfl rfl rfl ?_)
                          | (refine HL_case 106 rfl (fun hb28 => ?_) (fun hb28 => ?_) <;> (try simp only [decide_eq_true_eq, decide_eq_false_iff_not, beq_iff_eq, beq_eq_false_iff_ne, bne_iff_ne, bne_eq_false_iff_eq, Bool.not_eq_true', Bool.not_eq_false', ne_eq, Int.not_lt, Int.not_le, ge_iff_le, gt_iff_lt] at hb28) <;> first | (refine HL_r rfl rfl rfl rfl (R_pure rfl rfl rfl) ?_) | (refine HL_skip rfl rfl rfl ?_))
                        all_goals first
                          | (refine HL_as (show _ = Value.bool true from bool_eq' (rfl)) ?_)
                          | (refine HL_as (show _ = Value.bool false from bool_eq' (rfl)) ?_)
                          | skip
                        all_goals first
                          | (refine HL_r rfl rfl rfl rfl (R_pickT rfl rfl) ?_)
                          | (refine HL_r rfl rfl rfl rfl (R_pickF rfl rfl) ?_)
                        all_goals refine HL_r rfl rfl rfl rfl (R_move rfl) ?_
                        all_goals first
                          | (refine HL_r rfl rfl rfl rfl (R_move rfl) ?_)
                          | (refine HL_skip rfl rfl rfl ?_)
                          | (refine HL_case 110 rfl (fun hb29 => ?_) (fun hb29 => ?_) <;> (try simp only [decide_eq_true_eq, decide_eq_false_iff_not, beq_iff_eq, beq_eq_false_iff_ne, bne_iff_ne, bne_eq_false_iff_eq, Bool.not_eq_true', Bool.not_eq_false', ne_eq, Int.not_lt, Int.not_le, ge_iff_le, gt_iff_lt] at hb29) <;> first | (refine HL_r rfl rfl rfl rfl (R_move rfl) ?_) | (refine HL_skip rfl rfl rfl ?_))
                        all_goals first
                          | (refine HL_r rfl rfl rfl rfl (R_move rfl) ?_)
                          | (refine HL_skip rfl rfl rfl ?_)
                          | (refine HL_case 110 rfl (fun hb30 => ?_) (fun hb30 => ?_) <;> (try simp only [decide_eq_true_eq, decide_eq_false_iff_not, beq_iff_eq, beq_eq_false_iff_ne, bne_iff_ne, bne_eq_false_iff_eq, Bool.not_eq_true', Bool.not_eq_false', ne_eq, Int.not_lt, Int.not_le, ge_iff_le, gt_iff_lt] at hb30) <;> first | (refine HL_r rfl rfl rfl rfl (R_move rfl) ?_) | (refine HL_skip rfl rfl rfl ?_))
                        all_goals refine HL_callP rfl rfl rfl (enters_of Tryd.func20 (by kernel_rfl) rfl) (P_kec (s := S) (by omega)) ?_
                        all_goals first
                          | (refine HL_r rfl rfl rfl rfl (R_strEq rfl rfl) ?_)
                          | (refine HL_skip rfl rfl rfl ?_)
                          | (refine HL_case 110 rfl (fun hb31 => ?_) (fun hb31 => ?_) <;> (try simp only [decide_eq_true_eq, decide_eq_false_iff_not, beq_iff_eq, beq_eq_false_iff_ne, bne_iff_ne, bne_eq_false_iff_eq, Bool.not_eq_true', Bool.not_eq_false', ne_eq, Int.not_lt, Int.not_le, ge_iff_le, gt_iff_lt] at hb31) <;> first | (refine HL_r rfl rfl rfl rfl (R_strEq rfl rfl) ?_) | (refine HL_skip rfl rfl rfl ?_))
                        all_goals first
                          | (refine HL_as (show _ = Value.bool true from bool_eq' (decide_eq_true rfl)) ?_)
                          | (refine HL_as (show _ = Value.bool false from bool_eq' (decide_eq_true rfl)) ?_)
                          | skip
                        all_goals first
                          | (refine HL_r rfl rfl rfl rfl (R_pickT rfl rfl) ?_)
                          | (refine HL_r rfl rfl rfl rfl (R_pickF rfl rfl) ?_)
                        all_goals refine HL_r rfl rfl rfl rfl (R_move rfl) ?_
                        all_goals first
                          | (refine HL_r rfl rfl rfl rfl (R_move rfl) ?_)
                          | (refine HL_skip rfl rfl rfl ?_)
                          | (refine HL_case 116 rfl (fun hb32 => ?_) (fun hb32 => ?_) <;> (try simp only [decide_eq_true_eq, decide_eq_false_iff_not, beq_iff_eq, beq_eq_false_iff_ne, bne_iff_ne, bne_eq_false_iff_eq, Bool.not_eq_true', Bool.not_eq_false', ne_eq, Int.not_lt, Int.not_le, ge_iff_le, gt_iff_lt] at hb32) <;> first | (refine HL_r rfl rfl rfl rfl (R_move rfl) ?_) | (refine HL_skip rfl rfl rfl ?_))
                        all_goals first
                          | (refine HL_r rfl rfl rfl rfl (R_pure rfl rfl rfl) ?_)
                          | (refine HL_skip rfl rfl rfl ?_)
                          | (refine HL_case 116 rfl (fun hb33 => ?_) (fun hb33 => ?_) <;> (try simp only [decide_eq_true_eq, decide_eq_false_iff_not, beq_iff_eq, beq_eq_false_iff_ne, bne_iff_ne, bne_eq_false_iff_eq, Bool.not_eq_true', Bool.not_eq_false', ne_eq, Int.not_lt, Int.not_le, ge_iff_le, gt_iff_lt] at hb33) <;> first | (refine HL_r rfl rfl rfl rfl (R_pure rfl rfl rfl) ?_) | (refine HL_skip rfl rfl rfl ?_))
                        all_goals first
                          | (refine HL_as (show _ = Value.bool true from bool_eq' (rfl)) ?_)
                          | (refine HL_as (show _ = Value.bool false from bool_eq' (rfl)) ?_)
                          | skip
                        all_goals first
                          | (refine HL_r rfl rfl rfl rfl (R_pickT rfl rfl) ?_)
                          | (refine HL_r rfl rfl rfl rfl (R_pickF rfl rfl) ?_)
                        all_goals refine HL_r rfl rfl rfl rfl (R_move rfl) ?_
                        all_goals first
                          | (refine HL_r rfl rfl rfl rfl (R_move rfl) ?_)
                          | (refine HL_skip rfl rfl rfl ?_)
                          | (refine HL_case 120 rfl (fun hb34 => ?_) (fun hb34 => ?_) <;> (try simp only [decide_eq_true_eq, decide_eq_false_iff_not, beq_iff_eq, beq_eq_false_iff_ne, bne_iff_ne, bne_eq_false_iff_eq, Bool.not_eq_true', Bool.not_eq_false', ne_eq, Int.not_lt, Int.not_le, ge_iff_le, gt_iff_lt] at hb34) <;> first | (refine HL_r rfl rfl rfl rfl (R_move rfl) ?_) | (refine HL_skip rfl rfl rfl ?_))
                        all_goals first
                          | (refine HL_r rfl rfl rfl rfl (R_pure rfl rfl rfl) ?_)
                          | (refine HL_skip rfl rfl rfl ?_)
                          | (refine HL_case 120 rfl (fun hb35 => ?_) (fun hb35 => ?_) <;> (try simp only [decide_eq_true_eq, decide_eq_false_iff_not, beq_iff_eq, beq_eq_false_iff_ne, bne_iff_ne, bne_eq_false_iff_eq, Bool.not_eq_true', Bool.not_eq_false', ne_eq, Int.not_lt, Int.not_le, ge_iff_le, gt_iff_lt] at hb35) <;> first | (refine HL_r rfl rfl rfl rfl (R_pure rfl rfl rfl) ?_) | (refine HL_skip rfl rfl rfl ?_))
                        all_goals first
                          | (refine HL_as (show _ = Value.bool true from bool_eq' (rfl)) ?_)
                          | (refine HL_as (show _ = Value.bool false from bool_eq' (rfl)) ?_)
                          | skip
                        all_goals first
                          | (refine HL_r rfl rfl rfl rfl (R_pickT rfl rfl) ?_)
                          | (refine HL_r rfl rfl rfl rfl (R_pickF rfl rfl) ?_)
                        all_goals refine HL_r rfl rfl rfl rfl (R_move rfl) ?_
                        all_goals first
                          | (refine HL_r rfl rfl rfl rfl (R_move rfl) ?_)
                          | (refine HL_skip rfl rfl rfl ?_)
                          | (refine HL_case 124 rfl (fun hb36 => ?_) (fun hb36 => ?_) <;> (try simp only [decide_eq_true_eq, decide_eq_false_iff_not, beq_iff_eq, beq_eq_false_iff_ne, bne_iff_ne, bne_eq_false_iff_eq, Bool.not_eq_true', Bool.not_eq_false', ne_eq, Int.not_lt, Int.not_le, ge_iff_le, gt_iff_lt] at hb36) <;> first | (refine HL_r rfl rfl rfl rfl (R_move rfl) ?_) | (refine HL_skip rfl rfl rfl ?_))
                        all_goals first
                          | (refine HL_r rfl rfl rfl rfl (R_pure rfl rfl rfl) ?_)
                          | (refine HL_skip rfl rfl rfl ?_)
                          | (refine HL_case 124 rfl (fun hb37 => ?_) (fun hb37 => ?_) <;> (try simp only [decide_eq_true_eq, decide_eq_false_iff_not, beq_iff_eq, beq_eq_false_iff_ne, bne_iff_ne, bne_eq_false_iff_eq, Bool.not_eq_true', Bool.not_eq_false', ne_eq, Int.not_lt, Int.not_le, ge_iff_le, gt_iff_lt] at hb37) <;> first | (refine HL_r rfl rfl rfl rfl (R_pure rfl rfl rfl) ?_) | (refine HL_skip rfl rfl rfl ?_))
                        all_goals first
                          | (refine HL_as (show _ = Value.bool true from bool_eq' (rfl)) ?_)
                          | (refine HL_as (show _ = Value.bool false from bool_eq' (rfl)) ?_)
                          | skip
                        all_goals first
                          | (refine HL_r rfl rfl rfl rfl (R_pickT rfl rfl) ?_)
                          | (refine HL_r rfl rfl rfl rfl (R_pickF rfl rfl) ?_)
                        all_goals refine HL_r rfl rfl rfl rfl (R_move rfl) ?_
                        all_goals first
                          | (refine HL_r rfl rfl rfl rfl (R_move rfl) ?_)
                          | (refine HL_skip rfl rfl rfl ?_)
                          | (refine HL_case 128 rfl (fun hb38 => ?_) (fun hb38 => ?_) <;> (try simp only [decide_eq_true_eq, decide_eq_false_iff_not, beq_iff_eq, beq_eq_false_iff_ne, bne_iff_ne, bne_eq_false_iff_eq, Bool.not_eq_true', Bool.not_eq_false', ne_eq, Int.not_lt, Int.not_le, ge_iff_le, gt_iff_lt] at hb38) <;> first | (refine HL_r rfl rfl rfl rfl (R_move rfl) ?_) | (refine HL_skip rfl rfl rfl ?_))
                        all_goals first
                          | (refine HL_r rfl rfl rfl rfl (R_pure rfl rfl rfl) ?_)
                          | (refine HL_skip rfl rfl rfl ?_)
                          | (refine HL_case 128 rfl (fun hb39 => ?_) (fun hb39 => ?_) <;> (try simp only [decide_eq_true_eq, decide_eq_false_iff_not, beq_iff_eq, beq_eq_false_iff_ne, bne_iff_ne, bne_eq_false_iff_eq, Bool.not_eq_true', Bool.not_eq_false', ne_eq, Int.not_lt, Int.not_le, ge_iff_le, gt_iff_lt] at hb39) <;> first | (refine HL_r rfl rfl rfl rfl (R_pure rfl rfl rfl) ?_) | (refine HL_skip rfl rfl rfl ?_))
                        all_goals first
                          | (refine HL_as (show _ = Value.bool true from bool_eq' (rfl)) ?_)
                          | (refine HL_as (show _ = Value.bool false from bool_eq' (rfl)) ?_)
                          | skip
                        all_goals first
                          | (refine HL_r rfl rfl rfl rfl (R_pickT rfl rfl) ?_)
                          | (refine HL_r rfl rfl rfl rfl (R_pickF rfl rfl) ?_)
                        all_goals refine HL_r rfl rfl rfl rfl (R_move rfl) ?_
                        all_goals first
                          | (refine HL_r rfl rfl rfl rfl (R_move rfl) ?_)
                          | (refine HL_skip rfl rfl rfl ?_)
                          | (refine HL_case 132 rfl (fun hb40 => ?_) (fun hb40 => ?_) <;> (try simp only [decide_eq_true_eq, decide_eq_false_iff_not, beq_iff_eq, beq_eq_false_iff_ne, bne_iff_ne, bne_eq_false_iff_eq, Bool.not_eq_true', Bool.not_eq_false', ne_eq, Int.not_lt, Int.not_le, ge_iff_le, gt_iff_lt] at hb40) <;> first | (refine HL_r rfl rfl rfl rfl (R_move rfl) ?_) | (refine HL_skip rfl rfl rfl ?_))
                        all_goals first
                          | (refine HL_r rfl rfl rfl rfl (R_pure rfl rfl rfl) ?_)
                          | (refine HL_skip rfl rfl rfl ?_)
                          | (refine HL_case 132 rfl (fun hb41 => ?_) (fun hb41 => ?_) <;> (try simp only [decide_eq_true_eq, decide_eq_false_iff_not, beq_iff_eq, beq_eq_false_iff_ne, bne_iff_ne, bne_eq_false_iff_eq, Bool.not_eq_true', Bool.not_eq_false', ne_eq, Int.not_lt, Int.not_le, ge_iff_le, gt_iff_lt] at hb41) <;> first | (refine HL_r rfl rfl rfl rfl (R_pure rfl rfl rfl) ?_) | (refine HL_skip rfl rfl rfl ?_))
                        all_goals first
                          | (refine HL_as (show _ = Value.bool true from bool_eq' (rfl)) ?_)
                          | (refine HL_as (show _ = Value.bool false from bool_eq' (rfl)) ?_)
                          | skip
                        all_goals first
                          | (refine HL_r rfl rfl rfl rfl (R_pickT rfl rfl) ?_)
                          | (refine HL_r rfl rfl rfl rfl (R_pickF rfl rfl) ?_)
                        all_goals refine HL_r rfl rfl rfl rfl (R_assign rfl) ?_
                        all_goals refine HL_nil ?_
                        all_goals (
                          refine HQ_then ?_
                          refine hK12 _ _ _ _ ?_; clear hK12 K12
                          refine HC_ret ?_
                          refine HQ_post rfl rfl (.cons (res_tmp rfl) .nil) (fun w1 hs1 => ?_)
                          exact ⟨rfl, hs1.keep⟩
                          skip)
                        skip)
                      skip)
                    skip)
                  skip)
                skip)
              skip)
            skip)
          skip)
        skip)
      skip)
    skip)
end Go.Proofs.YthfinkklgbiaeaaDoor
