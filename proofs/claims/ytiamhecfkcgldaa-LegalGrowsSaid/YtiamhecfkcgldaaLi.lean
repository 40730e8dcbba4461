import Derived.Test.YtiamhecfkcgldaaLh
namespace Go.Proofs.Ytiamhecfkcgldaa
set_option linter.all false
open Go.SL Go.RowKit Go.Shelf
def baseL (k : Int) : List Int := if k = 1 then [0, 1, 2, 4, 126] else if k = 2 then [0, 1, 2] else if k = 3 then [0, 1] else if k = 4 then [0, 2] else if k = 5 then [0, 1] else []
def vl (f k : Int) : List Int := (baseL k).filter (okR f k)
theorem okL_eq (f k v : Int) : okL f k v = okR f k v := by
  unfold okL okR loI hiI okI
  cases h : (spanI k v).2.2 <;> simp
theorem okI_other {k : Int} (h1 : k ≠ 1) (h2 : k ≠ 2) (h3 : k ≠ 3) (h4 : k ≠ 4) (h5 : k ≠ 5) (v : Int) : okI k v = false := by
  simp [okI, spanI, h1, h2, h3, h4, h5]
theorem base_perm (k : Int) : (versKV k tableKV).Perm (baseL k) := by
  by_cases h1 : k = 1
  · subst h1; decide
  by_cases h2 : k = 2
  · subst h2; decide
  by_cases h3 : k = 3
  · subst h3; decide
  by_cases h4 : k = 4
  · subst h4; decide
  by_cases h5 : k = 5
  · subst h5; decide
  have e1 : baseL k = [] := by simp [baseL, h1, h2, h3, h4, h5]
  have e2 : versKV k tableKV = [] := by
    have a1 : (1 == k) = false := by simpa using Ne.symm h1
    have a2 : (2 == k) = false := by simpa using Ne.symm h2
    have a3 : (3 == k) = false := by simpa using Ne.symm h3
    have a4 : (4 == k) = false := by simpa using Ne.symm h4
    have a5 : (5 == k) = false := by simpa using Ne.symm h5
    have hp : ∀ a b, keyA (pairV a b) = a := fun _ _ => rfl
    simp [versKV, tableKV, hp, Ne.symm h1, Ne.symm h2, Ne.symm h3, Ne.symm h4, Ne.symm h5]
  rw [e1, e2]
set_option maxRecDepth 100000 in
theorem base_ref (k : Int) : (upTo 127).filter (fun v => okI k v) = baseL k := by
  by_cases h1 : k = 1
  · subst h1; decide
  by_cases h2 : k = 2
  · subst h2; decide
  by_cases h3 : k = 3
  · subst h3; decide
  by_cases h4 : k = 4
  · subst h4; decide
  by_cases h5 : k = 5
  · subst h5; decide
  have e1 : baseL k = [] := by simp [baseL, h1, h2, h3, h4, h5]
  rw [e1, List.filter_eq_nil_iff]
  intro v _
  rw [okI_other h1 h2 h3 h4 h5]
  decide
theorem base_sorted (k : Int) : (baseL k).Pairwise (fun x y => x < y) := by
  unfold baseL
  split
  · decide
  split
  · decide
  split
  · decide
  split
  · decide
  split
  · decide
  exact List.Pairwise.nil
theorem versL_eq (f k : Int) : versL f k = vl f k := by
  have h1 : (fun v => okL f k v) = okR f k := funext (okL_eq f k)
  unfold versL vl
  rw [show okL f k = okR f k from h1]
  rw [show sortI ((versKV k tableKV).filter (okR f k)) = sortI ((baseL k).filter (okR f k)) from eq_of_sorted ((base_perm k).filter _)]
  unfold sortI
  exact List.mergeSort_of_pairwise (((base_sorted k).filter _).imp fun h => by simpa using Int.le_of_lt h)
theorem refL_eq (f k : Int) : refL f k = vl f k := by
  unfold refL vl
  rw [← base_ref k, List.filter_filter]
  apply List.filter_congr
  intro v _
  unfold okR okI
  cases (spanI k v).2.2 <;> simp
theorem E_leg (f k : Int) : PureE (α := { row : Row // rowOk 1 (vl f k).length ((vl f k).map (Value.int .i64)) row }) Try.prog 12 [.int .i64 f, .int .i64 k].toArray (fun r => rowV (vl f k).length r.1) (fun r => rowL 3 ((vl f k).map (Value.int .i64)) r.1) := by
  have := E_legal_Versions f k
  rw [versL_eq] at this
  exact this
theorem E_ref (f k : Int) : PureE (α := { row : Row // rowOk 1 (vl f k).length ((vl f k).map (Value.int .i64)) row }) Try.prog 13 [.int .i64 f, .int .i64 k].toArray (fun r => rowV (vl f k).length r.1) (fun r => rowL 3 ((vl f k).map (Value.int .i64)) r.1) := by
  have := E_ref_Versions f k
  rw [refL_eq] at this
  exact this
def lastI (l : List Int) : Int := l.getD (l.length - 1) 0
def codeI (l : List Int) : Int := if l = [] then 10 else 0
def latT (l : List Int) : Value := .tuple #[.int .i64 (lastI l), .int .i64 (codeI l)]
theorem latV_eq (l : List Int) : latV l = latT l := by
  unfold latV latT lastI codeI
  by_cases h : l = [] <;> simp [h]
def rangeT (k v : Int) : Value := .tuple #[.int .i64 (loI k v), .int .i64 (hiI k v), .int .i64 (if okI k v then 0 else 9)]
theorem Q_lat (f k : Int) : Pure Try.prog 14 [.int .i64 f, .int .i64 k].toArray (latT (vl f k)) := by
  have := P_legal_Latest f k
  rwa [versL_eq, latV_eq] at this
theorem Q_rlat (f k : Int) : Pure Try.prog 15 [.int .i64 f, .int .i64 k].toArray (latT (vl f k)) := by
  have := P_ref_Latest f k
  rwa [refL_eq, latV_eq] at this
theorem Q_rng (k v : Int) : Pure Try.prog 8 [.int .i64 k, .int .i64 v].toArray (rangeT k v) := by
  have := P_legal_Range k v
  have e : (if okI k v = true then Value.tuple #[.int .i64 (loI k v), .int .i64 (hiI k v), .int .i64 0] else .tuple #[.int .i64 0, .int .i64 0, .int .i64 9]) = rangeT k v := by
    unfold rangeT
    cases h : okI k v <;> simp [loI, hiI, h]
  rwa [e] at this
theorem Q_rrng (k v : Int) : Pure Try.prog 9 [.int .i64 k, .int .i64 v].toArray (rangeT k v) := by
  have := P_rescriptref13_Range k v
  have e : (if (spanI k v).2.2 = true then Value.tuple #[.int .i64 (spanI k v).1, .int .i64 (spanI k v).2.1, .int .i64 0] else .tuple #[.int .i64 0, .int .i64 0, .int .i64 9]) = rangeT k v := by
    unfold rangeT
    cases h : (spanI k v).2.2 <;> simp [loI, hiI, okI, h]
  rwa [e] at this
theorem Q_leg (f k v : Int) : Pure Try.prog 16 [.int .i64 f, .int .i64 k, .int .i64 v].toArray (.bool (okR f k v)) := by
  have := P_legal_Legal f k v
  rw [← okL_eq]
  exact this
theorem Q_rleg (f k v : Int) : Pure Try.prog 10 [.int .i64 f, .int .i64 k, .int .i64 v].toArray (.bool (okR f k v)) := P_rescriptref13_Legal f k v
theorem vl_len (f k : Int) : (vl f k).length ≤ 5 := by
  refine Nat.le_trans (List.length_filter_le _ _) ?_
  unfold baseL
  split
  · decide
  split
  · decide
  split
  · decide
  split
  · decide
  split
  · decide
  decide
set_option maxRecDepth 10000 in
theorem P_works : Pure Try.prog 7 [].toArray (.bool true) := by
  refine pure_of_HC Try.func7 rfl rfl fun w => ?_
  have hA : Pure Try.prog 8 [.int .i64 5, .int .i64 0].toArray (.tuple #[.int .i64 0, .int .i64 4, .int .i64 0]) := Q_rng 5 0
  have hB : Pure Try.prog 8 [.int .i64 5, .int .i64 2].toArray (.tuple #[.int .i64 0, .int .i64 0, .int .i64 9]) := Q_rng 5 2
  have hC : Pure Try.prog 14 [.int .i64 4, .int .i64 4].toArray (.tuple #[.int .i64 2, .int .i64 0]) := Q_lat 4 4
  have hD : Pure Try.prog 14 [.int .i64 6, .int .i64 4].toArray (.tuple #[.int .i64 0, .int .i64 10]) := Q_lat 6 4
  have hE : Pure Try.prog 16 [.int .i64 1, .int .i64 2, .int .i64 1].toArray (.bool true) := Q_leg 1 2 1
  have hF : Pure Try.prog 16 [.int .i64 2, .int .i64 2, .int .i64 1].toArray (.bool false) := Q_leg 2 2 1
  have hG : decide (vl 3 3 = [0, 1]) = true := by decide
  have hH : decide (vl 5 1 = [0, 1, 2, 4, 126]) = true := by decide
  refine HC_seq fun K1 hK1 => ?_
  refine HC_region ?_
  all_goals refine HL_r rfl rfl rfl rfl (R_assign rfl) ?_
  all_goals refine HL_nil ?_
  all_goals (
    refine HQ_then ?_
    refine hK1 _ _ _ _ ?_; clear hK1 K1
    refine HC_seq fun K2 hK2 => ?_
    refine HC_region ?_
    all_goals refine HL_callP rfl rfl rfl (enters_of Try.func8 (by kernel_rfl) rfl) (by first | exact hA | exact hB) ?_
    all_goals refine HL_r rfl rfl rfl rfl (R_move rfl) ?_
    all_goals refine HL_r rfl rfl rfl rfl (R_extract rfl rfl) ?_
    all_goals refine HL_r rfl rfl rfl rfl (R_extract rfl rfl) ?_
    all_goals refine HL_r rfl rfl rfl rfl (R_extract rfl rfl) ?_
    all_goals refine HL_r rfl rfl rfl rfl (R_assign rfl) ?_
    all_goals refine HL_r rfl rfl rfl rfl (R_assign rfl) ?_
    all_goals refine HL_r rfl rfl rfl rfl (R_assign rfl) ?_
    all_goals refine HL_nil ?_
    all_goals (
      refine HQ_then ?_
      refine hK2 _ _ _ _ ?_; clear hK2 K2
      refine HC_seq fun K3 hK3 => ?_
      refine HC_region ?_
      all_goals refine HL_callP rfl rfl rfl (enters_of Try.func8 (by kernel_rfl) rfl) (by first | exact hA | exact hB) ?_
      all_goals refine HL_r rfl rfl rfl rfl (R_move rfl) ?_
      all_goals refine HL_r rfl rfl rfl rfl (R_extract rfl rfl) ?_
      all_goals refine HL_r rfl rfl rfl rfl (R_extract rfl rfl) ?_
      all_goals refine HL_r rfl rfl rfl rfl (R_extract rfl rfl) ?_
      all_goals refine HL_r rfl rfl rfl rfl (R_assign rfl) ?_
      all_goals refine HL_r rfl rfl rfl rfl (R_assign rfl) ?_
      all_goals refine HL_r rfl rfl rfl rfl (R_assign rfl) ?_
      all_goals refine HL_nil ?_
      all_goals (
        refine HQ_then ?_
        refine hK3 _ _ _ _ ?_; clear hK3 K3
        refine HC_seq fun K4 hK4 => ?_
        refine HC_region ?_
        all_goals refine HL_callPE rfl rfl rfl (enters_of Try.func12 (by kernel_rfl) rfl) (E_leg 3 3) fun x1 => ?_
        all_goals obtain ⟨row1, hrow1⟩ := x1
        all_goals change HL _ _ ((_, rowV (vl 3 3).length row1) :: _) (rowL 3 ((vl 3 3).map (Value.int .i64)) row1 ++ _) _ _ _ _
        all_goals refine HL_buildSlice (vs := [_, _]) (zs := [_, _]) (r := [_, _]) rfl rfl rfl rfl rfl rfl rfl rfl rfl (by show (madeCells #[_] _).toList = _; rw [made_one]; exact rfl) rfl fun r1 => ?_
        all_goals refine HL_callR rfl rfl rfl (enters_of Try.func11 (by kernel_rfl) rfl) (R_Ints (vl 3 3) [0, 1] row1 (some (r1, 2, [])) hrow1 ⟨rfl, rfl⟩ (Nat.le_trans (vl_len 3 3) (by decide))) (fun p hp => .inl (mem_app_cons hp)) ?_
        all_goals refine HL_as (congrArg Value.bool hG) ?_
        all_goals refine HL_r rfl rfl rfl rfl (R_assign rfl) ?_
        all_goals refine HL_nil ?_
        all_goals (
          refine HQ_then ?_
          refine hK4 _ _ _ _ ?_; clear hK4 K4
          refine HC_seq fun K5 hK5 => ?_
          refine HC_region ?_
          all_goals refine HL_callPE rfl rfl rfl (enters_of Try.func12 (by kernel_rfl) rfl) (E_leg 5 1) fun x2 => ?_
          all_goals obtain ⟨row2, hrow2⟩ := x2
          all_goals change HL _ _ ((_, rowV (vl 5 1).length row2) :: _) (rowL 3 ((vl 5 1).map (Value.int .i64)) row2 ++ _) _ _ _ _
          all_goals refine HL_buildSlice (vs := [_, _, _, _, _]) (zs := [_, _, _, _, _]) (r := [_, _, _, _, _]) rfl rfl rfl rfl rfl rfl rfl rfl rfl (by show (madeCells #[_] _).toList = _; rw [made_one]; exact rfl) rfl fun r2 => ?_
          all_goals refine HL_callR rfl rfl rfl (enters_of Try.func11 (by kernel_rfl) rfl) (R_Ints (vl 5 1) [0, 1, 2, 4, 126] row2 (some (r2, 5, [])) hrow2 ⟨rfl, rfl⟩ (Nat.le_trans (vl_len 5 1) (by decide))) (fun p hp => .inl (mem_app_cons hp)) ?_
          all_goals refine HL_as (congrArg Value.bool hH) ?_
          all_goals refine HL_r rfl rfl rfl rfl (R_assign rfl) ?_
          all_goals refine HL_nil ?_
          all_goals (
            refine HQ_then ?_
            refine hK5 _ _ _ _ ?_; clear hK5 K5
            refine HC_seq fun K6 hK6 => ?_
            refine HC_region ?_
            all_goals refine HL_callP rfl rfl rfl (enters_of Try.func14 (by kernel_rfl) rfl) (by first | exact hC | exact hD) ?_
            all_goals refine HL_r rfl rfl rfl rfl (R_move rfl) ?_
            all_goals refine HL_r rfl rfl rfl rfl (R_extract rfl rfl) ?_
            all_goals refine HL_r rfl rfl rfl rfl (R_extract rfl rfl) ?_
            all_goals refine HL_r rfl rfl rfl rfl (R_assign rfl) ?_
            all_goals refine HL_r rfl rfl rfl rfl (R_assign rfl) ?_
            all_goals refine HL_nil ?_
            all_goals (
              refine HQ_then ?_
              refine hK6 _ _ _ _ ?_; clear hK6 K6
              refine HC_seq fun K7 hK7 => ?_
              refine HC_region ?_
              all_goals refine HL_callP rfl rfl rfl (enters_of Try.func14 (by kernel_rfl) rfl) (by first | exact hC | exact hD) ?_
              all_goals refine HL_r rfl rfl rfl rfl (R_move rfl) ?_
              all_goals refine HL_r rfl rfl rfl rfl (R_extract rfl rfl) ?_
              all_goals refine HL_r rfl rfl rfl rfl (R_extract rfl rfl) ?_
              all_goals refine HL_r rfl rfl rfl rfl (R_assign rfl) ?_
              all_goals refine HL_r rfl rfl rfl rfl (R_assign rfl) ?_
              all_goals refine HL_nil ?_
              all_goals (
                refine HQ_then ?_
                refine hK7 _ _ _ _ ?_; clear hK7 K7
                refine HC_seq fun K8 hK8 => ?_
                refine HC_region ?_
                all_goals refine HL_r rfl rfl rfl rfl (R_move rfl) ?_
                all_goals refine HL_r rfl rfl rfl rfl (R_pure rfl rfl rfl) ?_
                all_goals refine HL_r rfl rfl rfl rfl (R_move rfl) ?_
                all_goals first
                  | (refine HL_r rfl rfl rfl rfl (R_move rfl) ?_)
                  | (refine HL_skip rfl rfl rfl ?_)
                  | (refine HL_case 39 rfl (fun hb9 => ?_) (fun hb9 => ?_) <;> (try simp only [decide_eq_true_eq, decide_eq_false_iff_not, beq_iff_eq, beq_eq_false_iff_ne, bne_iff_ne, bne_eq_false_iff_eq, Bool.not_eq_true', Bool.not_eq_false', ne_eq, Int.not_lt, Int.not_le, ge_iff_le, gt_iff_lt] at hb9) <;> first | (refine HL_r rfl rfl rfl rfl (R_move rfl) ?_) | (refine HL_skip rfl rfl rfl ?_))
                all_goals first
                  | (refine HL_r rfl rfl rfl rfl (R_pure rfl rfl rfl) ?_)
                  | (refine HL_skip rfl rfl rfl ?_)
                  | (refine HL_case 39 rfl (fun hb10 => ?_) (fun hb10 => ?_) <;> (try simp only [decide_eq_true_eq, decide_eq_false_iff_not, beq_iff_eq, beq_eq_false_iff_ne, bne_iff_ne, bne_eq_false_iff_eq, Bool.not_eq_true', Bool.not_eq_false', ne_eq, Int.not_lt, Int.not_le, ge_iff_le, gt_iff_lt] at hb10) <;> first | (refine HL_r rfl rfl rfl rfl (R_pure rfl rfl rfl) ?_) | (refine HL_skip rfl rfl rfl ?_))
                all_goals first
                  | (refine HL_r rfl rfl rfl rfl (R_pickT rfl rfl) ?_)
                  | (refine HL_r rfl rfl rfl rfl (R_pickF rfl rfl) ?_)
                all_goals refine HL_r rfl rfl rfl rfl (R_move rfl) ?_
                all_goals first
                  | (refine HL_r rfl rfl rfl rfl (R_move rfl) ?_)
                  | (refine HL_skip rfl rfl rfl ?_)
                  | (refine HL_case 43 rfl (fun hb11 => ?_) (fun hb11 => ?_) <;> (try simp only [decide_eq_true_eq, decide_eq_false_iff_not, beq_iff_eq, beq_eq_false_iff_ne, bne_iff_ne, bne_eq_false_iff_eq, Bool.not_eq_true', Bool.not_eq_false', ne_eq, Int.not_lt, Int.not_le, ge_iff_le, gt_iff_lt] at hb11) <;> first | (refine HL_r rfl rfl rfl rfl (R_move rfl) ?_) | (refine HL_skip rfl rfl rfl ?_))
                all_goals first
                  | (refine HL_r rfl rfl rfl rfl (R_pure rfl rfl rfl) ?_)
                  | (refine HL_skip rfl rfl rfl ?_)
                  | (refine HL_case 43 rfl (fun hb12 => ?_) (fun hb12 => ?_) <;> (try simp only [decide_eq_true_eq, decide_eq_false_iff_not, beq_iff_eq, beq_eq_false_iff_ne, bne_iff_ne, bne_eq_false_iff_eq, Bool.not_eq_true', Bool.not_eq_false', ne_eq, Int.not_lt, Int.not_le, ge_iff_le, gt_iff_lt] at hb12) <;> first | (refine HL_r rfl rfl rfl rfl (R_pure rfl rfl rfl) ?_) | (refine HL_skip rfl rfl rfl ?_))
                all_goals first
                  | (refine HL_r rfl rfl rfl rfl (R_pickT rfl rfl) ?_)
                  | (refine HL_r rfl rfl rfl rfl (R_pickF rfl rfl) ?_)
                all_goals refine HL_r rfl rfl rfl rfl (R_move rfl) ?_
                all_goals first
                  | (refine HL_r rfl rfl rfl rfl (R_move rfl) ?_)
                  | (refine HL_skip rfl rfl rfl ?_)
                  | (refine HL_case 47 rfl (fun hb13 => ?_) (fun hb13 => ?_) <;> (try simp only [decide_eq_true_eq, decide_eq_false_iff_not, beq_iff_eq, beq_eq_false_iff_ne, bne_iff_ne, bne_eq_false_iff_eq, Bool.not_eq_true', Bool.not_eq_false', ne_eq, Int.not_lt, Int.not_le, ge_iff_le, gt_iff_lt] at hb13) <;> first | (refine HL_r rfl rfl rfl rfl (R_move rfl) ?_) | (refine HL_skip rfl rfl rfl ?_))
                all_goals first
                  | (refine HL_r rfl rfl rfl rfl (R_pure rfl rfl rfl) ?_)
                  | (refine HL_skip rfl rfl rfl ?_)
                  | (refine HL_case 47 rfl (fun hb14 => ?_) (fun hb14 => ?_) <;> (try simp only [decide_eq_true_eq, decide_eq_false_iff_not, beq_iff_eq, beq_eq_false_iff_ne, bne_iff_ne, bne_eq_false_iff_eq, Bool.not_eq_true', Bool.not_eq_false', ne_eq, Int.not_lt, Int.not_le, ge_iff_le, gt_iff_lt] at hb14) <;> first | (refine HL_r rfl rfl rfl rfl (R_pure rfl rfl rfl) ?_) | (refine HL_skip rfl rfl rfl ?_))
                all_goals first
                  | (refine HL_r rfl rfl rfl rfl (R_pickT rfl rfl) ?_)
                  | (refine HL_r rfl rfl rfl rfl (R_pickF rfl rfl) ?_)
                all_goals refine HL_r rfl rfl rfl rfl (R_move rfl) ?_
                all_goals first
                  | (refine HL_r rfl rfl rfl rfl (R_move rfl) ?_)
                  | (refine HL_skip rfl rfl rfl ?_)
                  | (refine HL_case 51 rfl (fun hb15 => ?_) (fun hb15 => ?_) <;> (try simp only [decide_eq_true_eq, decide_eq_false_iff_not, beq_iff_eq, beq_eq_false_iff_ne, bne_iff_ne, bne_eq_false_iff_eq, Bool.not_eq_true', Bool.not_eq_false', ne_eq, Int.not_lt, Int.not_le, ge_iff_le, gt_iff_lt] at hb15) <;> first | (refine HL_r rfl rfl rfl rfl (R_move rfl) ?_) | (refine HL_skip rfl rfl rfl ?_))
                all_goals first
                  | (refine HL_r rfl rfl rfl rfl (R_pickT rfl rfl) ?_)
                  | (refine HL_r rfl rfl rfl rfl (R_pickF rfl rfl) ?_)
                all_goals refine HL_r rfl rfl rfl rfl (R_move rfl) ?_
                all_goals first
                  | (refine HL_r rfl rfl rfl rfl (R_move rfl) ?_)
                  | (refine HL_skip rfl rfl rfl ?_)
                  | (refine HL_case 54 rfl (fun hb16 => ?_) (fun hb16 => ?_) <;> (try simp only [decide_eq_true_eq, decide_eq_false_iff_not, beq_iff_eq, beq_eq_false_iff_ne, bne_iff_ne, bne_eq_false_iff_eq, Bool.not_eq_true', Bool.not_eq_false', ne_eq, Int.not_lt, Int.not_le, ge_iff_le, gt_iff_lt] at hb16) <;> first | (refine HL_r rfl rfl rfl rfl (R_move rfl) ?_) | (refine HL_skip rfl rfl rfl ?_))
                all_goals first
                  | (refine HL_r rfl rfl rfl rfl (R_pickT rfl rfl) ?_)
                  | (refine HL_r rfl rfl rfl rfl (R_pickF rfl rfl) ?_)
                all_goals refine HL_r rfl rfl rfl rfl (R_move rfl) ?_
                all_goals first
                  | (refine HL_r rfl rfl rfl rfl (R_move rfl) ?_)
                  | (refine HL_skip rfl rfl rfl ?_)
                  | (refine HL_case 57 rfl (fun hb17 => ?_) (fun hb17 => ?_) <;> (try simp only [decide_eq_true_eq, decide_eq_false_iff_not, beq_iff_eq, beq_eq_false_iff_ne, bne_iff_ne, bne_eq_false_iff_eq, Bool.not_eq_true', Bool.not_eq_false', ne_eq, Int.not_lt, Int.not_le, ge_iff_le, gt_iff_lt] at hb17) <;> first | (refine HL_r rfl rfl rfl rfl (R_move rfl) ?_) | (refine HL_skip rfl rfl rfl ?_))
                all_goals first
                  | (refine HL_r rfl rfl rfl rfl (R_pure rfl rfl rfl) ?_)
                  | (refine HL_skip rfl rfl rfl ?_)
                  | (refine HL_case 57 rfl (fun hb18 => ?_) (fun hb18 => ?_) <;> (try simp only [decide_eq_true_eq, decide_eq_false_iff_not, beq_iff_eq, beq_eq_false_iff_ne, bne_iff_ne, bne_eq_false_iff_eq, Bool.not_eq_true', Bool.not_eq_false', ne_eq, Int.not_lt, Int.not_le, ge_iff_le, gt_iff_lt] at hb18) <;> first | (refine HL_r rfl rfl rfl rfl (R_pure rfl rfl rfl) ?_) | (refine HL_skip rfl rfl rfl ?_))
                all_goals first
                  | (refine HL_r rfl rfl rfl rfl (R_pickT rfl rfl) ?_)
                  | (refine HL_r rfl rfl rfl rfl (R_pickF rfl rfl) ?_)
                all_goals refine HL_r rfl rfl rfl rfl (R_move rfl) ?_
                all_goals first
                  | (refine HL_r rfl rfl rfl rfl (R_move rfl) ?_)
                  | (refine HL_skip rfl rfl rfl ?_)
                  | (refine HL_case 61 rfl (fun hb19 => ?_) (fun hb19 => ?_) <;> (try simp only [decide_eq_true_eq, decide_eq_false_iff_not, beq_iff_eq, beq_eq_false_iff_ne, bne_iff_ne, bne_eq_false_iff_eq, Bool.not_eq_true', Bool.not_eq_false', ne_eq, Int.not_lt, Int.not_le, ge_iff_le, gt_iff_lt] at hb19) <;> first | (refine HL_r rfl rfl rfl rfl (R_move rfl) ?_) | (refine HL_skip rfl rfl rfl ?_))
                all_goals first
                  | (refine HL_r rfl rfl rfl rfl (R_pure rfl rfl rfl) ?_)
                  | (refine HL_skip rfl rfl rfl ?_)
                  | (refine HL_case 61 rfl (fun hb20 => ?_) (fun hb20 => ?_) <;> (try simp only [decide_eq_true_eq, decide_eq_false_iff_not, beq_iff_eq, beq_eq_false_iff_ne, bne_iff_ne, bne_eq_false_iff_eq, Bool.not_eq_true', Bool.not_eq_false', ne_eq, Int.not_lt, Int.not_le, ge_iff_le, gt_iff_lt] at hb20) <;> first | (refine HL_r rfl rfl rfl rfl (R_pure rfl rfl rfl) ?_) | (refine HL_skip rfl rfl rfl ?_))
                all_goals first
                  | (refine HL_r rfl rfl rfl rfl (R_pickT rfl rfl) ?_)
                  | (refine HL_r rfl rfl rfl rfl (R_pickF rfl rfl) ?_)
                all_goals refine HL_r rfl rfl rfl rfl (R_move rfl) ?_
                all_goals first
                  | (refine HL_r rfl rfl rfl rfl (R_move rfl) ?_)
                  | (refine HL_skip rfl rfl rfl ?_)
                  | (refine HL_case 65 rfl (fun hb21 => ?_) (fun hb21 => ?_) <;> (try simp only [decide_eq_true_eq, decide_eq_false_iff_not, beq_iff_eq, beq_eq_false_iff_ne, bne_iff_ne, bne_eq_false_iff_eq, Bool.not_eq_true', Bool.not_eq_false', ne_eq, Int.not_lt, Int.not_le, ge_iff_le, gt_iff_lt] at hb21) <;> first | (refine HL_r rfl rfl rfl rfl (R_move rfl) ?_) | (refine HL_skip rfl rfl rfl ?_))
                all_goals first
                  | (refine HL_r rfl rfl rfl rfl (R_pure rfl rfl rfl) ?_)
                  | (refine HL_skip rfl rfl rfl ?_)
                  | (refine HL_case 65 rfl (fun hb22 => ?_) (fun hb22 => ?_) <;> (try simp only [decide_eq_true_eq, decide_eq_false_iff_not, beq_iff_eq, beq_eq_false_iff_ne, bne_iff_ne, bne_eq_false_iff_eq, Bool.not_eq_true', Bool.not_eq_false', ne_eq, Int.not_lt, Int.not_le, ge_iff_le, gt_iff_lt] at hb22) <;> first | (refine HL_r rfl rfl rfl rfl (R_pure rfl rfl rfl) ?_) | (refine HL_skip rfl rfl rfl ?_))
                all_goals first
                  | (refine HL_r rfl rfl rfl rfl (R_pickT rfl rfl) ?_)
                  | (refine HL_r rfl rfl rfl rfl (R_pickF rfl rfl) ?_)
                all_goals refine HL_r rfl rfl rfl rfl (R_move rfl) ?_
                all_goals first
                  | (refine HL_callP rfl rfl rfl (enters_of Try.func16 (by kernel_rfl) rfl) (by first | exact hE | exact hF) ?_)
                  | (refine HL_skip rfl rfl rfl ?_)
                  | (refine HL_case 69 rfl (fun hb23 => ?_) (fun hb23 => ?_) <;> (try simp only [decide_eq_true_eq, decide_eq_false_iff_not, beq_iff_eq, beq_eq_false_iff_ne, bne_iff_ne, bne_eq_false_iff_eq, Bool.not_eq_true', Bool.not_eq_false', ne_eq, Int.not_lt, Int.not_le, ge_iff_le, gt_iff_lt] at hb23) <;> first | (refine HL_callP rfl rfl rfl (enters_of Try.func16 (by kernel_rfl) rfl) (by first | exact hE | exact hF) ?_) | (refine HL_skip rfl rfl rfl ?_))
                all_goals first
                  | (refine HL_r rfl rfl rfl rfl (R_pickT rfl rfl) ?_)
                  | (refine HL_r rfl rfl rfl rfl (R_pickF rfl rfl) ?_)
                all_goals refine HL_r rfl rfl rfl rfl (R_move rfl) ?_
                all_goals first
                  | (refine HL_callP rfl rfl rfl (enters_of Try.func16 (by kernel_rfl) rfl) (by first | exact hE | exact hF) ?_)
                  | (refine HL_skip rfl rfl rfl ?_)
                  | (refine HL_case 72 rfl (fun hb24 => ?_) (fun hb24 => ?_) <;> (try simp only [decide_eq_true_eq, decide_eq_false_iff_not, beq_iff_eq, beq_eq_false_iff_ne, bne_iff_ne, bne_eq_false_iff_eq, Bool.not_eq_true', Bool.not_eq_false', ne_eq, Int.not_lt, Int.not_le, ge_iff_le, gt_iff_lt] at hb24) <;> first | (refine HL_callP rfl rfl rfl (enters_of Try.func16 (by kernel_rfl) rfl) (by first | exact hE | exact hF) ?_) | (refine HL_skip rfl rfl rfl ?_))
                all_goals first
                  | (refine HL_r rfl rfl rfl rfl (R_pure rfl rfl rfl) ?_)
                  | (refine HL_skip rfl rfl rfl ?_)
                  | (refine HL_case 72 rfl (fun hb25 => ?_) (fun hb25 => ?_) <;> (try simp only [decide_eq_true_eq, decide_eq_false_iff_not, beq_iff_eq, beq_eq_false_iff_ne, bne_iff_ne, bne_eq_false_iff_eq, Bool.not_eq_true', Bool.not_eq_false', ne_eq, Int.not_lt, Int.not_le, ge_iff_le, gt_iff_lt] at hb25) <;> first | (refine HL_r rfl rfl rfl rfl (R_pure rfl rfl rfl) ?_) | (refine HL_skip rfl rfl rfl ?_))
                all_goals first
                  | (refine HL_r rfl rfl rfl rfl (R_pickT rfl rfl) ?_)
                  | (refine HL_r rfl rfl rfl rfl (R_pickF rfl rfl) ?_)
                all_goals refine HL_r rfl rfl rfl rfl (R_assign rfl) ?_
                all_goals refine HL_nil ?_
                all_goals (
                  refine HQ_then ?_
                  refine hK8 _ _ _ _ ?_; clear hK8 K8
                  refine HC_ret ?_
                  refine HQ_post rfl rfl (.cons (res_tmp rfl) .nil) (fun w1 hs1 => ?_)
                  exact ⟨rfl, hs1.keep⟩
                  skip)
                skip)
              skip)
            skip)
          skip)
        skip)
      skip)
    skip)
end Go.Proofs.Ytiamhecfkcgldaa
