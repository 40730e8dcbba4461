import Derived.Test.YtdadaddakcidjaaDoorGe
import Derived.Test.YtdadaddakcidjaaDoorSlj
namespace Go.Proofs.YtdadaddakcidjaaDoor
set_option linter.all false
open Go.SL Go.RowKit Go.Shelf
/-! the table of kinds -/
def kfs : List (Nat × Nat × Nat × Bool) := [(42, 45, 48, false), (49, 51, 54, false), (55, 58, 60, false), (62, 63, 0, true),
  (64, 65, 67, false), (68, 69, 0, true), (70, 71, 72, false), (73, 74, 0, true)]
def kAt (k : Int) : Nat × Nat × Nat × Bool := kfs.getD (k - 1).toNat (0, 0, 0, false)
def isK (k : Int) : Bool := decide (1 ≤ k) && decide (k ≤ 8)
def formF (k : Int) : FuncId := (kAt k).1
def ofF (k : Int) : FuncId := (kAt k).2.1
def sizeF (k : Int) : FuncId := (kAt k).2.2.1
def varB (k : Int) : Bool := (kAt k).2.2.2
def fnV (b : Bool) (f : FuncId) : Value := if b then fV f else .nilFunc
def kCells (k : Int) : List Value := [fnV (isK k) (formF k), fnV (isK k) (ofF k), fnV (isK k && !varB k) (sizeF k), .bool (varB k)]
def kEnt (j : Nat) : MapEntry := { key := .int .i64 ((j : Int) + 1), val := .agg (kCells ((j : Int) + 1)).toArray, born := j }
def kMap : Array MapEntry := #[kEnt 0, kEnt 1, kEnt 2, kEnt 3, kEnt 4, kEnt 5, kEnt 6, kEnt 7]
def kObj : Obj := .map kMap 8
theorem kMap_dom : ∀ e ∈ kMap.toList, isI e.key := by
  intro e he
  simp only [kMap, List.mem_cons, List.not_mem_nil, or_false] at he
  rcases he with rfl | rfl | rfl | rfl | rfl | rfl | rfl | rfl <;> exact ⟨_, rfl⟩
theorem kMap_get (k : Int) : mapGet intEq (.int .i64 k) (kMap.toList.map kvOf) = if isK k then some (.agg (kCells k).toArray) else none := by
  by_cases h : 1 ≤ k ∧ k ≤ 8
  · have : k = 1 ∨ k = 2 ∨ k = 3 ∨ k = 4 ∨ k = 5 ∨ k = 6 ∨ k = 7 ∨ k = 8 := by omega
    rcases this with rfl | rfl | rfl | rfl | rfl | rfl | rfl | rfl <;> rfl
  · have e : isK k = false := by unfold isK; simp; omega
    rw [e]
    have h1 : k ≠ 1 := by omega
    have h2 : k ≠ 2 := by omega
    have h3 : k ≠ 3 := by omega
    have h4 : k ≠ 4 := by omega
    have h5 : k ≠ 5 := by omega
    have h6 : k ≠ 6 := by omega
    have h7 : k ≠ 7 := by omega
    have h8 : k ≠ 8 := by omega
    simp [kMap, kEnt, kvOf, mapGet, intEq_mk, h1, h2, h3, h4, h5, h6, h7, h8]
theorem kMap_val (k : Int) : (if true = true then Value.tuple #[((mapGet intEq (.int .i64 k) (kMap.toList.map kvOf)).getD (.agg #[.nilFunc, .nilFunc, .nilFunc, .bool false])), .bool (mapGet intEq (.int .i64 k) (kMap.toList.map kvOf)).isSome] else (mapGet intEq (.int .i64 k) (kMap.toList.map kvOf)).getD (.agg #[.nilFunc, .nilFunc, .nilFunc, .bool false])) =
    .tuple #[.agg (kCells k).toArray, .bool (isK k)] := by
  rw [kMap_get, if_pos rfl]
  cases h : isK k with
  | true => rfl
  | false =>
    have : varB k = false := by
      unfold isK at h
      simp at h
      unfold varB kAt
      by_cases h1 : 1 ≤ k
      · have := h h1
        rw [List.getD_eq_getElem?_getD, List.getElem?_eq_none (by show 8 ≤ _; omega)]; rfl
      · have : (k - 1).toNat = 0 := by omega
        rw [this]; rfl
    simp [kCells, fnV, h, this]
theorem kMap_val0 {k : Int} (h : isK k = true) : (if false = true then Value.tuple #[((mapGet intEq (.int .i64 k) (kMap.toList.map kvOf)).getD (.agg #[.nilFunc, .nilFunc, .nilFunc, .bool false])), .bool (mapGet intEq (.int .i64 k) (kMap.toList.map kvOf)).isSome] else (mapGet intEq (.int .i64 k) (kMap.toList.map kvOf)).getD (.agg #[.nilFunc, .nilFunc, .nilFunc, .bool false])) =
    .agg (kCells k).toArray := by
  rw [kMap_get, h]; rfl
set_option maxRecDepth 10000 in
theorem E_kinds : PureE (α := Nat) Tryd.prog 34 [].toArray (fun r => .map (some r)) (fun r => [(r, kObj)]) := by
  refine pureE_of_HC Tryd.func34 rfl rfl fun w => ?_
  refine HC_seq fun K1 hK1 => ?_
  refine HC_region ?_
  all_goals refine HL_r rfl rfl rfl rfl (R_assign rfl) ?_
  all_goals refine HL_nil ?_
  all_goals (
    refine HQ_then ?_
    refine hK1 _ _ _ _ ?_; clear hK1 K1
    refine HC_seq fun K2 hK2 => ?_
    refine HC_region ?_
    all_goals refine HL_makeMap rfl rfl fun mr => ?_
    all_goals refine HL_r rfl rfl rfl rfl (R_build (r := [_, _, _, _]) rfl rfl) ?_
    all_goals refine HL_insert (q := 0) (key := .int .i64 1) (keyI (t := 3) (by kernel_rfl)) rfl rfl rfl rfl rfl rfl ⟨_, rfl⟩ (by intro e he; simp at he) rfl rfl ?_
    all_goals refine HL_r rfl rfl rfl rfl (R_build (r := [_, _, _, _]) rfl rfl) ?_
    all_goals refine HL_insert (q := 0) (key := .int .i64 2) (keyI (t := 3) (by kernel_rfl)) rfl rfl rfl rfl rfl rfl ⟨_, rfl⟩ (by intro e he; simp at he; rcases he with rfl <;> exact ⟨_, rfl⟩) rfl rfl ?_
    all_goals refine HL_r rfl rfl rfl rfl (R_build (r := [_, _, _, _]) rfl rfl) ?_
    all_goals refine HL_insert (q := 0) (key := .int .i64 3) (keyI (t := 3) (by kernel_rfl)) rfl rfl rfl rfl rfl rfl ⟨_, rfl⟩ (by intro e he; simp at he; rcases he with rfl | rfl <;> exact ⟨_, rfl⟩) rfl rfl ?_
    all_goals refine HL_r rfl rfl rfl rfl (R_build (r := [_, _, _, _]) rfl rfl) ?_
    all_goals refine HL_insert (q := 0) (key := .int .i64 4) (keyI (t := 3) (by kernel_rfl)) rfl rfl rfl rfl rfl rfl ⟨_, rfl⟩ (by intro e he; simp at he; rcases he with rfl | rfl | rfl <;> exact ⟨_, rfl⟩) rfl rfl ?_
    all_goals refine HL_r rfl rfl rfl rfl (R_build (r := [_, _, _, _]) rfl rfl) ?_
    all_goals refine HL_insert (q := 0) (key := .int .i64 5) (keyI (t := 3) (by kernel_rfl)) rfl rfl rfl rfl rfl rfl ⟨_, rfl⟩ (by intro e he; simp at he; rcases he with rfl | rfl | rfl | rfl <;> exact ⟨_, rfl⟩) rfl rfl ?_
    all_goals refine HL_r rfl rfl rfl rfl (R_build (r := [_, _, _, _]) rfl rfl) ?_
    all_goals refine HL_insert (q := 0) (key := .int .i64 6) (keyI (t := 3) (by kernel_rfl)) rfl rfl rfl rfl rfl rfl ⟨_, rfl⟩ (by intro e he; simp at he; rcases he with rfl | rfl | rfl | rfl | rfl <;> exact ⟨_, rfl⟩) rfl rfl ?_
    all_goals refine HL_r rfl rfl rfl rfl (R_build (r := [_, _, _, _]) rfl rfl) ?_
    all_goals refine HL_insert (q := 0) (key := .int .i64 7) (keyI (t := 3) (by kernel_rfl)) rfl rfl rfl rfl rfl rfl ⟨_, rfl⟩ (by intro e he; simp at he; rcases he with rfl | rfl | rfl | rfl | rfl | rfl <;> exact ⟨_, rfl⟩) rfl rfl ?_
    all_goals refine HL_r rfl rfl rfl rfl (R_build (r := [_, _, _, _]) rfl rfl) ?_
    all_goals refine HL_insert (q := 0) (key := .int .i64 8) (keyI (t := 3) (by kernel_rfl)) rfl rfl rfl rfl rfl rfl ⟨_, rfl⟩ (by intro e he; simp at he; rcases he with rfl | rfl | rfl | rfl | rfl | rfl | rfl <;> exact ⟨_, rfl⟩) rfl rfl ?_
    all_goals refine HL_r rfl rfl rfl rfl (R_move rfl) ?_
    all_goals refine HL_r rfl rfl rfl rfl (R_assign rfl) ?_
    all_goals refine HL_nil ?_
    all_goals (
      refine HQ_then ?_
      refine hK2 _ _ _ _ ?_; clear hK2 K2
      refine HC_ret ?_
      refine HQ_post rfl rfl (.cons (res_tmp rfl) .nil) (fun w1 hs1 => ?_)
      exact ⟨mr, rfl, hs1⟩
      skip)
    skip)
end Go.Proofs.YtdadaddakcidjaaDoor
