import Derived.Test.YthfinkklgbiaeaaDoorKe
namespace Go.Proofs.YthfinkklgbiaeaaDoor
set_option linter.all false
open Go.SL Go.RowKit Go.Shelf
def sV (s : List UInt8) : Value := .string (bs s)
def pV (p : List (List UInt8)) : Value := .agg (p.map sV).toArray
theorem mapS_get {p : List (List UInt8)} {j : Nat} (h : j < p.length) : (p.map sV)[j]? = some (.string (bs (p.getD j []))) := by
  simp [h, sV, List.getD_eq_getElem?_getD]
theorem mapS_one (p : List (List UInt8)) : (p.map sV).all oneB = true := by simp [sV, oneB, List.all_map, List.all_eq_true]
def all32 (p : List (List UInt8)) : Bool := p.all fun x => decide (x.length = 32)
def headO (v : Int) : List UInt8 := beD [v.toNat, 0, 0, 0] 32
def tailO (v : Int) (n : Nat) : List UInt8 := if v = 1 then leN n 8 else []
def putR (v : Int) (p : List (List UInt8)) (n : Nat) : List UInt8 × Int :=
  if v ≠ 0 ∧ v ≠ 1 then ([], 9) else if all32 p = false ∨ (v = 0 ∧ n ≠ 0) then ([], 2) else (headO v ++ p.flatten ++ tailO v n, 0)
theorem putR_9 {v : Int} {p : List (List UInt8)} {n : Nat} (h0 : ¬ v = 0) (h1 : ¬ v = 1) : putR v p n = ([], 9) := by unfold putR; rw [if_pos ⟨h0, h1⟩]
theorem putR_2a {v : Int} {p : List (List UInt8)} {n i : Nat} (h : v = 0 ∨ v = 1) (hi : i < p.length) (hl : ¬ (p.getD i []).length = 32) : putR v p n = ([], 2) := by
  have ha : all32 p = false := by
    rw [Bool.eq_false_iff]
    intro h2
    have := List.all_eq_true.1 h2 (p.getD i []) (by simp [List.getD_eq_getElem?_getD, hi])
    exact hl (of_decide_eq_true this)
  unfold putR; rw [if_neg (by omega), if_pos (.inl ha)]
theorem putR_2b {v : Int} {p : List (List UInt8)} {n : Nat} (h : v = 0) (hn : ¬ n = 0) : putR v p n = ([], 2) := by
  unfold putR; rw [if_neg (by omega), if_pos (.inr ⟨h, hn⟩)]
theorem all32_mk {p : List (List UInt8)} (h : ∀ j, j < p.length → (p.getD j []).length = 32) : all32 p = true := by
  refine List.all_eq_true.2 fun x hx => ?_
  obtain ⟨j, hj, rfl⟩ := List.getElem_of_mem hx
  have := h j hj
  rw [List.getD_eq_getElem?_getD, List.getElem?_eq_getElem hj] at this
  exact decide_eq_true this
theorem putR_ok {v : Int} {p : List (List UInt8)} {n : Nat} (h : v = 0 ∨ v = 1) (ha : ∀ j, j < p.length → (p.getD j []).length = 32) (hn : v = 0 → n = 0) : putR v p n = (headO v ++ p.flatten ++ tailO v n, 0) := by
  unfold putR; rw [if_neg (by omega), if_neg (by rw [all32_mk ha]; rintro (h2 | ⟨h2, h3⟩); cases h2; exact h3 (hn h2))]
theorem flat_take {p : List (List UInt8)} : ∀ i, i ≤ p.length → (∀ j, j < i → (p.getD j []).length = 32) → (p.take i).flatten.length = 32 * i
  | 0, _, _ => by simp
  | i + 1, hi, h => by
    rw [List.take_succ, List.getElem?_eq_getElem (by omega), List.flatten_append, List.length_append, flat_take i (by omega) fun j hj => h j (by omega)]
    have := h i (by omega)
    rw [List.getD_eq_getElem?_getD, List.getElem?_eq_getElem (by omega)] at this
    simp at this ⊢; omega
theorem flat_succ {p : List (List UInt8)} {i : Nat} (hi : i < p.length) : (p.take (i + 1)).flatten = (p.take i).flatten ++ p.getD i [] := by
  rw [List.take_succ, List.getElem?_eq_getElem hi, List.flatten_append, List.getD_eq_getElem?_getD, List.getElem?_eq_getElem hi]; simp
theorem le8 {n : Nat} (hn : n < 18446744073709551616) : leR n 8 = (leN n 8, 0) := by
  unfold leR; rw [if_neg (by have := beN_le8 hn; omega)]; rfl
theorem headO_len (v : Int) : (headO v).length = 32 := beD_len _ _
set_option maxRecDepth 10000 in
theorem P_size {v : Nat} (hv : v ≤ 1) : Pure Tryd.prog 37 [.int .i64 (v : Int)].toArray (.int .i64 ((128 + 8 * v : Nat) : Int)) := by
  refine pure_of_HC Tryd.func37 rfl rfl fun w => ?_
  refine HC_seq fun K1 hK1 => ?_
  refine HC_region ?_
  all_goals refine HL_r rfl rfl rfl rfl (R_assign rfl) ?_
  all_goals refine HL_nil ?_
  all_goals (
    refine HQ_then ?_
    refine hK1 _ _ _ _ ?_; clear hK1 K1
    refine HC_seq fun K2 hK2 => ?_
    refine HC_region ?_
    all_goals refine HL_r rfl rfl rfl rfl (R_move rfl) ?_
    all_goals first
      | (refine HL_r rfl rfl rfl rfl (R_pure rfl rfl rfl) ?_; refine HL_wrap_i64 (by omega) (by omega) ?_)
      | (refine HL_r rfl rfl rfl rfl (R_pure rfl rfl rfl) ?_)
    all_goals first
      | (refine HL_r rfl rfl rfl rfl (R_pure rfl rfl rfl) ?_; refine HL_wrap_i64 (by omega) (by omega) ?_)
      | (refine HL_r rfl rfl rfl rfl (R_pure rfl rfl rfl) ?_)
    all_goals refine HL_r rfl rfl rfl rfl (R_assign rfl) ?_
    all_goals refine HL_nil ?_
    all_goals (
      refine HQ_then ?_
      refine hK2 _ _ _ _ ?_; clear hK2 K2
      refine HC_ret ?_
      refine HQ_post rfl rfl (.cons (res_tmp rfl) .nil) (fun w1 hs1 => ?_)
      exact ⟨rfl, hs1.keep⟩
      skip)
    skip)
set_option maxRecDepth 10000 in
theorem P_out_Put {p : List (List UInt8)} (hp : p.length = 3) {n : Nat} (hn : n < 18446744073709551616) (v : Int) : Pure Tryd.prog 14 [.int .i64 v, pV p, uV n].toArray (resS (putR v p n)) := by
  refine pure_of_HC Tryd.func14 rfl rfl fun w => ?_
  have hhl := headO_len v
  refine HC_seq fun K1 hK1 => ?_
  refine HC_region ?_
  all_goals refine HL_box (cs := (p.map sV).toArray) rfl rfl rfl rfl fun r1 => ?_
  all_goals refine HL_r rfl rfl rfl rfl (R_assign rfl) ?_
  all_goals refine HL_r rfl rfl rfl rfl (R_assign rfl) ?_
  all_goals refine HL_nil ?_
  all_goals (
    refine HQ_then ?_
    refine hK1 _ _ _ _ ?_; clear hK1 K1
    refine HC_seq fun K2 hK2 => ?_
    refine HC_seq fun K3 hK3 => ?_
    refine HC_region ?_
    all_goals refine HL_r rfl rfl rfl rfl (R_move rfl) ?_
    all_goals refine HL_r rfl rfl rfl rfl (R_pure rfl rfl rfl) ?_
    all_goals refine HL_r rfl rfl rfl rfl (R_move rfl) ?_
    all_goals first
      | (refine HL_r rfl rfl rfl rfl (R_move rfl) ?_)
      | (refine HL_skip rfl rfl rfl ?_)
      | (refine HL_case 14 rfl (fun hb4 => ?_) (fun hb4 => ?_) <;> (try simp only [decide_eq_true_eq, decide_eq_false_iff_not, beq_iff_eq, beq_eq_false_iff_ne, bne_iff_ne, bne_eq_false_iff_eq, Bool.not_eq_true', Bool.not_eq_false', ne_eq, Int.not_lt, Int.not_le, ge_iff_le, gt_iff_lt] at hb4) <;> first | (refine HL_r rfl rfl rfl rfl (R_move rfl) ?_) | (refine HL_skip rfl rfl rfl ?_))
    all_goals first
      | (refine HL_r rfl rfl rfl rfl (R_pure rfl rfl rfl) ?_)
      | (refine HL_skip rfl rfl rfl ?_)
      | (refine HL_case 14 rfl (fun hb5 => ?_) (fun hb5 => ?_) <;> (try simp only [decide_eq_true_eq, decide_eq_false_iff_not, beq_iff_eq, beq_eq_false_iff_ne, bne_iff_ne, bne_eq_false_iff_eq, Bool.not_eq_true', Bool.not_eq_false', ne_eq, Int.not_lt, Int.not_le, ge_iff_le, gt_iff_lt] at hb5) <;> first | (refine HL_r rfl rfl rfl rfl (R_pure rfl rfl rfl) ?_) | (refine HL_skip rfl rfl rfl ?_))
    all_goals first
      | (refine HL_r rfl rfl rfl rfl (R_pickT rfl rfl) ?_)
      | (refine HL_r rfl rfl rfl rfl (R_pickF rfl rfl) ?_)
    all_goals refine HL_nil ?_
    all_goals (
      refine HQ_then ?_
      refine hK3 _ _ _ _ ?_; clear hK3 K3
      refine HC_cond rfl (fun h6 => ?_) (fun h6 => ?_)
      · try exact Bool.noConfusion h6
        all_goals try simp only [decide_eq_true_eq, decide_eq_false_iff_not, beq_iff_eq, beq_eq_false_iff_ne, bne_iff_ne, bne_eq_false_iff_eq, Bool.not_eq_true', Bool.not_eq_false', ne_eq, Int.not_lt, Int.not_le, ge_iff_le, gt_iff_lt] at h6
        all_goals (
          refine HC_seq fun K7 hK7 => ?_
          refine HC_region ?_
          all_goals refine HL_r rfl rfl rfl rfl (R_assign rfl) ?_
          all_goals refine HL_r rfl rfl rfl rfl (R_assign rfl) ?_
          all_goals refine HL_nil ?_
          all_goals (
            refine HQ_then ?_
            refine hK7 _ _ _ _ ?_; clear hK7 K7
            refine HC_ret ?_
            refine HQ_thenR ?_; clear hK2 K2
            refine HQ_post rfl rfl (.cons (res_tmp rfl) (.cons (res_tmp rfl) .nil)) (fun w1 hs1 => ?_)
            refine ⟨?_, hs1.keep⟩
            first
              | (rw [putR_ok hv01 hall (by omega)]; simp only [tailO]; first | (rw [if_pos (by omega)]; rfl) | (rw [if_neg (by omega), List.append_nil]; rfl))
              | (rw [putR_2b (by omega) (by omega)]; rfl)
              | (rw [putR_2a (i := i) hv01 (by omega) (by omega)]; rfl)
              | (rw [putR_9 (by omega) (by omega)]; rfl)
            skip)
          skip)
      · try exact Bool.noConfusion h6
        all_goals try simp only [decide_eq_true_eq, decide_eq_false_iff_not, beq_iff_eq, beq_eq_false_iff_ne, bne_iff_ne, bne_eq_false_iff_eq, Bool.not_eq_true', Bool.not_eq_false', ne_eq, Int.not_lt, Int.not_le, ge_iff_le, gt_iff_lt] at h6
        all_goals (
          refine HC_skip ?_
          refine HQ_then ?_
          refine hK2 _ _ _ _ ?_; clear hK2 K2
          refine HC_seq fun K8 hK8 => ?_
          have hv01 : v = 0 ∨ v = 1 := by omega
          refine HC_region ?_
          all_goals refine HL_r rfl rfl rfl rfl (R_move rfl) ?_
          all_goals refine HL_r rfl rfl rfl rfl (R_pure rfl rfl rfl) ?_; refine HL_as (show _ = uV v.toNat from congrArg (Value.int .u64) (by rw [wrap_u64 (by omega) (by omega)]; omega)) ?_
          all_goals refine HL_callP rfl rfl rfl (enters_of Tryd.func32 (by kernel_rfl) rfl) (P_word_Of v.toNat) ?_
          all_goals refine HL_callP rfl rfl rfl (enters_of Tryd.func31 (by kernel_rfl) rfl) (P_word_Fixed (l := [v.toNat, 0, 0, 0]) (wokN (by omega))) ?_; refine HL_as (show _ = Value.string (bs (headO v ++ (p.take 0).flatten)) from by simp [headO]) ?_
          all_goals refine HL_r rfl rfl rfl rfl (R_assign rfl) ?_
          all_goals refine HL_nil ?_
          all_goals (
            refine HQ_then ?_
            refine hK8 _ _ _ _ ?_; clear hK8 K8
            refine HC_seq fun K9 hK9 => ?_
            refine HC_seq fun K10 hK10 => ?_
            refine HC_region ?_
            all_goals refine HL_r rfl rfl rfl rfl (R_move rfl) ?_
            all_goals refine HL_nil ?_
            all_goals (
              refine HQ_then ?_
              refine hK10 _ _ _ _ ?_; clear hK10 K10
              refine HC_block ?_
              refine HC_loop (σ := Nat) (fun i => i ≤ p.length ∧ ∀ j, j < i → (p.getD j []).length = 32) (fun i => [(0, .int .i64 v), (2, uV n), (4, .pointer (some ⟨r1, 0, none⟩)), (8, .string (bs (headO v ++ (p.take i).flatten))), (22, .int .i64 (i : Int))]) (fun i => [(r1, .cells (p.map sV).toArray 22 (0, 0))]) (fun _ _ _ => True) (fun i => 3 - i) 0 ⟨Nat.zero_le _, fun j hj => by omega⟩ (.cons rfl (.cons rfl (.cons rfl (.cons rfl (.cons rfl .nil))))) (List.Sublist.refl _) (fun _ _ h => h) ?_
              rintro i ⟨hi, hall⟩
              refine HC_seq fun K11 hK11 => ?_
              refine HC_region ?_
              all_goals refine HL_r rfl rfl rfl rfl (R_pure rfl rfl rfl) ?_
              all_goals refine HL_nil ?_
              all_goals (
                refine HQ_then ?_
                refine hK11 _ _ _ _ ?_; clear hK11 K11
                refine HC_seq fun K12 hK12 => ?_
                refine HC_cond rfl (fun h13 => ?_) (fun h13 => ?_)
                · try exact Bool.noConfusion h13
                  all_goals try simp only [decide_eq_true_eq, decide_eq_false_iff_not, beq_iff_eq, beq_eq_false_iff_ne, bne_iff_ne, bne_eq_false_iff_eq, Bool.not_eq_true', Bool.not_eq_false', ne_eq, Int.not_lt, Int.not_le, ge_iff_le, gt_iff_lt] at h13
                  all_goals (
                    refine HC_skip ?_
                    refine HQ_then ?_
                    refine hK12 _ _ _ _ ?_; clear hK12 K12
                    refine HC_seq fun K14 hK14 => ?_
                    refine HC_block ?_
                    refine HC_seq fun K15 hK15 => ?_
                    refine HC_region ?_
                    all_goals refine HL_r rfl rfl rfl rfl (R_move rfl) ?_
                    all_goals refine HL_r rfl rfl rfl rfl (R_assign rfl) ?_
                    all_goals refine HL_nil ?_
                    all_goals (
                      refine HQ_then ?_
                      refine hK15 _ _ _ _ ?_; clear hK15 K15
                      refine HC_seq fun K16 hK16 => ?_
                      refine HC_seq fun K17 hK17 => ?_
                      have hfl := flat_take i (by omega) hall
                      refine HC_region ?_
                      all_goals refine HL_r rfl rfl rfl rfl (R_move rfl) ?_
                      all_goals refine HL_r rfl rfl rfl rfl (R_indexA (j := i) (m := 1) (off' := i) rfl rfl rfl rfl (by omega) (by omega) (by omega)) ?_
                      all_goals refine HL_r rfl rfl rfl rfl (R_loadAt rfl (known_L (k := 0) rfl) rfl (mapS_get (by omega))) ?_
                      all_goals first
                        | (refine HL_r rfl rfl rfl rfl (R_lenBs rfl rfl) ?_)
                        | (refine HL_r rfl rfl rfl rfl (R_lenSl rfl rfl) ?_)
                        | (refine HL_r rfl rfl rfl rfl (R_lenStr rfl rfl rfl) ?_)
                        | (refine HL_r rfl rfl rfl rfl (R_pure rfl rfl rfl) ?_)
                      all_goals refine HL_r rfl rfl rfl rfl (R_pure rfl rfl rfl) ?_
                      all_goals refine HL_nil ?_
                      all_goals (
                        refine HQ_then ?_
                        refine hK17 _ _ _ _ ?_; clear hK17 K17
                        refine HC_cond rfl (fun h18 => ?_) (fun h18 => ?_)
                        · try exact Bool.noConfusion h18
                          all_goals try simp only [decide_eq_true_eq, decide_eq_false_iff_not, beq_iff_eq, beq_eq_false_iff_ne, bne_iff_ne, bne_eq_false_iff_eq, Bool.not_eq_true', Bool.not_eq_false', ne_eq, Int.not_lt, Int.not_le, ge_iff_le, gt_iff_lt] at h18
                          all_goals (
                            refine HC_seq fun K19 hK19 => ?_
                            refine HC_region ?_
                            all_goals refine HL_r rfl rfl rfl rfl (R_assign rfl) ?_
                            all_goals refine HL_r rfl rfl rfl rfl (R_assign rfl) ?_
                            all_goals refine HL_nil ?_
                            all_goals (
                              refine HQ_then ?_
                              refine hK19 _ _ _ _ ?_; clear hK19 K19
                              refine HC_ret ?_
                              refine HQ_thenR ?_; clear hK16 K16
                              refine HQ_blockR ?_
                              refine HQ_thenR ?_; clear hK14 K14
                              refine HQ_thenR ?_
                              refine HQ_blockR ?_
                              refine HQ_thenR ?_; clear hK9 K9
                              refine HQ_post rfl rfl (.cons (res_tmp rfl) (.cons (res_tmp rfl) .nil)) (fun w1 hs1 => ?_)
                              refine ⟨?_, hs1.keep⟩
                              first
                                | (rw [putR_ok hv01 hall (by omega)]; simp only [tailO]; first | (rw [if_pos (by omega)]; rfl) | (rw [if_neg (by omega), List.append_nil]; rfl))
                                | (rw [putR_2b (by omega) (by omega)]; rfl)
                                | (rw [putR_2a (i := i) hv01 (by omega) (by omega)]; rfl)
                                | (rw [putR_9 (by omega) (by omega)]; rfl)
                              skip)
                            skip)
                        · try exact Bool.noConfusion h18
                          all_goals try simp only [decide_eq_true_eq, decide_eq_false_iff_not, beq_iff_eq, beq_eq_false_iff_ne, bne_iff_ne, bne_eq_false_iff_eq, Bool.not_eq_true', Bool.not_eq_false', ne_eq, Int.not_lt, Int.not_le, ge_iff_le, gt_iff_lt] at h18
                          all_goals (
                            refine HC_skip ?_
                            refine HQ_then ?_
                            refine hK16 _ _ _ _ ?_; clear hK16 K16
                            refine HC_region ?_
                            all_goals refine HL_r rfl rfl rfl rfl (R_move rfl) ?_
                            all_goals refine HL_r rfl rfl rfl rfl (R_move rfl) ?_
                            all_goals refine HL_r rfl rfl rfl rfl (R_indexA (j := i) (m := 1) (off' := i) rfl rfl rfl rfl (by omega) (by omega) (by omega)) ?_
                            all_goals refine HL_r rfl rfl rfl rfl (R_loadAt rfl (known_L (k := 0) rfl) rfl (mapS_get (by omega))) ?_
                            all_goals refine HL_r rfl rfl rfl rfl (R_concat rfl rfl (by simp only [List.length_append]; omega)) ?_
                            all_goals refine HL_r rfl rfl rfl rfl (R_assign rfl) ?_
                            all_goals refine HL_nil ?_
                            all_goals (
                              refine HQ_blockN ?_
                              refine HQ_then ?_
                              refine hK14 _ _ _ _ ?_; clear hK14 K14
                              refine HC_region ?_
                              all_goals first
                                | (refine HL_r rfl rfl rfl rfl (R_pure rfl rfl rfl) ?_; refine HL_wrap_i64 (by omega) (by omega) ?_)
                                | (refine HL_r rfl rfl rfl rfl (R_pure rfl rfl rfl) ?_)
                              all_goals refine HL_r rfl rfl rfl rfl (R_move rfl) ?_
                              all_goals refine HL_nil ?_
                              all_goals (
                                refine HQ_then ?_
                                exact HQ_again (i + 1) ⟨by omega, fun j hj => by
                                  by_cases hji : j = i
                                  · subst hji; omega
                                  · exact hall j (by omega)⟩ (by omega) (.cons rfl (.cons rfl (.cons rfl (.cons (by rw [flat_succ (by omega), ← List.append_assoc]; rfl) (.cons rfl .nil))))) (List.Sublist.refl _) (fun _ _ h => h)
                                skip)
                              skip)
                            skip)
                        skip)
                      skip)
                    skip)
                · try exact Bool.noConfusion h13
                  all_goals try simp only [decide_eq_true_eq, decide_eq_false_iff_not, beq_iff_eq, beq_eq_false_iff_ne, bne_iff_ne, bne_eq_false_iff_eq, Bool.not_eq_true', Bool.not_eq_false', ne_eq, Int.not_lt, Int.not_le, ge_iff_le, gt_iff_lt] at h13
                  all_goals (
                    refine HC_exit ?_
                    refine HQ_thenE ?_; clear hK12 K12
                    refine HQ_thenE ?_
                    refine HQ_blockE ?_
                    refine HQ_then ?_
                    refine hK9 _ _ _ _ ?_; clear hK9 K9
                    refine HC_seq fun K20 hK20 => ?_
                    refine HC_seq fun K21 hK21 => ?_
                    have hi3 : i = p.length := by omega
                    subst hi3
                    have hfl := flat_take p.length (Nat.le_refl _) hall
                    rw [List.take_length] at hfl ⊢
                    rw [hp] at hfl
                    refine HC_region ?_
                    all_goals refine HL_r rfl rfl rfl rfl (R_move rfl) ?_
                    all_goals refine HL_r rfl rfl rfl rfl (R_pure rfl rfl rfl) ?_
                    all_goals refine HL_r rfl rfl rfl rfl (R_move rfl) ?_
                    all_goals first
                      | (refine HL_r rfl rfl rfl rfl (R_move rfl) ?_)
                      | (refine HL_skip rfl rfl rfl ?_)
                      | (refine HL_case 38 rfl (fun hb22 => ?_) (fun hb22 => ?_) <;> (try simp only [decide_eq_true_eq, decide_eq_false_iff_not, beq_iff_eq, beq_eq_false_iff_ne, bne_iff_ne, bne_eq_false_iff_eq, Bool.not_eq_true', Bool.not_eq_false', ne_eq, Int.not_lt, Int.not_le, ge_iff_le, gt_iff_lt] at hb22) <;> first | (refine HL_r rfl rfl rfl rfl (R_move rfl) ?_) | (refine HL_skip rfl rfl rfl ?_))
                    all_goals first
                      | (refine HL_r rfl rfl rfl rfl (R_pure rfl rfl rfl) ?_)
                      | (refine HL_skip rfl rfl rfl ?_)
                      | (refine HL_case 38 rfl (fun hb23 => ?_) (fun hb23 => ?_) <;> (try simp only [decide_eq_true_eq, decide_eq_false_iff_not, beq_iff_eq, beq_eq_false_iff_ne, bne_iff_ne, bne_eq_false_iff_eq, Bool.not_eq_true', Bool.not_eq_false', ne_eq, Int.not_lt, Int.not_le, ge_iff_le, gt_iff_lt] at hb23) <;> first | (refine HL_r rfl rfl rfl rfl (R_pure rfl rfl rfl) ?_) | (refine HL_skip rfl rfl rfl ?_))
                    all_goals first
                      | (refine HL_r rfl rfl rfl rfl (R_pickT rfl rfl) ?_)
                      | (refine HL_r rfl rfl rfl rfl (R_pickF rfl rfl) ?_)
                    all_goals refine HL_nil ?_
                    all_goals (
                      refine HQ_then ?_
                      refine hK21 _ _ _ _ ?_; clear hK21 K21
                      refine HC_cond rfl (fun h24 => ?_) (fun h24 => ?_)
                      · try exact Bool.noConfusion h24
                        all_goals try simp only [decide_eq_true_eq, decide_eq_false_iff_not, beq_iff_eq, beq_eq_false_iff_ne, bne_iff_ne, bne_eq_false_iff_eq, Bool.not_eq_true', Bool.not_eq_false', ne_eq, Int.not_lt, Int.not_le, ge_iff_le, gt_iff_lt] at h24
                        all_goals (
                          refine HC_seq fun K25 hK25 => ?_
                          refine HC_region ?_
                          all_goals refine HL_r rfl rfl rfl rfl (R_assign rfl) ?_
                          all_goals refine HL_r rfl rfl rfl rfl (R_assign rfl) ?_
                          all_goals refine HL_nil ?_
                          all_goals (
                            refine HQ_then ?_
                            refine hK25 _ _ _ _ ?_; clear hK25 K25
                            refine HC_ret ?_
                            refine HQ_thenR ?_; clear hK20 K20
                            refine HQ_post rfl rfl (.cons (res_tmp rfl) (.cons (res_tmp rfl) .nil)) (fun w1 hs1 => ?_)
                            refine ⟨?_, hs1.keep⟩
                            first
                              | (rw [putR_ok hv01 hall (by omega)]; simp only [tailO]; first | (rw [if_pos (by omega)]; rfl) | (rw [if_neg (by omega), List.append_nil]; rfl))
                              | (rw [putR_2b (by omega) (by omega)]; rfl)
                              | (rw [putR_2a (i := i) hv01 (by omega) (by omega)]; rfl)
                              | (rw [putR_9 (by omega) (by omega)]; rfl)
                            skip)
                          skip)
                      · try exact Bool.noConfusion h24
                        all_goals try simp only [decide_eq_true_eq, decide_eq_false_iff_not, beq_iff_eq, beq_eq_false_iff_ne, bne_iff_ne, bne_eq_false_iff_eq, Bool.not_eq_true', Bool.not_eq_false', ne_eq, Int.not_lt, Int.not_le, ge_iff_le, gt_iff_lt] at h24
                        all_goals (
                          refine HC_skip ?_
                          refine HQ_then ?_
                          refine hK20 _ _ _ _ ?_; clear hK20 K20
                          refine HC_seq fun K26 hK26 => ?_
                          refine HC_seq fun K27 hK27 => ?_
                          refine HC_region ?_
                          all_goals refine HL_r rfl rfl rfl rfl (R_move rfl) ?_
                          all_goals refine HL_r rfl rfl rfl rfl (R_pure rfl rfl rfl) ?_
                          all_goals refine HL_nil ?_
                          all_goals (
                            refine HQ_then ?_
                            refine hK27 _ _ _ _ ?_; clear hK27 K27
                            refine HC_cond rfl (fun h28 => ?_) (fun h28 => ?_)
                            · try exact Bool.noConfusion h28
                              all_goals try simp only [decide_eq_true_eq, decide_eq_false_iff_not, beq_iff_eq, beq_eq_false_iff_ne, bne_iff_ne, bne_eq_false_iff_eq, Bool.not_eq_true', Bool.not_eq_false', ne_eq, Int.not_lt, Int.not_le, ge_iff_le, gt_iff_lt] at h28
                              all_goals (
                                refine HC_seq fun K29 hK29 => ?_
                                refine HC_region ?_
                                all_goals refine HL_r rfl rfl rfl rfl (R_move rfl) ?_
                                all_goals refine HL_callP rfl rfl rfl (enters_of Tryd.func23 (by kernel_rfl) rfl) (P_num_Le hn 8) ?_; refine HL_as (congrArg resS (le8 hn)) ?_
                                all_goals refine HL_r rfl rfl rfl rfl (R_move rfl) ?_
                                all_goals refine HL_r rfl rfl rfl rfl (R_extract rfl rfl) ?_
                                all_goals refine HL_r rfl rfl rfl rfl (R_extract rfl rfl) ?_
                                all_goals refine HL_r rfl rfl rfl rfl (R_assign rfl) ?_
                                all_goals refine HL_r rfl rfl rfl rfl (R_assign rfl) ?_
                                all_goals refine HL_nil ?_
                                all_goals (
                                  refine HQ_then ?_
                                  refine hK29 _ _ _ _ ?_; clear hK29 K29
                                  refine HC_region ?_
                                  all_goals refine HL_r rfl rfl rfl rfl (R_move rfl) ?_
                                  all_goals refine HL_r rfl rfl rfl rfl (R_move rfl) ?_
                                  all_goals refine HL_r rfl rfl rfl rfl (R_concat rfl rfl (by simp only [List.length_append, leN_len]; omega)) ?_
                                  all_goals refine HL_r rfl rfl rfl rfl (R_assign rfl) ?_
                                  all_goals refine HL_nil ?_
                                  all_goals (
                                    refine HQ_then ?_
                                    refine hK26 _ _ _ _ ?_; clear hK26 K26
                                    refine HC_seq fun K30 hK30 => ?_
                                    refine HC_region ?_
                                    all_goals refine HL_r rfl rfl rfl rfl (R_move rfl) ?_
                                    all_goals refine HL_r rfl rfl rfl rfl (R_assign rfl) ?_
                                    all_goals refine HL_r rfl rfl rfl rfl (R_assign rfl) ?_
                                    all_goals refine HL_nil ?_
                                    all_goals (
                                      refine HQ_then ?_
                                      refine hK30 _ _ _ _ ?_; clear hK30 K30
                                      refine HC_ret ?_
                                      refine HQ_post rfl rfl (.cons (res_tmp rfl) (.cons (res_tmp rfl) .nil)) (fun w1 hs1 => ?_)
                                      refine ⟨?_, hs1.keep⟩
                                      first
                                        | (rw [putR_ok hv01 hall (by omega)]; simp only [tailO]; first | (rw [if_pos (by omega)]; rfl) | (rw [if_neg (by omega), List.append_nil]; rfl))
                                        | (rw [putR_2b (by omega) (by omega)]; rfl)
                                        | (rw [putR_2a (i := i) hv01 (by omega) (by omega)]; rfl)
                                        | (rw [putR_9 (by omega) (by omega)]; rfl)
                                      skip)
                                    skip)
                                  skip)
                                skip)
                            · try exact Bool.noConfusion h28
                              all_goals try simp only [decide_eq_true_eq, decide_eq_false_iff_not, beq_iff_eq, beq_eq_false_iff_ne, bne_iff_ne, bne_eq_false_iff_eq, Bool.not_eq_true', Bool.not_eq_false', ne_eq, Int.not_lt, Int.not_le, ge_iff_le, gt_iff_lt] at h28
                              all_goals (
                                refine HC_skip ?_
                                refine HQ_then ?_
                                refine hK26 _ _ _ _ ?_; clear hK26 K26
                                refine HC_seq fun K31 hK31 => ?_
                                refine HC_region ?_
                                all_goals refine HL_r rfl rfl rfl rfl (R_move rfl) ?_
                                all_goals refine HL_r rfl rfl rfl rfl (R_assign rfl) ?_
                                all_goals refine HL_r rfl rfl rfl rfl (R_assign rfl) ?_
                                all_goals refine HL_nil ?_
                                all_goals (
                                  refine HQ_then ?_
                                  refine hK31 _ _ _ _ ?_; clear hK31 K31
                                  refine HC_ret ?_
                                  refine HQ_post rfl rfl (.cons (res_tmp rfl) (.cons (res_tmp rfl) .nil)) (fun w1 hs1 => ?_)
                                  refine ⟨?_, hs1.keep⟩
                                  first
                                    | (rw [putR_ok hv01 hall (by omega)]; simp only [tailO]; first | (rw [if_pos (by omega)]; rfl) | (rw [if_neg (by omega), List.append_nil]; rfl))
                                    | (rw [putR_2b (by omega) (by omega)]; rfl)
                                    | (rw [putR_2a (i := i) hv01 (by omega) (by omega)]; rfl)
                                    | (rw [putR_9 (by omega) (by omega)]; rfl)
                                  skip)
                                skip)
                            skip)
                          skip)
                      skip)
                    skip)
                skip)
              skip)
            skip)
          skip)
      skip)
    skip)
end Go.Proofs.YthfinkklgbiaeaaDoor
