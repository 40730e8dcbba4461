import Derived.Test.YthfinkklgbiaeaaDoorNf
import Derived.Test.YthfinkklgbiaeaaDoorSlf
namespace Go.Proofs.YthfinkklgbiaeaaDoor
set_option linter.all false
open Go.SL Go.RowKit Go.Shelf
set_option maxRecDepth 10000 in
theorem P_rot {n k : Nat} (hn : n < 18446744073709551616) (hk : k < 9223372036854775808) : Pure Tryd.prog 66 [uV n, .int .i64 (k : Int)].toArray (uV (rotN n k)) := by
  refine pure_of_HC Tryd.func66 rfl rfl fun w => ?_
  have hk6 : k % 64 < 64 := Nat.mod_lt _ (by decide)
  refine HC_seq fun K1 hK1 => ?_
  refine HC_region ?_
  all_goals refine HL_r rfl rfl rfl rfl (R_assign rfl) ?_
  all_goals refine HL_nil ?_
  all_goals (
    refine HQ_then ?_
    refine hK1 _ _ _ _ ?_; clear hK1 K1
    refine HC_seq fun K2 hK2 => ?_
    refine HC_region ?_
    all_goals refine HL_r rfl rfl rfl rfl (R_move rfl) ?_
    all_goals refine HL_r rfl rfl rfl rfl (R_pure rfl rfl rfl) ?_; refine HL_as (show _ = uV k from congrArg (Value.int .u64) (wrap_u64 (by omega) (by omega))) ?_
    all_goals refine HL_r rfl rfl rfl rfl (R_bits64 (op := .and) (b := ((k % 64 : Nat) : Int)) rfl rfl rfl (by omega) (by decide) (congrArg (fun z : Nat => (z : Int)) (Nat.and_two_pow_sub_one_eq_mod k 6))) ?_
    all_goals refine HL_r rfl rfl rfl rfl (R_assign rfl) ?_
    all_goals refine HL_nil ?_
    all_goals (
      refine HQ_then ?_
      refine hK2 _ _ _ _ ?_; clear hK2 K2
      refine HC_seq fun K3 hK3 => ?_
      refine HC_region ?_
      all_goals refine HL_r rfl rfl rfl rfl (R_move rfl) ?_
      all_goals refine HL_r rfl rfl rfl rfl (R_move rfl) ?_
      all_goals refine HL_r rfl rfl rfl rfl (R_shl (n := k % 64) (b := ((n * 2 ^ (k % 64) % 18446744073709551616 : Nat) : Int)) rfl rfl rfl (show _ ≤ 64 from by omega) (wrapU _)) ?_
      all_goals refine HL_r rfl rfl rfl rfl (R_move rfl) ?_
      all_goals refine HL_r rfl rfl rfl rfl (R_move rfl) ?_
      all_goals refine HL_r rfl rfl rfl rfl (R_pure rfl rfl rfl) ?_; refine HL_as (show _ = uV (64 - k % 64) from congrArg (Value.int .u64) (by rw [wrap_u64 (by omega) (by omega)]; omega)) ?_
      all_goals refine HL_r rfl rfl rfl rfl (R_shr (n := 64 - k % 64) rfl rfl rfl (show _ ≤ 64 from by omega) (by omega) (shr_nat _ _)) ?_
      all_goals refine HL_r rfl rfl rfl rfl (R_bits64 (op := .or) (b := ((rotN n k : Nat) : Int)) rfl rfl rfl (Nat.mod_lt _ (by decide)) (Nat.lt_of_le_of_lt (Nat.div_le_self _ _) hn) rfl) ?_
      all_goals refine HL_r rfl rfl rfl rfl (R_assign rfl) ?_
      all_goals refine HL_nil ?_
      all_goals (
        refine HQ_then ?_
        refine hK3 _ _ _ _ ?_; clear hK3 K3
        refine HC_ret ?_
        refine HQ_post rfl rfl (.cons (res_tmp rfl) .nil) (fun w1 hs1 => ?_)
        exact ⟨rfl, hs1.keep⟩
        skip)
      skip)
    skip)
set_option maxRecDepth 10000 in
theorem P_each : Pure Tryd.prog 65 [].toArray (.func (.func 79) #[] #[]) := by
  refine pure_of_HC Tryd.func65 rfl rfl fun w => ?_
  refine HC_seq fun K1 hK1 => ?_
  refine HC_region ?_
  all_goals refine HL_r rfl rfl rfl rfl (R_assign rfl) ?_
  all_goals refine HL_nil ?_
  all_goals (
    refine HQ_then ?_
    refine hK1 _ _ _ _ ?_; clear hK1 K1
    refine HC_seq fun K2 hK2 => ?_
    refine HC_region ?_
    all_goals refine HL_r rfl rfl rfl rfl (R_assign rfl) ?_
    all_goals refine HL_nil ?_
    all_goals (
      refine HQ_then ?_
      refine hK2 _ _ _ _ ?_; clear hK2 K2
      refine HC_ret ?_
      refine HQ_post rfl rfl (.cons (res_tmp rfl) .nil) (fun w1 hs1 => ?_)
      exact ⟨rfl, hs1.keep⟩
      skip)
    skip)
def eachAt (i : Nat) : List Value := [.int .i64 (i : Int), .agg [.int .i64 ((i % 5 : Nat) : Int), .int .i64 ((i / 5 : Nat) : Int)].toArray]
set_option maxRecDepth 10000 in
theorem I_each : Iter Tryd.prog 79 [] [] 0 (nxN eachAt 25) (finN 25) := by
  refine iter_of_HC Tryd.func79 rfl rfl fun q xids w2 XI XF hY => ?_
  refine HC_seq fun K1 hK1 => ?_
  refine HC_region ?_
  all_goals refine HL_r rfl rfl rfl rfl (R_move rfl) ?_
  all_goals refine HL_nil ?_
  all_goals (
    refine HQ_then ?_
    refine hK1 _ _ _ _ ?_; clear hK1 K1
    refine HC_block ?_
    refine HC_loop (σ := Nat) (fun i => i ≤ 25) (fun i => [(0, .func (.yield q) #[] #[]), (3, .int .i64 (i : Int))]) (fun _ => []) (fun i => XI i) (fun i => 25 - i) 0 (Nat.zero_le _) (.cons rfl (.cons rfl .nil)) (List.nil_sublist _) (fun _ _ h => h) ?_
    intro i hi
    refine HC_seq fun K2 hK2 => ?_
    refine HC_region ?_
    all_goals refine HL_r rfl rfl rfl rfl (R_pure rfl rfl rfl) ?_
    all_goals refine HL_nil ?_
    all_goals (
      refine HQ_then ?_
      refine hK2 _ _ _ _ ?_; clear hK2 K2
      refine HC_seq fun K3 hK3 => ?_
      refine HC_cond rfl (fun h4 => ?_) (fun h4 => ?_)
      · try exact Bool.noConfusion h4
        all_goals try simp only [decide_eq_true_eq, decide_eq_false_iff_not, beq_iff_eq, beq_eq_false_iff_ne, bne_iff_ne, bne_eq_false_iff_eq, Bool.not_eq_true', Bool.not_eq_false', ne_eq, Int.not_lt, Int.not_le, ge_iff_le, gt_iff_lt] at h4
        all_goals (
          refine HC_skip ?_
          refine HQ_then ?_
          refine hK3 _ _ _ _ ?_; clear hK3 K3
          refine HC_seq fun K5 hK5 => ?_
          refine HC_block ?_
          refine HC_seq fun K6 hK6 => ?_
          refine HC_region ?_
          all_goals refine HL_r rfl rfl rfl rfl (R_move rfl) ?_
          all_goals refine HL_r rfl rfl rfl rfl (R_assign rfl) ?_
          all_goals refine HL_nil ?_
          all_goals (
            refine HQ_then ?_
            refine hK6 _ _ _ _ ?_; clear hK6 K6
            refine HC_seq fun K7 hK7 => ?_
            refine HC_region ?_
            all_goals refine HL_r rfl rfl rfl rfl (R_move rfl) ?_
            all_goals refine HL_r rfl rfl rfl rfl (R_move rfl) ?_
            all_goals refine HL_r rfl rfl rfl rfl (R_move rfl) ?_
            all_goals refine HL_r rfl rfl rfl rfl (R_pure rfl rfl rfl) ?_; refine HL_as (show _ = Value.int .i64 ((i % 5 : Nat) : Int) from congrArg (Value.int .i64) (rem_nat _ 5)) ?_
            all_goals refine HL_r rfl rfl rfl rfl (R_move rfl) ?_
            all_goals refine HL_r rfl rfl rfl rfl (R_pure rfl rfl rfl) ?_; refine HL_as (show _ = Value.int .i64 ((i / 5 : Nat) : Int) from congrArg (Value.int .i64) (by rw [quo_i64 (by omega) (by omega) (by omega)]; omega)) ?_
            all_goals refine HL_r rfl rfl rfl rfl (R_build (r := [_, _]) rfl rfl) ?_
            all_goals refine HL_yield (XT := XI (i + 1)) (XF := XF) rfl rfl rfl rfl (hY i (eachAt i) (i + 1) ⟨by omega, rfl, rfl⟩) ?_ ?_
            all_goals refine HL_r rfl rfl rfl rfl (R_pure rfl rfl rfl) ?_
            all_goals refine HL_nil ?_
            all_goals (
              refine HQ_then ?_
              refine hK7 _ _ _ _ ?_; clear hK7 K7
              refine HC_cond rfl (fun h8 => ?_) (fun h8 => ?_)
              · try exact Bool.noConfusion h8
                all_goals try simp only [decide_eq_true_eq, decide_eq_false_iff_not, beq_iff_eq, beq_eq_false_iff_ne, bne_iff_ne, bne_eq_false_iff_eq, Bool.not_eq_true', Bool.not_eq_false', ne_eq, Int.not_lt, Int.not_le, ge_iff_le, gt_iff_lt] at h8
                all_goals (
                  refine HC_ret ?_
                  refine HQ_blockR ?_
                  refine HQ_thenR ?_; clear hK5 K5
                  refine HQ_thenR ?_
                  refine HQ_blockR ?_
                  refine HQ_post rfl rfl .nil (fun w1 hs1 => ?_)
                  obtain ⟨xs1, hx1⟩ := hs1.now
                  first
                    | exact ⟨⟨_, rfl⟩, hs1.keep, .inr ⟨_, hx1⟩⟩
                    | exact ⟨⟨_, rfl⟩, hs1.keep, .inl ⟨i, _, (by show i = 25; omega), hx1⟩⟩
                  skip)
              · try exact Bool.noConfusion h8
                all_goals try simp only [decide_eq_true_eq, decide_eq_false_iff_not, beq_iff_eq, beq_eq_false_iff_ne, bne_iff_ne, bne_eq_false_iff_eq, Bool.not_eq_true', Bool.not_eq_false', ne_eq, Int.not_lt, Int.not_le, ge_iff_le, gt_iff_lt] at h8
                all_goals (
                  refine HC_skip ?_
                  refine HQ_blockN ?_
                  refine HQ_then ?_
                  refine hK5 _ _ _ _ ?_; clear hK5 K5
                  refine HC_region ?_
                  all_goals first
                    | (refine HL_r rfl rfl rfl rfl (R_pure rfl rfl rfl) ?_; refine HL_wrap_i64 (by omega) (by omega) ?_)
                    | (refine HL_r rfl rfl rfl rfl (R_pure rfl rfl rfl) ?_)
                  all_goals refine HL_r rfl rfl rfl rfl (R_move rfl) ?_
                  all_goals refine HL_nil ?_
                  all_goals (
                    refine HQ_then ?_
                    exact HQ_again (i + 1) (by omega) (by omega) (.cons rfl (.cons rfl .nil)) (List.nil_sublist _) (fun _ _ h => h)
                    skip)
                  skip)
              skip)
            skip)
          skip)
      · try exact Bool.noConfusion h4
        all_goals try simp only [decide_eq_true_eq, decide_eq_false_iff_not, beq_iff_eq, beq_eq_false_iff_ne, bne_iff_ne, bne_eq_false_iff_eq, Bool.not_eq_true', Bool.not_eq_false', ne_eq, Int.not_lt, Int.not_le, ge_iff_le, gt_iff_lt] at h4
        all_goals (
          refine HC_exit ?_
          refine HQ_thenE ?_; clear hK3 K3
          refine HQ_thenE ?_
          refine HQ_blockE ?_
          refine HQ_postN rfl rfl .nil (fun w1 hs1 => ?_)
          obtain ⟨xs1, hx1⟩ := hs1.now
          first
            | exact ⟨⟨_, rfl⟩, hs1.keep, .inr ⟨_, hx1⟩⟩
            | exact ⟨⟨_, rfl⟩, hs1.keep, .inl ⟨i, _, (by show i = 25; omega), hx1⟩⟩
          skip)
      skip)
    skip)
end Go.Proofs.YthfinkklgbiaeaaDoor
