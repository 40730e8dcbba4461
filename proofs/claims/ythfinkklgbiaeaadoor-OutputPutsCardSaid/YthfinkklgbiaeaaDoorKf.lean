import Derived.Test.YthfinkklgbiaeaaDoorKe
namespace Go.Proofs.YthfinkklgbiaeaaDoor
set_option linter.all false
open Go.SL Go.RowKit Go.Shelf
section
variable {c : Cx} {l : List (Nat × Value)} {L : List (Nat × Obj)} {X : XP} {d : List Deferred}
variable {i : Nat} {v : Value} {t : TypeId} {ps : String} {af : Array Edge} {gd : Option (Nat × Bool)} {ty t2 : TypeId}
theorem R_xorI {x y : Operand} {m n : Nat} (hx : evl l x = some (.int .i64 (m : Int))) (hy : evl l y = some (.int .i64 (n : Int))) (hm : m < 9223372036854775808) (hn : n < 9223372036854775808) :
    RunsTo c d l L X ⟨some i, .binOp .xor t x y t2, ty, ps, af, gd⟩ (.int .i64 ((m ^^^ n : Nat) : Int)) := fun a' w hfr _ => by
  have e1 : (BitVec.ofInt 64 (m : Int)).toNat = m := by simp [BitVec.toNat_ofInt]; omega
  have e2 : (BitVec.ofInt 64 (n : Int)).toNat = n := by simp [BitVec.toNat_ofInt]; omega
  have hx3 : m ^^^ n < 2 ^ 63 := Nat.xor_lt_two_pow (n := 63) hm hn
  have wr : IntKind.i64.wrap ((m ^^^ n : Nat) : Int) = ((m ^^^ n : Nat) : Int) := wrap_i64 (by omega) (by omega)
  simp only [execOp]
  rw [hfr.eval hx, hfr.eval hy]
  have e3 : (BitVec.ofInt 64 (m : Int) ^^^ BitVec.ofInt 64 (n : Int)).toNat = m ^^^ n := by rw [BitVec.toNat_xor, e1, e2]
  show Sem.run c.P (pure (Next.value (Value.int .i64 (IntKind.i64.wrap (((BitVec.ofInt 64 (m : Int) ^^^ BitVec.ofInt 64 (n : Int)).toNat : Nat) : Int))))) w = _
  rw [e3, wr]; rfl
end
theorem rotN_0 {n k : Nat} (hn : n < 18446744073709551616) (hk : k % 64 = 0) : rotN n k = n := by
  unfold rotN
  rw [hk, Nat.pow_zero, Nat.mul_one, Nat.mod_eq_of_lt hn, show 2 ^ (64 - 0) = 18446744073709551616 from rfl, Nat.div_eq_of_lt hn, Nat.or_zero]
set_option maxRecDepth 10000 in
theorem P_ref3_rot {n k : Nat} (hn : n < 18446744073709551616) (hk : k < 9223372036854775808) : Pure Tryd.prog 77 [uV n, .int .i64 (k : Int)].toArray (uV (rotN n k)) := by
  refine pure_of_HC Tryd.func77 rfl rfl fun w => ?_
  have hk6 : k % 64 < 64 := Nat.mod_lt _ (by decide)
  refine HC_seq fun K1 hK1 => ?_
  refine HC_region ?_
  all_goals refine HL_r rfl rfl rfl rfl (R_assign rfl) ?_
  all_goals refine HL_nil ?_
  all_goals (
    refine HQ_then ?_
    refine hK1 _ _ _ _ ?_; clear hK1 K1
    refine HC_seq fun K2 hK2 => ?_
    refine HC_region ?_
    all_goals refine HL_r rfl rfl rfl rfl (R_move rfl) ?_
    all_goals refine HL_r rfl rfl rfl rfl (R_pure rfl rfl rfl) ?_; refine HL_as (show _ = Value.int .i64 ((k % 64 : Nat) : Int) from congrArg (Value.int .i64) (by rw [Int.tmod_eq_emod_of_nonneg (by omega)]; omega)) ?_
    all_goals refine HL_r rfl rfl rfl rfl (R_assign rfl) ?_
    all_goals refine HL_nil ?_
    all_goals (
      refine HQ_then ?_
      refine hK2 _ _ _ _ ?_; clear hK2 K2
      refine HC_seq fun K3 hK3 => ?_
      refine HC_seq fun K4 hK4 => ?_
      refine HC_region ?_
      all_goals refine HL_r rfl rfl rfl rfl (R_move rfl) ?_
      all_goals refine HL_r rfl rfl rfl rfl (R_pure rfl rfl rfl) ?_
      all_goals refine HL_nil ?_
      all_goals (
        refine HQ_then ?_
        refine hK4 _ _ _ _ ?_; clear hK4 K4
        refine HC_cond rfl (fun h5 => ?_) (fun h5 => ?_)
        · try exact Bool.noConfusion h5
          all_goals try simp only [decide_eq_true_eq, decide_eq_false_iff_not, beq_iff_eq, beq_eq_false_iff_ne, bne_iff_ne, bne_eq_false_iff_eq, Bool.not_eq_true', Bool.not_eq_false', ne_eq, Int.not_lt, Int.not_le, ge_iff_le, gt_iff_lt] at h5
          all_goals (
            refine HC_seq fun K6 hK6 => ?_
            refine HC_region ?_
            all_goals refine HL_r rfl rfl rfl rfl (R_move rfl) ?_
            all_goals refine HL_r rfl rfl rfl rfl (R_assign rfl) ?_
            all_goals refine HL_nil ?_
            all_goals (
              refine HQ_then ?_
              refine hK6 _ _ _ _ ?_; clear hK6 K6
              refine HC_ret ?_
              refine HQ_thenR ?_; clear hK3 K3
              refine HQ_post rfl rfl (.cons (res_tmp rfl) .nil) (fun w1 hs1 => ?_)
              first
                | exact ⟨rfl, hs1.keep⟩
                | exact ⟨by rw [rotN_0 hn (by omega)]; rfl, hs1.keep⟩
              skip)
            skip)
        · try exact Bool.noConfusion h5
          all_goals try simp only [decide_eq_true_eq, decide_eq_false_iff_not, beq_iff_eq, beq_eq_false_iff_ne, bne_iff_ne, bne_eq_false_iff_eq, Bool.not_eq_true', Bool.not_eq_false', ne_eq, Int.not_lt, Int.not_le, ge_iff_le, gt_iff_lt] at h5
          all_goals (
            refine HC_skip ?_
            refine HQ_then ?_
            refine hK3 _ _ _ _ ?_; clear hK3 K3
            refine HC_seq fun K7 hK7 => ?_
            refine HC_region ?_
            all_goals refine HL_r rfl rfl rfl rfl (R_move rfl) ?_
            all_goals refine HL_r rfl rfl rfl rfl (R_move rfl) ?_
            all_goals refine HL_r rfl rfl rfl rfl (R_pure rfl rfl rfl) ?_; refine HL_as (show _ = uV (k % 64) from congrArg (Value.int .u64) (wrap_u64 (z := ((k % 64 : Nat) : Int)) (by omega) (by omega))) ?_
            all_goals refine HL_r rfl rfl rfl rfl (R_shl (n := k % 64) (b := ((n * 2 ^ (k % 64) % 18446744073709551616 : Nat) : Int)) rfl rfl rfl (show _ ≤ 64 from by omega) (wrapU _)) ?_
            all_goals refine HL_r rfl rfl rfl rfl (R_move rfl) ?_
            all_goals refine HL_r rfl rfl rfl rfl (R_move rfl) ?_
            all_goals refine HL_r rfl rfl rfl rfl (R_pure rfl rfl rfl) ?_; refine HL_as (show _ = Value.int .i64 ((64 - k % 64 : Nat) : Int) from congrArg (Value.int .i64) (by rw [wrap_i64 (by omega) (by omega)]; omega)) ?_
            all_goals refine HL_r rfl rfl rfl rfl (R_pure rfl rfl rfl) ?_; refine HL_as (show _ = uV (64 - k % 64) from congrArg (Value.int .u64) (wrap_u64 (z := ((64 - k % 64 : Nat) : Int)) (by omega) (by omega))) ?_
            all_goals refine HL_r rfl rfl rfl rfl (R_shr (n := 64 - k % 64) rfl rfl rfl (show _ ≤ 64 from by omega) (by omega) (shr_nat _ _)) ?_
            all_goals refine HL_r rfl rfl rfl rfl (R_bits64 (op := .or) (b := ((rotN n k : Nat) : Int)) rfl rfl rfl (Nat.mod_lt _ (by decide)) (Nat.lt_of_le_of_lt (Nat.div_le_self _ _) hn) rfl) ?_
            all_goals refine HL_r rfl rfl rfl rfl (R_assign rfl) ?_
            all_goals refine HL_nil ?_
            all_goals (
              refine HQ_then ?_
              refine hK7 _ _ _ _ ?_; clear hK7 K7
              refine HC_ret ?_
              refine HQ_post rfl rfl (.cons (res_tmp rfl) .nil) (fun w1 hs1 => ?_)
              first
                | exact ⟨rfl, hs1.keep⟩
                | exact ⟨by rw [rotN_0 hn (by omega)]; rfl, hs1.keep⟩
              skip)
            skip)
        skip)
      skip)
    skip)
/-- The shift register of the round numbers. -/
def lfS : Nat → Nat
  | 0 => 1
  | i + 1 => if lfS i * 2 ≥ 256 then lfS i * 2 ^^^ 369 else lfS i * 2
theorem lfS_lt : ∀ i, lfS i < 256
  | 0 => by decide
  | i + 1 => by
    have h := lfS_lt i
    have key : ∀ v : Fin 256, (if v.val * 2 ≥ 256 then v.val * 2 ^^^ 369 else v.val * 2) < 256 := by decide +kernel
    exact key ⟨lfS i, h⟩
theorem lf_lo {i : Nat} (h : lfS i * 2 < 256) : lfS (i + 1) = lfS i * 2 := by
  show (if lfS i * 2 ≥ 256 then lfS i * 2 ^^^ 369 else lfS i * 2) = _; rw [if_neg (by omega)]
theorem lf_hi {i : Nat} (h : 256 ≤ lfS i * 2) : lfS (i + 1) = (lfS i * 2) ^^^ 369 := by
  show (if lfS i * 2 ≥ 256 then lfS i * 2 ^^^ 369 else lfS i * 2) = _; rw [if_pos h]
def bitN (n : Nat) : Nat := lfS (n % 255) % 2
set_option maxRecDepth 10000 in
theorem P_ref3_bit {n : Nat} (hn : n < 9223372036854775808) : Pure Tryd.prog 78 [.int .i64 (n : Int)].toArray (uV (bitN n)) := by
  refine pure_of_HC Tryd.func78 rfl rfl fun w => ?_
  refine HC_seq fun K1 hK1 => ?_
  refine HC_region ?_
  all_goals refine HL_r rfl rfl rfl rfl (R_assign rfl) ?_
  all_goals refine HL_nil ?_
  all_goals (
    refine HQ_then ?_
    refine hK1 _ _ _ _ ?_; clear hK1 K1
    refine HC_seq fun K2 hK2 => ?_
    refine HC_region ?_
    all_goals refine HL_r rfl rfl rfl rfl (R_assign rfl) ?_
    all_goals refine HL_nil ?_
    all_goals (
      refine HQ_then ?_
      refine hK2 _ _ _ _ ?_; clear hK2 K2
      refine HC_seq fun K3 hK3 => ?_
      refine HC_seq fun K4 hK4 => ?_
      refine HC_region ?_
      all_goals refine HL_r rfl rfl rfl rfl (R_assign rfl) ?_
      all_goals refine HL_nil ?_
      all_goals (
        refine HQ_then ?_
        refine hK4 _ _ _ _ ?_; clear hK4 K4
        refine HC_block ?_
        refine HC_loop (σ := Nat) (fun i => i ≤ n % 255) (fun i => [(0, .int .i64 (n : Int)), (3, .int .i64 (lfS i : Int)), (4, .int .i64 (i : Int))]) (fun _ => []) (fun _ _ _ => True) (fun i => n % 255 - i) 0 (Nat.zero_le _) (.cons rfl (.cons rfl (.cons rfl .nil))) (List.nil_sublist _) (fun _ _ h => h) ?_
        intro i hi
        have hlf := lfS_lt i
        refine HC_seq fun K5 hK5 => ?_
        refine HC_seq fun K6 hK6 => ?_
        refine HC_region ?_
        all_goals refine HL_r rfl rfl rfl rfl (R_move rfl) ?_
        all_goals refine HL_r rfl rfl rfl rfl (R_move rfl) ?_
        all_goals refine HL_r rfl rfl rfl rfl (R_pure rfl rfl rfl) ?_; refine HL_as (show _ = Value.int .i64 ((n % 255 : Nat) : Int) from congrArg (Value.int .i64) (by rw [Int.tmod_eq_emod_of_nonneg (by omega)]; omega)) ?_
        all_goals refine HL_r rfl rfl rfl rfl (R_pure rfl rfl rfl) ?_
        all_goals refine HL_nil ?_
        all_goals (
          refine HQ_then ?_
          refine hK6 _ _ _ _ ?_; clear hK6 K6
          refine HC_cond rfl (fun h7 => ?_) (fun h7 => ?_)
          · try exact Bool.noConfusion h7
            all_goals try simp only [decide_eq_true_eq, decide_eq_false_iff_not, beq_iff_eq, beq_eq_false_iff_ne, bne_iff_ne, bne_eq_false_iff_eq, Bool.not_eq_true', Bool.not_eq_false', ne_eq, Int.not_lt, Int.not_le, ge_iff_le, gt_iff_lt] at h7
            all_goals (
              refine HC_skip ?_
              refine HQ_then ?_
              refine hK5 _ _ _ _ ?_; clear hK5 K5
              refine HC_seq fun K8 hK8 => ?_
              refine HC_block ?_
              refine HC_seq fun K9 hK9 => ?_
              refine HC_region ?_
              all_goals refine HL_r rfl rfl rfl rfl (R_move rfl) ?_
              all_goals refine HL_r rfl rfl rfl rfl (R_pure rfl rfl rfl) ?_; refine HL_as (show _ = Value.int .i64 ((lfS i * 2 : Nat) : Int) from congrArg (Value.int .i64) (by rw [wrap_i64 (by omega) (by omega)]; omega)) ?_
              all_goals refine HL_r rfl rfl rfl rfl (R_assign rfl) ?_
              all_goals refine HL_nil ?_
              all_goals (
                refine HQ_then ?_
                refine hK9 _ _ _ _ ?_; clear hK9 K9
                refine HC_seq fun K10 hK10 => ?_
                refine HC_region ?_
                all_goals refine HL_r rfl rfl rfl rfl (R_move rfl) ?_
                all_goals refine HL_r rfl rfl rfl rfl (R_pure rfl rfl rfl) ?_
                all_goals refine HL_nil ?_
                all_goals (
                  refine HQ_then ?_
                  refine hK10 _ _ _ _ ?_; clear hK10 K10
                  refine HC_cond rfl (fun h11 => ?_) (fun h11 => ?_)
                  · try exact Bool.noConfusion h11
                    all_goals try simp only [decide_eq_true_eq, decide_eq_false_iff_not, beq_iff_eq, beq_eq_false_iff_ne, bne_iff_ne, bne_eq_false_iff_eq, Bool.not_eq_true', Bool.not_eq_false', ne_eq, Int.not_lt, Int.not_le, ge_iff_le, gt_iff_lt] at h11
                    all_goals (
                      refine HC_region ?_
                      all_goals refine HL_r rfl rfl rfl rfl (R_move rfl) ?_
                      all_goals refine HL_r rfl rfl rfl rfl (R_xorI (n := 369) rfl rfl (by omega) (by decide)) ?_
                      all_goals refine HL_r rfl rfl rfl rfl (R_assign rfl) ?_
                      all_goals refine HL_nil ?_
                      all_goals (
                        refine HQ_blockN ?_
                        refine HQ_then ?_
                        refine hK8 _ _ _ _ ?_; clear hK8 K8
                        refine HC_region ?_
                        all_goals refine HL_r rfl rfl rfl rfl (R_move rfl) ?_
                        all_goals first
                          | (refine HL_r rfl rfl rfl rfl (R_pure rfl rfl rfl) ?_; refine HL_wrap_i64 (by omega) (by omega) ?_)
                          | (refine HL_r rfl rfl rfl rfl (R_pure rfl rfl rfl) ?_)
                        all_goals refine HL_r rfl rfl rfl rfl (R_assign rfl) ?_
                        all_goals refine HL_nil ?_
                        all_goals (
                          refine HQ_then ?_
                          first
                            | exact HQ_again (i + 1) (by omega) (by omega) (.cons rfl (.cons (by rw [lf_lo (i := i) (by omega)]; rfl) (.cons rfl .nil))) (List.nil_sublist _) (fun _ _ h => h)
                            | exact HQ_again (i + 1) (by omega) (by omega) (.cons rfl (.cons (by rw [lf_hi (i := i) (by omega)]; rfl) (.cons rfl .nil))) (List.nil_sublist _) (fun _ _ h => h)
                          skip)
                        skip)
                      skip)
                  · try exact Bool.noConfusion h11
                    all_goals try simp only [decide_eq_true_eq, decide_eq_false_iff_not, beq_iff_eq, beq_eq_false_iff_ne, bne_iff_ne, bne_eq_false_iff_eq, Bool.not_eq_true', Bool.not_eq_false', ne_eq, Int.not_lt, Int.not_le, ge_iff_le, gt_iff_lt] at h11
                    all_goals (
                      refine HC_skip ?_
                      refine HQ_blockN ?_
                      refine HQ_then ?_
                      refine hK8 _ _ _ _ ?_; clear hK8 K8
                      refine HC_region ?_
                      all_goals refine HL_r rfl rfl rfl rfl (R_move rfl) ?_
                      all_goals first
                        | (refine HL_r rfl rfl rfl rfl (R_pure rfl rfl rfl) ?_; refine HL_wrap_i64 (by omega) (by omega) ?_)
                        | (refine HL_r rfl rfl rfl rfl (R_pure rfl rfl rfl) ?_)
                      all_goals refine HL_r rfl rfl rfl rfl (R_assign rfl) ?_
                      all_goals refine HL_nil ?_
                      all_goals (
                        refine HQ_then ?_
                        first
                          | exact HQ_again (i + 1) (by omega) (by omega) (.cons rfl (.cons (by rw [lf_lo (i := i) (by omega)]; rfl) (.cons rfl .nil))) (List.nil_sublist _) (fun _ _ h => h)
                          | exact HQ_again (i + 1) (by omega) (by omega) (.cons rfl (.cons (by rw [lf_hi (i := i) (by omega)]; rfl) (.cons rfl .nil))) (List.nil_sublist _) (fun _ _ h => h)
                        skip)
                      skip)
                  skip)
                skip)
              skip)
          · try exact Bool.noConfusion h7
            all_goals try simp only [decide_eq_true_eq, decide_eq_false_iff_not, beq_iff_eq, beq_eq_false_iff_ne, bne_iff_ne, bne_eq_false_iff_eq, Bool.not_eq_true', Bool.not_eq_false', ne_eq, Int.not_lt, Int.not_le, ge_iff_le, gt_iff_lt] at h7
            all_goals (
              refine HC_exit ?_
              refine HQ_thenE ?_; clear hK5 K5
              refine HQ_thenE ?_
              refine HQ_blockE ?_
              refine HQ_then ?_
              refine hK3 _ _ _ _ ?_; clear hK3 K3
              refine HC_seq fun K12 hK12 => ?_
              have hin : n % 255 = i := by omega
              refine HC_region ?_
              all_goals refine HL_r rfl rfl rfl rfl (R_move rfl) ?_
              all_goals refine HL_r rfl rfl rfl rfl (R_pure rfl rfl rfl) ?_; refine HL_as (show _ = Value.int .i64 ((lfS i % 2 : Nat) : Int) from congrArg (Value.int .i64) (by rw [Int.tmod_eq_emod_of_nonneg (by omega)]; omega)) ?_
              all_goals refine HL_r rfl rfl rfl rfl (R_pure rfl rfl rfl) ?_; refine HL_as (show _ = uV (lfS i % 2) from congrArg (Value.int .u64) (wrap_u64 (z := ((lfS i % 2 : Nat) : Int)) (by omega) (by omega))) ?_
              all_goals refine HL_r rfl rfl rfl rfl (R_assign rfl) ?_
              all_goals refine HL_nil ?_
              all_goals (
                refine HQ_then ?_
                refine hK12 _ _ _ _ ?_; clear hK12 K12
                refine HC_ret ?_
                refine HQ_post rfl rfl (.cons (res_tmp rfl) .nil) (fun w1 hs1 => ?_)
                exact ⟨by unfold bitN; rw [hin]; rfl, hs1.keep⟩
                skip)
              skip)
          skip)
        skip)
      skip)
    skip)
/-- The round numbers, bit by bit. -/
def nbS (i : Nat) : Nat → Nat
  | 0 => 0
  | j + 1 => nbS i j ||| bitN (7 * i + j) * 2 ^ (2 ^ j - 1)
theorem bitN_lt (n : Nat) : bitN n < 2 := Nat.mod_lt _ (by decide)
theorem bsh_lt {b k : Nat} (hb : b < 2) (hk : k ≤ 63) : b * 2 ^ k < 18446744073709551616 := by
  have h1 : (2 : Nat) ^ k ≤ 2 ^ 63 := Nat.pow_le_pow_right (by decide) hk
  have h2 : b * 2 ^ k ≤ 1 * 2 ^ k := Nat.mul_le_mul_right _ (by omega)
  omega
theorem pow7 {j : Nat} (h : j < 7) : 1 ≤ 2 ^ j ∧ 2 ^ j ≤ 64 := by
  have h1 : (2 : Nat) ^ j ≤ 2 ^ 6 := Nat.pow_le_pow_right (by decide) (by omega)
  exact ⟨Nat.one_le_two_pow, h1⟩
theorem nbS_lt (i : Nat) : ∀ j, j ≤ 7 → nbS i j < 18446744073709551616
  | 0, _ => by show 0 < 18446744073709551616; decide
  | j + 1, h => or_lt64 (nbS_lt i j (by omega)) (bsh_lt (bitN_lt _) (by have := pow7 (j := j) (by omega); omega))
set_option maxRecDepth 10000 in
theorem nbS_nums : ∀ i : Fin 24, nbS i.val 7 = numsL.getD i.val 0 := by decide +kernel
set_option maxRecDepth 10000 in
theorem P_ref3_number {n : Nat} (hn : n < 24) : Pure Tryd.prog 63 [.int .i64 (n : Int)].toArray (uV (numsL.getD n 0)) := by
  refine pure_of_HC Tryd.func63 rfl rfl fun w => ?_
  refine HC_seq fun K1 hK1 => ?_
  refine HC_region ?_
  all_goals refine HL_r rfl rfl rfl rfl (R_assign rfl) ?_
  all_goals refine HL_nil ?_
  all_goals (
    refine HQ_then ?_
    refine hK1 _ _ _ _ ?_; clear hK1 K1
    refine HC_seq fun K2 hK2 => ?_
    refine HC_region ?_
    all_goals refine HL_r rfl rfl rfl rfl (R_assign rfl) ?_
    all_goals refine HL_nil ?_
    all_goals (
      refine HQ_then ?_
      refine hK2 _ _ _ _ ?_; clear hK2 K2
      refine HC_seq fun K3 hK3 => ?_
      refine HC_region ?_
      all_goals refine HL_r rfl rfl rfl rfl (R_assign rfl) ?_
      all_goals refine HL_nil ?_
      all_goals (
        refine HQ_then ?_
        refine hK3 _ _ _ _ ?_; clear hK3 K3
        refine HC_seq fun K4 hK4 => ?_
        refine HC_seq fun K5 hK5 => ?_
        refine HC_region ?_
        all_goals refine HL_r rfl rfl rfl rfl (R_assign rfl) ?_
        all_goals refine HL_nil ?_
        all_goals (
          refine HQ_then ?_
          refine hK5 _ _ _ _ ?_; clear hK5 K5
          refine HC_block ?_
          refine HC_loop (σ := Nat) (fun i => i ≤ 7) (fun i => [(0, .int .i64 (n : Int)), (3, uV (nbS n i)), (4, .int .i64 ((2 ^ i : Nat) : Int)), (5, .int .i64 (i : Int))]) (fun _ => []) (fun _ _ _ => True) (fun i => 7 - i) 0 (Nat.zero_le _) (.cons rfl (.cons rfl (.cons rfl (.cons rfl .nil)))) (List.nil_sublist _) (fun _ _ h => h) ?_
          intro i hi
          refine HC_seq fun K6 hK6 => ?_
          refine HC_seq fun K7 hK7 => ?_
          refine HC_region ?_
          all_goals refine HL_r rfl rfl rfl rfl (R_move rfl) ?_
          all_goals refine HL_r rfl rfl rfl rfl (R_pure rfl rfl rfl) ?_
          all_goals refine HL_nil ?_
          all_goals (
            refine HQ_then ?_
            refine hK7 _ _ _ _ ?_; clear hK7 K7
            refine HC_cond rfl (fun h8 => ?_) (fun h8 => ?_)
            · try exact Bool.noConfusion h8
              all_goals try simp only [decide_eq_true_eq, decide_eq_false_iff_not, beq_iff_eq, beq_eq_false_iff_ne, bne_iff_ne, bne_eq_false_iff_eq, Bool.not_eq_true', Bool.not_eq_false', ne_eq, Int.not_lt, Int.not_le, ge_iff_le, gt_iff_lt] at h8
              all_goals (
                refine HC_skip ?_
                refine HQ_then ?_
                refine hK6 _ _ _ _ ?_; clear hK6 K6
                refine HC_seq fun K9 hK9 => ?_
                refine HC_block ?_
                refine HC_seq fun K10 hK10 => ?_
                have hpw := pow7 (j := i) (by omega)
                refine HC_region ?_
                all_goals refine HL_r rfl rfl rfl rfl (R_move rfl) ?_
                all_goals refine HL_r rfl rfl rfl rfl (R_move rfl) ?_
                all_goals refine HL_r rfl rfl rfl rfl (R_pure rfl rfl rfl) ?_; refine HL_as (show _ = Value.int .i64 ((7 * n : Nat) : Int) from congrArg (Value.int .i64) (by rw [wrap_i64 (by omega) (by omega)]; omega)) ?_
                all_goals refine HL_r rfl rfl rfl rfl (R_move rfl) ?_
                all_goals refine HL_r rfl rfl rfl rfl (R_pure rfl rfl rfl) ?_; refine HL_as (show _ = Value.int .i64 ((7 * n + i : Nat) : Int) from congrArg (Value.int .i64) (by rw [wrap_i64 (by omega) (by omega)]; omega)) ?_
                all_goals refine HL_callP rfl rfl rfl (enters_of Tryd.func78 (by kernel_rfl) rfl) (P_ref3_bit (n := 7 * n + i) (by omega)) ?_
                all_goals refine HL_r rfl rfl rfl rfl (R_move rfl) ?_
                all_goals refine HL_r rfl rfl rfl rfl (R_pure rfl rfl rfl) ?_; refine HL_as (show _ = Value.int .i64 ((2 ^ i - 1 : Nat) : Int) from congrArg (Value.int .i64) (by rw [wrap_i64 (by omega) (by omega)]; omega)) ?_
                all_goals refine HL_r rfl rfl rfl rfl (R_pure rfl rfl rfl) ?_; refine HL_as (show _ = uV (2 ^ i - 1) from congrArg (Value.int .u64) (wrap_u64 (z := ((2 ^ i - 1 : Nat) : Int)) (by omega) (by omega))) ?_
                all_goals refine HL_r rfl rfl rfl rfl (R_shl (n := 2 ^ i - 1) rfl rfl rfl (show _ ≤ 64 from by omega) (shl_u64 (bsh_lt (bitN_lt _) (by omega)))) ?_
                all_goals refine HL_r rfl rfl rfl rfl (R_bits64 (op := .or) (b := ((nbS n (i + 1) : Nat) : Int)) rfl rfl rfl (nbS_lt n i (by omega)) (bsh_lt (bitN_lt _) (by omega)) rfl) ?_
                all_goals refine HL_r rfl rfl rfl rfl (R_assign rfl) ?_
                all_goals refine HL_nil ?_
                all_goals (
                  refine HQ_then ?_
                  refine hK10 _ _ _ _ ?_; clear hK10 K10
                  refine HC_region ?_
                  all_goals refine HL_r rfl rfl rfl rfl (R_move rfl) ?_
                  all_goals refine HL_r rfl rfl rfl rfl (R_pure rfl rfl rfl) ?_; refine HL_as (show _ = Value.int .i64 ((2 ^ (i + 1) : Nat) : Int) from congrArg (Value.int .i64) (by rw [Nat.pow_succ, wrap_i64 (by omega) (by omega)]; omega)) ?_
                  all_goals refine HL_r rfl rfl rfl rfl (R_assign rfl) ?_
                  all_goals refine HL_nil ?_
                  all_goals (
                    refine HQ_blockN ?_
                    refine HQ_then ?_
                    refine hK9 _ _ _ _ ?_; clear hK9 K9
                    refine HC_region ?_
                    all_goals refine HL_r rfl rfl rfl rfl (R_move rfl) ?_
                    all_goals first
                      | (refine HL_r rfl rfl rfl rfl (R_pure rfl rfl rfl) ?_; refine HL_wrap_i64 (by omega) (by omega) ?_)
                      | (refine HL_r rfl rfl rfl rfl (R_pure rfl rfl rfl) ?_)
                    all_goals refine HL_r rfl rfl rfl rfl (R_assign rfl) ?_
                    all_goals refine HL_nil ?_
                    all_goals (
                      refine HQ_then ?_
                      exact HQ_again (i + 1) (by omega) (by omega) (.cons rfl (.cons rfl (.cons rfl (.cons rfl .nil)))) (List.nil_sublist _) (fun _ _ h => h)
                      skip)
                    skip)
                  skip)
                skip)
            · try exact Bool.noConfusion h8
              all_goals try simp only [decide_eq_true_eq, decide_eq_false_iff_not, beq_iff_eq, beq_eq_false_iff_ne, bne_iff_ne, bne_eq_false_iff_eq, Bool.not_eq_true', Bool.not_eq_false', ne_eq, Int.not_lt, Int.not_le, ge_iff_le, gt_iff_lt] at h8
              all_goals (
                refine HC_exit ?_
                refine HQ_thenE ?_; clear hK6 K6
                refine HQ_thenE ?_
                refine HQ_blockE ?_
                refine HQ_then ?_
                refine hK4 _ _ _ _ ?_; clear hK4 K4
                refine HC_seq fun K11 hK11 => ?_
                have hi7 : 7 = i := by omega
                subst hi7
                refine HC_region ?_
                all_goals refine HL_r rfl rfl rfl rfl (R_move rfl) ?_
                all_goals refine HL_r rfl rfl rfl rfl (R_assign rfl) ?_
                all_goals refine HL_nil ?_
                all_goals (
                  refine HQ_then ?_
                  refine hK11 _ _ _ _ ?_; clear hK11 K11
                  refine HC_ret ?_
                  refine HQ_post rfl rfl (.cons (res_tmp rfl) .nil) (fun w1 hs1 => ?_)
                  exact ⟨by rw [← nbS_nums ⟨n, hn⟩]; rfl, hs1.keep⟩
                  skip)
                skip)
            skip)
          skip)
        skip)
      skip)
    skip)
end Go.Proofs.YthfinkklgbiaeaaDoor
