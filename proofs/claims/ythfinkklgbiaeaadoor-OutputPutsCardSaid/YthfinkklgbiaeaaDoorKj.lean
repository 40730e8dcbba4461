import Derived.Test.YthfinkklgbiaeaaDoorKi
namespace Go.Proofs.YthfinkklgbiaeaaDoor
set_option linter.all false
open Go.SL Go.RowKit Go.Shelf
theorem pad_snoc (k : Nat) : (1 :: List.replicate (k + 1) 0 : List UInt8).map bV = (1 :: List.replicate k 0 : List UInt8).map bV ++ [.int .u8 0] := by
  rw [List.replicate_succ']; simp [bV]
theorem app_get {l : List UInt8} {sp : List Value} {j : Nat} (h : j < l.length) : (l.map bV ++ sp)[j]? = some (.int .u8 ((l.getD j 0).toNat : Nat)) := by
  rw [List.getElem?_append_left (by rw [List.length_map]; exact h), mapB_get h]
theorem app_set {l m : List UInt8} {sp : List Value} {j : Nat} {x : UInt8} (h : j < l.length) (hm : l.set j x = m) : (l.map bV ++ sp).set j (bV x) = m.map bV ++ sp := by
  rw [List.set_append_left _ _ (by rw [List.length_map]; exact h), ← hm, List.map_set]
set_option maxRecDepth 10000 in
theorem P_ref3_Pad {n : Nat} (hn : n ≤ 1099511627776) : Pure Tryd.prog 49 [.int .i64 (n : Int)].toArray (.tuple #[.string (bs (padL n)), .int .i64 0]) := by
  refine pure_of_HC Tryd.func49 rfl rfl fun w => ?_
  obtain ⟨K, hK⟩ : ∃ k, k = 135 - n % 136 := ⟨_, rfl⟩
  have hn1 : n % 136 < 136 := Nat.mod_lt _ (by decide)
  obtain ⟨x, hx⟩ : ∃ x : UInt8, x = (1 :: List.replicate K 0 : List UInt8).getD K 0 := ⟨_, rfl⟩
  have hxl : x.toNat ≤ 1 := by
    rw [hx]
    cases K with
    | zero => decide
    | succ k => rw [show (1 :: List.replicate (k + 1) 0 : List UInt8).getD (k + 1) 0 = 0 from by simp [List.getD_eq_getElem?_getD]]; decide
  have hpl : (1 :: List.replicate K 0 : List UInt8).set K (UInt8.ofNat (x.toNat + 128)) = padL n := by
    unfold padL
    cases K with
    | zero => rw [if_pos (by omega), hx]; rfl
    | succ k =>
      rw [if_neg (by omega), hx]
      have e1 : (1 :: List.replicate (k + 1) 0 : List UInt8).getD (k + 1) 0 = 0 := by simp [List.getD_eq_getElem?_getD]
      rw [e1, show 134 - n % 136 = k from by omega]
      simp only [List.set_cons_succ]
      congr 1
      rw [List.replicate_succ', List.set_append_right _ _ (by simp), List.length_replicate, Nat.sub_self]; rfl
  refine HC_seq fun K1 hK1 => ?_
  refine HC_region ?_
  all_goals refine HL_r rfl rfl rfl rfl (R_assign rfl) ?_
  all_goals refine HL_r rfl rfl rfl rfl (R_assign rfl) ?_
  all_goals refine HL_nil ?_
  all_goals (
    refine HQ_then ?_
    refine hK1 _ _ _ _ ?_; clear hK1 K1
    refine HC_seq fun K2 hK2 => ?_
    refine HC_seq fun K3 hK3 => ?_
    refine HC_region ?_
    all_goals refine HL_r rfl rfl rfl rfl (R_move rfl) ?_
    all_goals refine HL_r rfl rfl rfl rfl (R_pure rfl rfl rfl) ?_
    all_goals refine HL_r rfl rfl rfl rfl (R_move rfl) ?_
    all_goals first
      | (refine HL_r rfl rfl rfl rfl (R_move rfl) ?_)
      | (refine HL_skip rfl rfl rfl ?_)
      | (refine HL_case 7 rfl (fun hb4 => ?_) (fun hb4 => ?_) <;> (try simp only [decide_eq_true_eq, decide_eq_false_iff_not, beq_iff_eq, beq_eq_false_iff_ne, bne_iff_ne, bne_eq_false_iff_eq, Bool.not_eq_true', Bool.not_eq_false', ne_eq, Int.not_lt, Int.not_le, ge_iff_le, gt_iff_lt] at hb4) <;> first | (refine HL_r rfl rfl rfl rfl (R_move rfl) ?_) | (refine HL_skip rfl rfl rfl ?_))
    all_goals first
      | (refine HL_r rfl rfl rfl rfl (R_pure rfl rfl rfl) ?_)
      | (refine HL_skip rfl rfl rfl ?_)
      | (refine HL_case 7 rfl (fun hb5 => ?_) (fun hb5 => ?_) <;> (try simp only [decide_eq_true_eq, decide_eq_false_iff_not, beq_iff_eq, beq_eq_false_iff_ne, bne_iff_ne, bne_eq_false_iff_eq, Bool.not_eq_true', Bool.not_eq_false', ne_eq, Int.not_lt, Int.not_le, ge_iff_le, gt_iff_lt] at hb5) <;> first | (refine HL_r rfl rfl rfl rfl (R_pure rfl rfl rfl) ?_) | (refine HL_skip rfl rfl rfl ?_))
    all_goals first
      | (refine HL_r rfl rfl rfl rfl (R_pickT rfl rfl) ?_)
      | (refine HL_r rfl rfl rfl rfl (R_pickF rfl rfl) ?_)
    all_goals refine HL_nil ?_
    all_goals (
      refine HQ_then ?_
      refine hK3 _ _ _ _ ?_; clear hK3 K3
      refine HC_cond rfl (fun h6 => ?_) (fun h6 => ?_)
      · try exact Bool.noConfusion h6
        all_goals try simp only [decide_eq_true_eq, decide_eq_false_iff_not, beq_iff_eq, beq_eq_false_iff_ne, bne_iff_ne, bne_eq_false_iff_eq, Bool.not_eq_true', Bool.not_eq_false', ne_eq, Int.not_lt, Int.not_le, ge_iff_le, gt_iff_lt] at h6
        all_goals (
          refine HC_seq fun K7 hK7 => ?_
          refine HC_region ?_
          all_goals refine HL_r rfl rfl rfl rfl (R_assign rfl) ?_
          all_goals refine HL_r rfl rfl rfl rfl (R_assign rfl) ?_
          all_goals refine HL_nil ?_
          all_goals (
            refine HQ_then ?_
            refine hK7 _ _ _ _ ?_; clear hK7 K7
            refine HC_ret ?_
            refine HQ_thenR ?_; clear hK2 K2
            refine HQ_post rfl rfl (.cons (res_tmp rfl) (.cons (res_tmp rfl) .nil)) (fun w1 hs1 => ?_)
            first | (exact ⟨rfl, hs1.keep⟩) | (exfalso; omega)
            skip)
          skip)
      · try exact Bool.noConfusion h6
        all_goals try simp only [decide_eq_true_eq, decide_eq_false_iff_not, beq_iff_eq, beq_eq_false_iff_ne, bne_iff_ne, bne_eq_false_iff_eq, Bool.not_eq_true', Bool.not_eq_false', ne_eq, Int.not_lt, Int.not_le, ge_iff_le, gt_iff_lt] at h6
        all_goals (
          refine HC_skip ?_
          refine HQ_then ?_
          refine hK2 _ _ _ _ ?_; clear hK2 K2
          refine HC_seq fun K8 hK8 => ?_
          refine HC_region ?_
          all_goals refine HL_buildSlice (vs := [_]) (zs := [_]) (r := [_]) rfl rfl rfl rfl rfl rfl rfl rfl rfl (by show (madeCells #[_] _).toList = _; rw [made_one]; exact rfl) rfl fun r1 => ?_
          all_goals refine HL_r rfl rfl rfl rfl (R_assign rfl) ?_
          all_goals refine HL_nil ?_
          all_goals (
            refine HQ_then ?_
            refine hK8 _ _ _ _ ?_; clear hK8 K8
            refine HC_seq fun K9 hK9 => ?_
            refine HC_block ?_
            refine HC_loop (σ := Nat × Nat × Nat × List Value) (fun q => q.1 ≤ K ∧ rowOk 1 (q.1 + 1) ((1 :: List.replicate q.1 0 : List UInt8).map bV) (some q.2)) (fun q => [(0, .int .i64 (n : Int)), (4, .slice (some ⟨q.2.1, 0, none⟩) (q.1 + 1) q.2.2.1)]) (fun q => rowL 5 ((1 :: List.replicate q.1 0 : List UInt8).map bV) (some q.2)) (fun _ _ _ => True) (fun q => K - q.1) (0, r1, 1, []) ⟨Nat.zero_le _, rfl, rfl⟩ (.cons rfl (.cons rfl .nil)) (List.Sublist.refl _) (fun _ _ h => h) ?_
            rintro ⟨k, r, cap, sp⟩ ⟨hk, hrow⟩
            simp only at hk hrow ⊢
            refine HC_seq fun K10 hK10 => ?_
            refine HC_seq fun K11 hK11 => ?_
            refine HC_region ?_
            all_goals refine HL_r rfl rfl rfl rfl (R_move rfl) ?_
            all_goals refine HL_r rfl rfl rfl rfl (R_move rfl) ?_
            all_goals first
              | (refine HL_r rfl rfl rfl rfl (R_lenBs rfl rfl) ?_)
              | (refine HL_r rfl rfl rfl rfl (R_lenSl rfl rfl) ?_)
              | (refine HL_r rfl rfl rfl rfl (R_lenStr rfl rfl rfl) ?_)
              | (refine HL_r rfl rfl rfl rfl (R_pure rfl rfl rfl) ?_)
            all_goals refine HL_r rfl rfl rfl rfl (R_pure rfl rfl rfl) ?_; refine HL_as (show _ = Value.int .i64 ((n + (k + 1) : Nat) : Int) from congrArg (Value.int .i64) (by rw [wrap_i64 (by omega) (by omega)]; omega)) ?_
            all_goals refine HL_r rfl rfl rfl rfl (R_pure rfl rfl rfl) ?_; refine HL_as (show _ = Value.int .i64 (((n + (k + 1)) % 136 : Nat) : Int) from congrArg (Value.int .i64) (by rw [Int.tmod_eq_emod_of_nonneg (by omega)]; omega)) ?_
            all_goals refine HL_r rfl rfl rfl rfl (R_pure rfl rfl rfl) ?_
            all_goals refine HL_nil ?_
            all_goals (
              refine HQ_then ?_
              refine hK11 _ _ _ _ ?_; clear hK11 K11
              refine HC_cond rfl (fun h12 => ?_) (fun h12 => ?_)
              · try exact Bool.noConfusion h12
                all_goals try simp only [decide_eq_true_eq, decide_eq_false_iff_not, beq_iff_eq, beq_eq_false_iff_ne, bne_iff_ne, bne_eq_false_iff_eq, Bool.not_eq_true', Bool.not_eq_false', ne_eq, Int.not_lt, Int.not_le, ge_iff_le, gt_iff_lt] at h12
                all_goals (
                  refine HC_skip ?_
                  refine HQ_then ?_
                  refine hK10 _ _ _ _ ?_; clear hK10 K10
                  refine HC_block ?_
                  refine HC_region ?_
                  all_goals refine HL_r rfl rfl rfl rfl (R_move rfl) ?_
                  all_goals refine HL_buildSlice (vs := [_]) (zs := [_]) (r := [_]) rfl rfl rfl rfl rfl rfl rfl rfl rfl (by show (madeCells #[_] _).toList = _; rw [made_one]; exact rfl) rfl fun r2 => ?_
                  all_goals refine HL_appendRow (L0 := [_]) (xs := (1 :: List.replicate k 0 : List UInt8).map bV) (row := some (r, cap, sp)) (n := k + 1) (sz := 1) (b := 1) (news := [_]) (List.perm_append_comm (l₁ := [_])) rfl rfl rfl rfl (known_L (k := 0) rfl) rfl rfl rfl rfl rfl (by decide) rfl rfl rfl (by decide) hrow (by omega) (by omega) fun ra rcap rsp hra => ?_
                  all_goals refine HL_r rfl rfl rfl rfl (R_assign rfl) ?_
                  all_goals refine HL_nil ?_
                  all_goals (
                    refine HQ_blockN ?_
                    refine HQ_then ?_
                    refine HQ_sel [0] (L' := [_]) (by decide) rfl ?_
                    exact HQ_again (k + 1, ra, rcap, rsp) ⟨by simp only; omega, by simp only; rw [pad_snoc]; exact hra⟩ (by simp only; omega) (.cons rfl (.cons rfl .nil)) (by simp only; rw [pad_snoc]; exact List.Sublist.refl _) (fun _ _ h => h)
                    skip)
                  skip)
              · try exact Bool.noConfusion h12
                all_goals try simp only [decide_eq_true_eq, decide_eq_false_iff_not, beq_iff_eq, beq_eq_false_iff_ne, bne_iff_ne, bne_eq_false_iff_eq, Bool.not_eq_true', Bool.not_eq_false', ne_eq, Int.not_lt, Int.not_le, ge_iff_le, gt_iff_lt] at h12
                all_goals (
                  refine HC_exit ?_
                  refine HQ_thenE ?_; clear hK10 K10
                  refine HQ_thenE ?_
                  refine HQ_blockE ?_
                  refine HQ_then ?_
                  refine hK9 _ _ _ _ ?_; clear hK9 K9
                  refine HC_seq fun K13 hK13 => ?_
                  have hkK : K = k := by omega
                  subst hkK
                  refine HC_region ?_
                  all_goals refine HL_r rfl rfl rfl rfl (R_move rfl) ?_
                  all_goals refine HL_r rfl rfl rfl rfl (R_move rfl) ?_
                  all_goals first
                    | (refine HL_r rfl rfl rfl rfl (R_lenBs rfl rfl) ?_)
                    | (refine HL_r rfl rfl rfl rfl (R_lenSl rfl rfl) ?_)
                    | (refine HL_r rfl rfl rfl rfl (R_lenStr rfl rfl rfl) ?_)
                    | (refine HL_r rfl rfl rfl rfl (R_pure rfl rfl rfl) ?_)
                  all_goals refine HL_r rfl rfl rfl rfl (R_pure rfl rfl rfl) ?_; refine HL_as (show _ = Value.int .i64 ((K : Nat) : Int) from congrArg (Value.int .i64) (by rw [wrap_i64 (by omega) (by omega)]; omega)) ?_
                  all_goals refine HL_r rfl rfl rfl rfl (R_move rfl) ?_
                  all_goals refine HL_r rfl rfl rfl rfl (R_move rfl) ?_
                  all_goals first
                    | (refine HL_r rfl rfl rfl rfl (R_lenBs rfl rfl) ?_)
                    | (refine HL_r rfl rfl rfl rfl (R_lenSl rfl rfl) ?_)
                    | (refine HL_r rfl rfl rfl rfl (R_lenStr rfl rfl rfl) ?_)
                    | (refine HL_r rfl rfl rfl rfl (R_pure rfl rfl rfl) ?_)
                  all_goals refine HL_r rfl rfl rfl rfl (R_pure rfl rfl rfl) ?_; refine HL_as (show _ = Value.int .i64 ((K : Nat) : Int) from congrArg (Value.int .i64) (by rw [wrap_i64 (by omega) (by omega)]; omega)) ?_
                  all_goals refine HL_r rfl rfl rfl rfl (R_indexS (j := K) (m := 1) (off' := K) rfl rfl rfl rfl rfl (by omega) (by omega)) ?_
                  all_goals refine HL_r rfl rfl rfl rfl (R_loadAt rfl (known_L (k := 0) rfl) rfl (app_get (by simp))) ?_; rw [← hx]
                  all_goals refine HL_r rfl rfl rfl rfl (R_pure rfl rfl rfl) ?_; refine HL_as (show _ = bV (UInt8.ofNat (x.toNat + 128)) from (congrArg (Value.int .u8) (show IntKind.u8.wrap _ = ((x.toNat + 128 : Nat) : Int) from by rw [wrap_u8 (by omega) (by omega)]; omega)).trans (bV_of (by omega))) ?_
                  all_goals refine HL_r rfl rfl rfl rfl (R_indexS (j := K) (m := 1) (off' := K) rfl rfl rfl rfl rfl (by omega) (by omega)) ?_
                  all_goals refine HL_storeAt (k := 0) (off := K) (xs := (1 :: List.replicate K 0 : List UInt8).map bV ++ sp) (ys := (padL n).map bV ++ sp) rfl rfl rfl rfl rfl rfl (by simp; omega) (app_set (by simp) hpl) rfl ?_
                  all_goals refine HL_nil ?_
                  all_goals (
                    refine HQ_then ?_
                    refine hK13 _ _ _ _ ?_; clear hK13 K13
                    refine HC_seq fun K14 hK14 => ?_
                    refine HC_region ?_
                    all_goals refine HL_r rfl rfl rfl rfl (R_move rfl) ?_
                    all_goals refine HL_r rfl rfl rfl rfl (R_bytesStr (b := padL n) (row := some (r, cap, sp)) (e := 5) (show _ = some (rowV (padL n).length (some (r, cap, sp))) from by rw [padL_len, show 136 - n % 136 = K + 1 from by omega]; rfl) (by obtain ⟨h1, h2⟩ := hrow; rw [padL_len, show 136 - n % 136 = K + 1 from by omega]; exact ⟨by rw [List.length_map, padL_len]; omega, h2⟩) (fun p hp => .inl (by rw [List.mem_singleton.1 hp]; exact List.mem_cons_self)) rfl rfl rfl) ?_
                    all_goals refine HL_r rfl rfl rfl rfl (R_assign rfl) ?_
                    all_goals refine HL_r rfl rfl rfl rfl (R_assign rfl) ?_
                    all_goals refine HL_nil ?_
                    all_goals (
                      refine HQ_then ?_
                      refine hK14 _ _ _ _ ?_; clear hK14 K14
                      refine HC_ret ?_
                      refine HQ_post rfl rfl (.cons (res_tmp rfl) (.cons (res_tmp rfl) .nil)) (fun w1 hs1 => ?_)
                      first | (exact ⟨rfl, hs1.keep⟩) | (exfalso; omega)
                      skip)
                    skip)
                  skip)
              skip)
            skip)
          skip)
      skip)
    skip)
end Go.Proofs.YthfinkklgbiaeaaDoor
