import Derived.Test.YthfinkklgbiaeaaDoorKc
namespace Go.Proofs.YthfinkklgbiaeaaDoor
set_option linter.all false
open Go.SL Go.RowKit Go.Shelf
set_option maxRecDepth 10000 in
theorem P_turns : Pure Tryd.prog 53 [].toArray (.agg (turnsL.map iV).toArray) := by
  refine pure_of_HC Tryd.func53 rfl rfl fun w => ?_
  refine HC_seq fun K1 hK1 => ?_
  refine HC_region ?_
  all_goals refine HL_alloc (cs := #[_, _, _, _, _, _, _, _, _, _, _, _, _, _, _, _, _, _, _, _, _, _, _, _, _]) rfl rfl rfl rfl fun r1 => ?_
  all_goals refine HL_nil ?_
  all_goals (
    refine HQ_then ?_
    refine hK1 _ _ _ _ ?_; clear hK1 K1
    refine HC_seq fun K2 hK2 => ?_
    refine HC_region ?_
    all_goals refine HL_r rfl rfl rfl rfl (R_build (r := turnsL.map iV) rfl (by kernel_rfl)) ?_
    all_goals refine HL_storeArr (k := 0) (n := 25) (ys := turnsL.map iV) rfl rfl rfl rfl rfl rfl rfl rfl rfl ?_
    all_goals refine HL_nil ?_
    all_goals (
      refine HQ_then ?_
      refine hK2 _ _ _ _ ?_; clear hK2 K2
      refine HC_ret ?_
      refine HQ_post rfl rfl (.cons (res_cellA (vs := turnsL.map iV) rfl (known_L (k := 0) rfl) rfl rfl) .nil) (fun w1 hs1 => ?_)
      exact ⟨rfl, hs1.keep⟩
      skip)
    skip)
set_option maxRecDepth 10000 in
theorem P_numbers : Pure Tryd.prog 54 [].toArray (.agg (numsL.map uV).toArray) := by
  refine pure_of_HC Tryd.func54 rfl rfl fun w => ?_
  refine HC_seq fun K1 hK1 => ?_
  refine HC_region ?_
  all_goals refine HL_alloc (cs := #[_, _, _, _, _, _, _, _, _, _, _, _, _, _, _, _, _, _, _, _, _, _, _, _]) rfl rfl rfl rfl fun r1 => ?_
  all_goals refine HL_nil ?_
  all_goals (
    refine HQ_then ?_
    refine hK1 _ _ _ _ ?_; clear hK1 K1
    refine HC_seq fun K2 hK2 => ?_
    refine HC_region ?_
    all_goals refine HL_r rfl rfl rfl rfl (R_build (r := numsL.map uV) rfl (by kernel_rfl)) ?_
    all_goals refine HL_storeArr (k := 0) (n := 24) (ys := numsL.map uV) rfl rfl rfl rfl rfl rfl rfl rfl rfl ?_
    all_goals refine HL_nil ?_
    all_goals (
      refine HQ_then ?_
      refine hK2 _ _ _ _ ?_; clear hK2 K2
      refine HC_ret ?_
      refine HQ_post rfl rfl (.cons (res_cellA (vs := numsL.map uV) rfl (known_L (k := 0) rfl) rfl rfl) .nil) (fun w1 hs1 => ?_)
      exact ⟨rfl, hs1.keep⟩
      skip)
    skip)
theorem turns_lt (i : Nat) : turnsL.getD i 0 < 9223372036854775808 := by
  by_cases h : i < 25
  · have : turnsL.all (fun x => decide (x < 9223372036854775808)) = true := by decide
    have hm : turnsL.getD i 0 ∈ turnsL := by simp [List.getD_eq_getElem?_getD, show i < turnsL.length from h]
    exact of_decide_eq_true (List.all_eq_true.1 this _ hm)
  · rw [List.getD_eq_getElem?_getD, List.getElem?_eq_none (by simpa [turnsL] using h)]; decide
set_option maxRecDepth 10000 in
theorem P_Permute {a : List Nat} (ha : SOk 25 a) : Pure Tryd.prog 42 [.agg (a.map uV).toArray].toArray (.agg ((permA a).map uV).toArray) := by
  refine pure_of_HC Tryd.func42 rfl rfl fun w => ?_
  have hal := ha.1
  obtain ⟨tu, htu⟩ : ∃ t, t = turnsL := ⟨_, rfl⟩
  have htul : tu.length = 25 := by rw [htu]; rfl
  have htub : ∀ i, tu.getD i 0 < 9223372036854775808 := by rw [htu]; exact turns_lt
  obtain ⟨nu, hnu⟩ : ∃ t, t = numsL := ⟨_, rfl⟩
  have hnuk : SOk 24 nu := by rw [hnu]; exact numsL_ok
  have hnul := hnuk.1
  have hPt : Pure Tryd.prog 53 [].toArray (.agg (tu.map iV).toArray) := by rw [htu]; exact P_turns
  have hPn : Pure Tryd.prog 54 [].toArray (.agg (nu.map uV).toArray) := by rw [hnu]; exact P_numbers
  refine HC_seq fun K1 hK1 => ?_
  refine HC_region ?_
  all_goals refine HL_box (cs := (a.map uV).toArray) rfl rfl rfl rfl fun r1 => ?_
  all_goals refine HL_alloc (cs := (z25.map uV).toArray) rfl rfl rfl rfl fun r2 => ?_
  all_goals refine HL_nil ?_
  all_goals (
    refine HQ_then ?_
    refine hK1 _ _ _ _ ?_; clear hK1 K1
    refine HC_seq fun K2 hK2 => ?_
    refine HC_region ?_
    all_goals refine HL_r rfl rfl rfl rfl (R_loadArr (xs := a.map uV) (n := 25) rfl (known_L (k := 1) rfl) rfl rfl (by rw [List.length_map, hal])) ?_
    all_goals refine HL_alloc (cs := (z25.map uV).toArray) rfl rfl rfl rfl fun r3 => ?_
    all_goals refine HL_storeArr (k := 0) (n := 25) (ys := a.map uV) rfl rfl rfl rfl rfl (by rw [List.length_map, hal]) rfl (mapU_one _) rfl ?_
    all_goals refine HL_nil ?_
    all_goals (
      refine HQ_then ?_
      refine hK2 _ _ _ _ ?_; clear hK2 K2
      refine HC_seq fun K3 hK3 => ?_
      refine HC_region ?_
      all_goals refine HL_callP rfl rfl rfl (enters_of Tryd.func53 (by kernel_rfl) rfl) hPt ?_
      all_goals refine HL_alloc (cs := ((List.replicate 25 0).map iV).toArray) rfl rfl rfl rfl fun r4 => ?_
      all_goals refine HL_storeArr (k := 0) (n := 25) (ys := tu.map iV) rfl rfl rfl rfl rfl (by rw [List.length_map, htul]) rfl (by simp [iV, oneB, List.all_map, List.all_eq_true]) rfl ?_
      all_goals refine HL_nil ?_
      all_goals (
        refine HQ_then ?_
        refine hK3 _ _ _ _ ?_; clear hK3 K3
        refine HC_seq fun K4 hK4 => ?_
        refine HC_seq fun K5 hK5 => ?_
        refine HC_region ?_
        all_goals refine HL_callP rfl rfl rfl (enters_of Tryd.func54 (by kernel_rfl) rfl) hPn ?_
        all_goals refine HL_r rfl rfl rfl rfl (R_move rfl) ?_
        all_goals refine HL_nil ?_
        all_goals (
          refine HQ_then ?_
          refine hK5 _ _ _ _ ?_; clear hK5 K5
          refine HC_block ?_
          refine HC_loop (σ := Nat) (fun i => i ≤ 24) (fun i => [(2, .pointer (some ⟨r2, 0, none⟩)), (3, .pointer (some ⟨r3, 0, none⟩)), (4, .pointer (some ⟨r4, 0, none⟩)), (9, .agg (nu.map uV).toArray), (10, .int .i64 (i : Int))]) (fun i => [(r4, .cells (tu.map iV).toArray 73 (0, 0)), (r3, kO (permS a i)), (r2, .cells (z25.map uV).toArray 59 (0, 0)), (r1, .cells (a.map uV).toArray 59 (0, 0))]) (fun _ _ _ => True) (fun i => 24 - i) 0 (Nat.zero_le _) (.cons rfl (.cons rfl (.cons rfl (.cons rfl (.cons rfl .nil))))) (List.Sublist.refl _) (fun _ _ h => h) ?_
          intro i hi
          refine HC_seq fun K6 hK6 => ?_
          refine HC_region ?_
          all_goals refine HL_r rfl rfl rfl rfl (R_pure rfl rfl rfl) ?_
          all_goals refine HL_nil ?_
          all_goals (
            refine HQ_then ?_
            refine hK6 _ _ _ _ ?_; clear hK6 K6
            refine HC_seq fun K7 hK7 => ?_
            refine HC_cond rfl (fun h8 => ?_) (fun h8 => ?_)
            · try exact Bool.noConfusion h8
              all_goals try simp only [decide_eq_true_eq, decide_eq_false_iff_not, beq_iff_eq, beq_eq_false_iff_ne, bne_iff_ne, bne_eq_false_iff_eq, Bool.not_eq_true', Bool.not_eq_false', ne_eq, Int.not_lt, Int.not_le, ge_iff_le, gt_iff_lt] at h8
              all_goals (
                refine HC_skip ?_
                refine HQ_then ?_
                refine hK7 _ _ _ _ ?_; clear hK7 K7
                refine HC_seq fun K9 hK9 => ?_
                refine HC_block ?_
                refine HC_seq fun K10 hK10 => ?_
                refine HC_region ?_
                all_goals refine HL_r rfl rfl rfl rfl (R_indexV (j := i) rfl rfl rfl rfl rfl rfl (by omega) (nth_xs (mapU_get (by rw [hnul]; omega)))) ?_
                all_goals refine HL_r rfl rfl rfl rfl (R_assign rfl) ?_
                all_goals refine HL_nil ?_
                all_goals (
                  refine HQ_then ?_
                  refine hK10 _ _ _ _ ?_; clear hK10 K10
                  refine HC_region ?_
                  all_goals refine HL_r rfl rfl rfl rfl (R_move rfl) ?_
                  all_goals refine HL_r rfl rfl rfl rfl (R_loadArr (xs := tu.map iV) (n := 25) rfl (known_L (k := 0) rfl) rfl rfl (by rw [List.length_map, htul])) ?_
                  all_goals refine HL_callM (k := 1) rfl rfl rfl (enters_of Tryd.func55 (by kernel_rfl) rfl) rfl (M_round (permS_ok ha i) (n := nu.getD i 0) (hnuk.get i) htul htub r3) rfl ?_
                  all_goals refine HL_nil ?_
                  all_goals (
                    refine HQ_blockN ?_
                    refine HQ_then ?_
                    refine hK9 _ _ _ _ ?_; clear hK9 K9
                    refine HC_region ?_
                    all_goals first
                      | (refine HL_r rfl rfl rfl rfl (R_pure rfl rfl rfl) ?_; refine HL_wrap_i64 (by omega) (by omega) ?_)
                      | (refine HL_r rfl rfl rfl rfl (R_pure rfl rfl rfl) ?_)
                    all_goals refine HL_r rfl rfl rfl rfl (R_move rfl) ?_
                    all_goals refine HL_nil ?_
                    all_goals (
                      refine HQ_then ?_
                      exact HQ_again (i + 1) (by omega) (by omega) (.cons rfl (.cons rfl (.cons rfl (.cons rfl (.cons rfl .nil))))) (by rw [show permS a (i + 1) = roundA tu (permS a i) (nu.getD i 0) from by rw [htu, hnu]; rfl]; exact List.Sublist.refl _) (fun _ _ h => h)
                      skip)
                    skip)
                  skip)
                skip)
            · try exact Bool.noConfusion h8
              all_goals try simp only [decide_eq_true_eq, decide_eq_false_iff_not, beq_iff_eq, beq_eq_false_iff_ne, bne_iff_ne, bne_eq_false_iff_eq, Bool.not_eq_true', Bool.not_eq_false', ne_eq, Int.not_lt, Int.not_le, ge_iff_le, gt_iff_lt] at h8
              all_goals (
                refine HC_exit ?_
                refine HQ_thenE ?_; clear hK7 K7
                refine HQ_thenE ?_
                refine HQ_blockE ?_
                refine HQ_then ?_
                refine hK4 _ _ _ _ ?_; clear hK4 K4
                refine HC_seq fun K11 hK11 => ?_
                have hi24 : 24 = i := by omega
                subst hi24
                refine HC_region ?_
                all_goals refine HL_r rfl rfl rfl rfl (R_loadArr (xs := (permS a 24).map uV) (n := 25) rfl (known_L (k := 1) rfl) rfl rfl (by rw [List.length_map, (permS_ok ha 24).1])) ?_
                all_goals refine HL_storeArr (k := 2) (n := 25) (ys := (permS a 24).map uV) rfl rfl rfl rfl rfl (by rw [List.length_map, (permS_ok ha 24).1]) rfl (mapU_one _) rfl ?_
                all_goals refine HL_nil ?_
                all_goals (
                  refine HQ_then ?_
                  refine hK11 _ _ _ _ ?_; clear hK11 K11
                  refine HC_ret ?_
                  refine HQ_post rfl rfl (.cons (res_cellA (vs := (permS a 24).map uV) rfl (known_L (k := 2) rfl) rfl (by rw [List.length_map, (permS_ok ha 24).1]; rfl)) .nil) (fun w1 hs1 => ?_)
                  exact ⟨rfl, hs1.keep⟩
                  skip)
                skip)
            skip)
          skip)
        skip)
      skip)
    skip)
theorem mapB_get {l : List UInt8} {j : Nat} (h : j < l.length) : (l.map bV)[j]? = some (.int .u8 ((l.getD j 0).toNat : Nat)) := by
  simp [h, bV, List.getD_eq_getElem?_getD]
set_option maxRecDepth 10000 in
theorem P_Pad {n : Nat} (hn : n ≤ 1099511627776) : Pure Tryd.prog 40 [.int .i64 (n : Int)].toArray (.tuple #[.string (bs (padL n)), .int .i64 0]) := by
  refine pure_of_HC Tryd.func40 rfl rfl fun w => ?_
  obtain ⟨k, hk⟩ : ∃ k, k = 135 - n % 136 := ⟨_, rfl⟩
  have hn1 : n % 136 < 136 := Nat.mod_lt _ (by decide)
  obtain ⟨x, hx⟩ : ∃ x : UInt8, x = (1 :: List.replicate k 0 : List UInt8).getD k 0 := ⟨_, rfl⟩
  have hxl := x.toNat_lt
  have hpl : (1 :: List.replicate k 0 : List UInt8).set k (UInt8.ofNat (x.toNat ||| 128)) = padL n := by
    unfold padL
    cases k with
    | zero => rw [if_pos (by omega), hx]; rfl
    | succ k =>
      rw [if_neg (by omega), hx]
      have e1 : (1 :: List.replicate (k + 1) 0 : List UInt8).getD (k + 1) 0 = 0 := by simp [List.getD_eq_getElem?_getD]
      rw [e1, show 134 - n % 136 = k from by omega]
      simp only [List.set_cons_succ]
      congr 1
      rw [List.replicate_succ', List.set_append_right _ _ (by simp), List.length_replicate, Nat.sub_self]; rfl
  refine HC_seq fun K1 hK1 => ?_
  refine HC_region ?_
  all_goals refine HL_r rfl rfl rfl rfl (R_assign rfl) ?_
  all_goals refine HL_r rfl rfl rfl rfl (R_assign rfl) ?_
  all_goals refine HL_nil ?_
  all_goals (
    refine HQ_then ?_
    refine hK1 _ _ _ _ ?_; clear hK1 K1
    refine HC_seq fun K2 hK2 => ?_
    refine HC_seq fun K3 hK3 => ?_
    refine HC_region ?_
    all_goals refine HL_r rfl rfl rfl rfl (R_move rfl) ?_
    all_goals refine HL_r rfl rfl rfl rfl (R_pure rfl rfl rfl) ?_
    all_goals refine HL_r rfl rfl rfl rfl (R_move rfl) ?_
    all_goals first
      | (refine HL_r rfl rfl rfl rfl (R_move rfl) ?_)
      | (refine HL_skip rfl rfl rfl ?_)
      | (refine HL_case 7 rfl (fun hb4 => ?_) (fun hb4 => ?_) <;> (try simp only [decide_eq_true_eq, decide_eq_false_iff_not, beq_iff_eq, beq_eq_false_iff_ne, bne_iff_ne, bne_eq_false_iff_eq, Bool.not_eq_true', Bool.not_eq_false', ne_eq, Int.not_lt, Int.not_le, ge_iff_le, gt_iff_lt] at hb4) <;> first | (refine HL_r rfl rfl rfl rfl (R_move rfl) ?_) | (refine HL_skip rfl rfl rfl ?_))
    all_goals first
      | (refine HL_r rfl rfl rfl rfl (R_pure rfl rfl rfl) ?_)
      | (refine HL_skip rfl rfl rfl ?_)
      | (refine HL_case 7 rfl (fun hb5 => ?_) (fun hb5 => ?_) <;> (try simp only [decide_eq_true_eq, decide_eq_false_iff_not, beq_iff_eq, beq_eq_false_iff_ne, bne_iff_ne, bne_eq_false_iff_eq, Bool.not_eq_true', Bool.not_eq_false', ne_eq, Int.not_lt, Int.not_le, ge_iff_le, gt_iff_lt] at hb5) <;> first | (refine HL_r rfl rfl rfl rfl (R_pure rfl rfl rfl) ?_) | (refine HL_skip rfl rfl rfl ?_))
    all_goals first
      | (refine HL_r rfl rfl rfl rfl (R_pickT rfl rfl) ?_)
      | (refine HL_r rfl rfl rfl rfl (R_pickF rfl rfl) ?_)
    all_goals refine HL_nil ?_
    all_goals (
      refine HQ_then ?_
      refine hK3 _ _ _ _ ?_; clear hK3 K3
      refine HC_cond rfl (fun h6 => ?_) (fun h6 => ?_)
      · try exact Bool.noConfusion h6
        all_goals try simp only [decide_eq_true_eq, decide_eq_false_iff_not, beq_iff_eq, beq_eq_false_iff_ne, bne_iff_ne, bne_eq_false_iff_eq, Bool.not_eq_true', Bool.not_eq_false', ne_eq, Int.not_lt, Int.not_le, ge_iff_le, gt_iff_lt] at h6
        all_goals (
          refine HC_seq fun K7 hK7 => ?_
          refine HC_region ?_
          all_goals refine HL_r rfl rfl rfl rfl (R_assign rfl) ?_
          all_goals refine HL_r rfl rfl rfl rfl (R_assign rfl) ?_
          all_goals refine HL_nil ?_
          all_goals (
            refine HQ_then ?_
            refine hK7 _ _ _ _ ?_; clear hK7 K7
            refine HC_ret ?_
            refine HQ_thenR ?_; clear hK2 K2
            refine HQ_post rfl rfl (.cons (res_tmp rfl) (.cons (res_tmp rfl) .nil)) (fun w1 hs1 => ?_)
            first | (exact ⟨rfl, hs1.keep⟩) | (exfalso; omega)
            skip)
          skip)
      · try exact Bool.noConfusion h6
        all_goals try simp only [decide_eq_true_eq, decide_eq_false_iff_not, beq_iff_eq, beq_eq_false_iff_ne, bne_iff_ne, bne_eq_false_iff_eq, Bool.not_eq_true', Bool.not_eq_false', ne_eq, Int.not_lt, Int.not_le, ge_iff_le, gt_iff_lt] at h6
        all_goals (
          refine HC_skip ?_
          refine HQ_then ?_
          refine hK2 _ _ _ _ ?_; clear hK2 K2
          refine HC_seq fun K8 hK8 => ?_
          refine HC_region ?_
          all_goals refine HL_r rfl rfl rfl rfl (R_move rfl) ?_
          all_goals refine HL_r rfl rfl rfl rfl (R_pure rfl rfl rfl) ?_; refine HL_as (show _ = Value.int .i64 ((n % 136 : Nat) : Int) from congrArg (Value.int .i64) (by rw [Int.tmod_eq_emod_of_nonneg (by omega)]; omega)) ?_
          all_goals refine HL_r rfl rfl rfl rfl (R_pure rfl rfl rfl) ?_; refine HL_as (show _ = Value.int .i64 ((k + 1 : Nat) : Int) from congrArg (Value.int .i64) (by rw [wrap_i64 (by omega) (by omega)]; omega)) ?_
          all_goals refine HL_make (n := k + 1) (b := 1) rfl rfl rfl rfl rfl rfl rfl rfl rfl (by omega) (by omega) fun r2 => ?_
          all_goals refine HL_r rfl rfl rfl rfl (R_assign rfl) ?_
          all_goals refine HL_nil ?_
          all_goals (
            refine HQ_then ?_
            refine hK8 _ _ _ _ ?_; clear hK8 K8
            refine HC_seq fun K9 hK9 => ?_
            refine HC_region ?_
            all_goals refine HL_r rfl rfl rfl rfl (R_move rfl) ?_
            all_goals refine HL_r rfl rfl rfl rfl (R_indexS (j := 0) (m := 1) (off' := 0) rfl rfl rfl rfl rfl (by omega) rfl) ?_
            all_goals refine HL_storeAt (k := 0) (off := 0) (xs := List.replicate (k + 1) (.int .u8 0)) (ys := (1 :: List.replicate k 0 : List UInt8).map bV) rfl rfl rfl rfl rfl rfl (by simp) (by rw [List.replicate_succ]; simp [bV]) rfl ?_
            all_goals refine HL_nil ?_
            all_goals (
              refine HQ_then ?_
              refine hK9 _ _ _ _ ?_; clear hK9 K9
              refine HC_seq fun K10 hK10 => ?_
              refine HC_region ?_
              all_goals refine HL_r rfl rfl rfl rfl (R_move rfl) ?_
              all_goals refine HL_r rfl rfl rfl rfl (R_move rfl) ?_
              all_goals first
                | (refine HL_r rfl rfl rfl rfl (R_lenBs rfl rfl) ?_)
                | (refine HL_r rfl rfl rfl rfl (R_lenSl rfl rfl) ?_)
                | (refine HL_r rfl rfl rfl rfl (R_lenStr rfl rfl rfl) ?_)
                | (refine HL_r rfl rfl rfl rfl (R_pure rfl rfl rfl) ?_)
              all_goals refine HL_r rfl rfl rfl rfl (R_pure rfl rfl rfl) ?_; refine HL_as (show _ = Value.int .i64 ((k : Nat) : Int) from congrArg (Value.int .i64) (by rw [wrap_i64 (by omega) (by omega)]; omega)) ?_
              all_goals refine HL_r rfl rfl rfl rfl (R_indexS (j := k) (m := 1) (off' := k) rfl rfl rfl rfl rfl (by omega) (by omega)) ?_
              all_goals refine HL_r rfl rfl rfl rfl (R_loadAt rfl (known_L (k := 0) rfl) rfl (mapB_get (by simp))) ?_; rw [← hx]
              all_goals refine HL_r rfl rfl rfl rfl (R_bits8 (op := .or) (b := ((x.toNat ||| 128 : Nat) : Int)) rfl rfl rfl hxl (by decide) rfl) ?_; refine HL_as (show _ = bV (UInt8.ofNat (x.toNat ||| 128)) from bV_of (Nat.or_lt_two_pow (n := 8) hxl (by decide))) ?_
              all_goals refine HL_r rfl rfl rfl rfl (R_indexS (j := k) (m := 1) (off' := k) rfl rfl rfl rfl rfl (by omega) (by omega)) ?_
              all_goals refine HL_storeAt (k := 0) (off := k) (xs := (1 :: List.replicate k 0 : List UInt8).map bV) (ys := (padL n).map bV) rfl rfl rfl rfl rfl rfl (by simp) (by rw [← hpl, List.map_set]) rfl ?_
              all_goals refine HL_nil ?_
              all_goals (
                refine HQ_then ?_
                refine hK10 _ _ _ _ ?_; clear hK10 K10
                refine HC_seq fun K11 hK11 => ?_
                refine HC_region ?_
                all_goals refine HL_r rfl rfl rfl rfl (R_move rfl) ?_
                all_goals refine HL_r rfl rfl rfl rfl (R_bytesStr (b := padL n) (row := some (r2, k + 1, [])) (e := 5) (show _ = some (rowV (padL n).length (some (r2, k + 1, []))) from by rw [padL_len, show 136 - n % 136 = k + 1 from by omega]; rfl) ⟨by simp, by simp [padL_len]; omega⟩ (fun p hp => .inl (by rw [List.mem_singleton.1 hp]; simp)) rfl rfl rfl) ?_
                all_goals refine HL_r rfl rfl rfl rfl (R_assign rfl) ?_
                all_goals refine HL_r rfl rfl rfl rfl (R_assign rfl) ?_
                all_goals refine HL_nil ?_
                all_goals (
                  refine HQ_then ?_
                  refine hK11 _ _ _ _ ?_; clear hK11 K11
                  refine HC_ret ?_
                  refine HQ_post rfl rfl (.cons (res_tmp rfl) (.cons (res_tmp rfl) .nil)) (fun w1 hs1 => ?_)
                  first | (exact ⟨rfl, hs1.keep⟩) | (exfalso; omega)
                  skip)
                skip)
              skip)
            skip)
          skip)
      skip)
    skip)
end Go.Proofs.YthfinkklgbiaeaaDoor
