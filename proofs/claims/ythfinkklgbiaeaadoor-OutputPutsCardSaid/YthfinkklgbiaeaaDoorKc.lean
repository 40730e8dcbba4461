import Derived.Test.YthfinkklgbiaeaaDoorKb
namespace Go.Proofs.YthfinkklgbiaeaaDoor
set_option linter.all false
open Go.SL Go.RowKit Go.Shelf
set_option maxRecDepth 10000 in
theorem M_round {a : List Nat} (ha : SOk 25 a) {n : Nat} (hn : n < 18446744073709551616) {by_ : List Nat} (hbl : by_.length = 25) (hby : ∀ i, by_.getD i 0 < 9223372036854775808) (r : Nat) :
    PureM Tryd.prog 55 [.pointer (some ⟨r, 0, none⟩), uV n, .agg (by_.map iV).toArray].toArray (.tuple #[]) r (kO a) (kO (roundA by_ a n)) := by
  refine pureM_of_HC Tryd.func55 rfl rfl fun w => ?_
  obtain ⟨m, hm⟩ : ∃ m, m = mixA a := ⟨_, rfl⟩
  have hmk : SOk 25 m := by rw [hm]; exact mixA_ok ha
  have hml := hmk.1
  have hbk := rS_ok by_ hmk 25
  obtain ⟨b, hb⟩ : ∃ b, b = rS m by_ 25 := ⟨_, rfl⟩
  have hbk : SOk 25 b := by rw [hb]; exact rS_ok by_ hmk 25
  have hbln := hbk.1
  have hra : roundA by_ a n = iotaA (xS b m 25) n := by rw [hb, hm]; rfl
  refine HC_seq fun K1 hK1 => ?_
  refine HC_region ?_
  all_goals refine HL_box (cs := #[_]) rfl rfl rfl rfl fun r1 => ?_
  all_goals refine HL_box (cs := (by_.map iV).toArray) rfl rfl rfl rfl fun r2 => ?_
  all_goals refine HL_nil ?_
  all_goals (
    refine HQ_then ?_
    refine hK1 _ _ _ _ ?_; clear hK1 K1
    refine HC_seq fun K2 hK2 => ?_
    refine HC_region ?_
    all_goals first
      | (refine HL_r rfl rfl rfl rfl (R_load rfl (known_L (k := 0) rfl) rfl rfl) ?_)
      | (refine HL_r rfl rfl rfl rfl (R_load rfl (known_L (k := 1) rfl) rfl rfl) ?_)
      | (refine HL_r rfl rfl rfl rfl (R_load rfl (known_L (k := 2) rfl) rfl rfl) ?_)
      | (refine HL_r rfl rfl rfl rfl (R_load rfl (known_L (k := 3) rfl) rfl rfl) ?_)
      | (refine HL_r rfl rfl rfl rfl (R_load rfl (known_L (k := 4) rfl) rfl rfl) ?_)
      | (refine HL_r rfl rfl rfl rfl (R_load rfl (known_L (k := 5) rfl) rfl rfl) ?_)
      | (refine HL_r rfl rfl rfl rfl (R_load rfl (known_L (k := 6) rfl) rfl rfl) ?_)
      | (refine HL_r rfl rfl rfl rfl (R_load rfl (known_R (k := 0) rfl) rfl rfl) ?_)
      | (refine HL_r rfl rfl rfl rfl (R_load rfl (known_R (k := 1) rfl) rfl rfl) ?_)
      | (refine HL_r rfl rfl rfl rfl (R_load rfl (known_R (k := 2) rfl) rfl rfl) ?_)
      | (refine HL_r rfl rfl rfl rfl (R_load rfl (known_R (k := 3) rfl) rfl rfl) ?_)
      | (refine HL_r rfl rfl rfl rfl (R_load rfl (known_R (k := 4) rfl) rfl rfl) ?_)
    all_goals refine HL_callM (k := 2) rfl rfl rfl (enters_of Tryd.func64 (by kernel_rfl) rfl) rfl (M_columns ha r) rfl ?_; rw [← hm]
    all_goals refine HL_nil ?_
    all_goals (
      refine HQ_then ?_
      refine hK2 _ _ _ _ ?_; clear hK2 K2
      refine HC_seq fun K3 hK3 => ?_
      refine HC_region ?_
      all_goals refine HL_alloc (cs := (z25.map uV).toArray) rfl rfl rfl rfl fun r3 => ?_
      all_goals refine HL_nil ?_
      all_goals (
        refine HQ_then ?_
        refine hK3 _ _ _ _ ?_; clear hK3 K3
        refine HC_seq fun K4 hK4 => ?_
        refine HC_seq fun K5 hK5 => ?_
        refine HC_region ?_
        all_goals refine HL_callP rfl rfl rfl (enters_of Tryd.func65 (by kernel_rfl) rfl) P_each ?_
        all_goals refine HL_nil ?_
        all_goals (
          refine HQ_then ?_
          refine hK5 _ _ _ _ ?_; clear hK5 K5
          refine HC_block ?_
          refine HC_range (τ := Unit) (fun i (s : List Nat) => s = rS m by_ i ∧ i ≤ 25) (fun s => [(r3, kO s)]) (fun _ _ => False) (fun _ => []) [(r2, _), (r1, _), (r, kO m)] (z25) rfl rfl (enters_of Tryd.func79 (by kernel_rfl) rfl) I_each (by rintro _ _ _ ⟨_, rfl, _⟩; rfl) rfl (by simp) rfl ⟨rfl, by decide⟩ ?_ ?_ ?_
          · rintro q Xr Xb w3 i _ _ s ⟨hi, rfl, rfl⟩ ⟨hs, -⟩ Kr hKr
            have hsk : SOk 25 s := by rw [hs]; exact rS_ok by_ hmk i
            have hsl := hsk.1
            refine HC_seq fun K6 hK6 => ?_
            refine HC_region ?_
            all_goals refine HL_r rfl rfl rfl rfl (R_assign rfl) ?_
            all_goals refine HL_nil ?_
            all_goals (
              refine HQ_then ?_
              refine hK6 _ _ _ _ ?_; clear hK6 K6
              refine HC_region ?_
              all_goals refine HL_alloc (cs := #[_, _]) rfl rfl rfl rfl fun r2 => ?_
              all_goals first
                | (refine HL_storeA (k := 0) (n := 2) (cs' := #[_, _]) (vs := #[_, _]) rfl rfl rfl rfl rfl rfl rfl (by exact Nat.le_of_ble_eq_true rfl) rfl (by first | (simp only [List.set_cons_zero, List.set_cons_succ]; exact rfl) | exact rfl) ?_)
                | (refine HL_storeA (k := 1) (n := 2) (cs' := #[_, _]) (vs := #[_, _]) rfl rfl rfl rfl rfl rfl rfl (by exact Nat.le_of_ble_eq_true rfl) rfl (by first | (simp only [List.set_cons_zero, List.set_cons_succ]; exact rfl) | exact rfl) ?_)
                | (refine HL_storeA (k := 2) (n := 2) (cs' := #[_, _]) (vs := #[_, _]) rfl rfl rfl rfl rfl rfl rfl (by exact Nat.le_of_ble_eq_true rfl) rfl (by first | (simp only [List.set_cons_zero, List.set_cons_succ]; exact rfl) | exact rfl) ?_)
                | (refine HL_storeA (k := 3) (n := 2) (cs' := #[_, _]) (vs := #[_, _]) rfl rfl rfl rfl rfl rfl rfl (by exact Nat.le_of_ble_eq_true rfl) rfl (by first | (simp only [List.set_cons_zero, List.set_cons_succ]; exact rfl) | exact rfl) ?_)
                | (refine HL_storeA (k := 4) (n := 2) (cs' := #[_, _]) (vs := #[_, _]) rfl rfl rfl rfl rfl rfl rfl (by exact Nat.le_of_ble_eq_true rfl) rfl (by first | (simp only [List.set_cons_zero, List.set_cons_succ]; exact rfl) | exact rfl) ?_)
                | (refine HL_storeA (k := 5) (n := 2) (cs' := #[_, _]) (vs := #[_, _]) rfl rfl rfl rfl rfl rfl rfl (by exact Nat.le_of_ble_eq_true rfl) rfl (by first | (simp only [List.set_cons_zero, List.set_cons_succ]; exact rfl) | exact rfl) ?_)
                | (refine HL_storeA (k := 6) (n := 2) (cs' := #[_, _]) (vs := #[_, _]) rfl rfl rfl rfl rfl rfl rfl (by exact Nat.le_of_ble_eq_true rfl) rfl (by first | (simp only [List.set_cons_zero, List.set_cons_succ]; exact rfl) | exact rfl) ?_)
                | (refine HL_storeA (k := 0) (n := 2) (vs := #[_, _]) rfl rfl rfl rfl rfl rfl rfl (by exact Nat.le_of_ble_eq_true rfl) (by first | (simp only [List.take_zero, List.nil_append, Array.toList_toArray, List.drop_succ_cons, List.drop_zero, List.take_succ_cons, List.cons_append, Nat.zero_add, Nat.reduceAdd, List.append_nil, List.drop_nil]; exact rfl) | exact rfl) (by first | (simp only [List.set_cons_zero, List.set_cons_succ]; exact rfl) | exact rfl) ?_)
                | (refine HL_storeA (k := 1) (n := 2) (vs := #[_, _]) rfl rfl rfl rfl rfl rfl rfl (by exact Nat.le_of_ble_eq_true rfl) (by first | (simp only [List.take_zero, List.nil_append, Array.toList_toArray, List.drop_succ_cons, List.drop_zero, List.take_succ_cons, List.cons_append, Nat.zero_add, Nat.reduceAdd, List.append_nil, List.drop_nil]; exact rfl) | exact rfl) (by first | (simp only [List.set_cons_zero, List.set_cons_succ]; exact rfl) | exact rfl) ?_)
                | (refine HL_storeA (k := 2) (n := 2) (vs := #[_, _]) rfl rfl rfl rfl rfl rfl rfl (by exact Nat.le_of_ble_eq_true rfl) (by first | (simp only [List.take_zero, List.nil_append, Array.toList_toArray, List.drop_succ_cons, List.drop_zero, List.take_succ_cons, List.cons_append, Nat.zero_add, Nat.reduceAdd, List.append_nil, List.drop_nil]; exact rfl) | exact rfl) (by first | (simp only [List.set_cons_zero, List.set_cons_succ]; exact rfl) | exact rfl) ?_)
                | (refine HL_storeA (k := 3) (n := 2) (vs := #[_, _]) rfl rfl rfl rfl rfl rfl rfl (by exact Nat.le_of_ble_eq_true rfl) (by first | (simp only [List.take_zero, List.nil_append, Array.toList_toArray, List.drop_succ_cons, List.drop_zero, List.take_succ_cons, List.cons_append, Nat.zero_add, Nat.reduceAdd, List.append_nil, List.drop_nil]; exact rfl) | exact rfl) (by first | (simp only [List.set_cons_zero, List.set_cons_succ]; exact rfl) | exact rfl) ?_)
                | (refine HL_storeA (k := 4) (n := 2) (vs := #[_, _]) rfl rfl rfl rfl rfl rfl rfl (by exact Nat.le_of_ble_eq_true rfl) (by first | (simp only [List.take_zero, List.nil_append, Array.toList_toArray, List.drop_succ_cons, List.drop_zero, List.take_succ_cons, List.cons_append, Nat.zero_add, Nat.reduceAdd, List.append_nil, List.drop_nil]; exact rfl) | exact rfl) (by first | (simp only [List.set_cons_zero, List.set_cons_succ]; exact rfl) | exact rfl) ?_)
                | (refine HL_storeA (k := 5) (n := 2) (vs := #[_, _]) rfl rfl rfl rfl rfl rfl rfl (by exact Nat.le_of_ble_eq_true rfl) (by first | (simp only [List.take_zero, List.nil_append, Array.toList_toArray, List.drop_succ_cons, List.drop_zero, List.take_succ_cons, List.cons_append, Nat.zero_add, Nat.reduceAdd, List.append_nil, List.drop_nil]; exact rfl) | exact rfl) (by first | (simp only [List.set_cons_zero, List.set_cons_succ]; exact rfl) | exact rfl) ?_)
                | (refine HL_storeA (k := 6) (n := 2) (vs := #[_, _]) rfl rfl rfl rfl rfl rfl rfl (by exact Nat.le_of_ble_eq_true rfl) (by first | (simp only [List.take_zero, List.nil_append, Array.toList_toArray, List.drop_succ_cons, List.drop_zero, List.take_succ_cons, List.cons_append, Nat.zero_add, Nat.reduceAdd, List.append_nil, List.drop_nil]; exact rfl) | exact rfl) (by first | (simp only [List.set_cons_zero, List.set_cons_succ]; exact rfl) | exact rfl) ?_)
              all_goals refine HL_nil ?_
              all_goals (
                refine HQ_then ?_
                refine hKr _ _ ?_; clear hKr
                refine HC_block ?_
                refine HC_seq fun K7 hK7 => ?_
                refine HC_draw 6 (by kernel_rfl) (by kernel_rfl) ?_
                all_goals refine HD_r rfl rfl rfl (R_indexA (j := 0) rfl rfl rfl rfl rfl (by first | decide | omega) (by first | (simp only [Nat.zero_add, Nat.reduceAdd, Nat.reduceMul, Nat.zero_mul, Nat.mul_one, Nat.add_zero]; exact rfl) | exact rfl)) ?_
                all_goals first
                  | (refine HD_r rfl rfl rfl (R_load rfl (known_L (k := 0) rfl) rfl rfl) ?_)
                  | (refine HD_r rfl rfl rfl (R_load rfl (known_L (k := 1) rfl) rfl rfl) ?_)
                  | (refine HD_r rfl rfl rfl (R_load rfl (known_L (k := 2) rfl) rfl rfl) ?_)
                  | (refine HD_r rfl rfl rfl (R_load rfl (known_L (k := 3) rfl) rfl rfl) ?_)
                  | (refine HD_r rfl rfl rfl (R_load rfl (known_L (k := 4) rfl) rfl rfl) ?_)
                  | (refine HD_r rfl rfl rfl (R_load rfl (known_L (k := 5) rfl) rfl rfl) ?_)
                  | (refine HD_r rfl rfl rfl (R_load rfl (known_L (k := 6) rfl) rfl rfl) ?_)
                  | (refine HD_r rfl rfl rfl (R_load rfl (known_R (k := 0) rfl) rfl rfl) ?_)
                  | (refine HD_r rfl rfl rfl (R_load rfl (known_R (k := 1) rfl) rfl rfl) ?_)
                  | (refine HD_r rfl rfl rfl (R_load rfl (known_R (k := 2) rfl) rfl rfl) ?_)
                  | (refine HD_r rfl rfl rfl (R_load rfl (known_R (k := 3) rfl) rfl rfl) ?_)
                  | (refine HD_r rfl rfl rfl (R_load rfl (known_R (k := 4) rfl) rfl rfl) ?_)
                all_goals refine HD_r rfl rfl rfl (R_indexA (j := 1) rfl rfl rfl rfl rfl (by first | decide | omega) (by first | (simp only [Nat.zero_add, Nat.reduceAdd, Nat.reduceMul, Nat.zero_mul, Nat.mul_one, Nat.add_zero]; exact rfl) | exact rfl)) ?_
                all_goals first
                  | (refine HD_r rfl rfl rfl (R_load rfl (known_L (k := 0) rfl) rfl rfl) ?_)
                  | (refine HD_r rfl rfl rfl (R_load rfl (known_L (k := 1) rfl) rfl rfl) ?_)
                  | (refine HD_r rfl rfl rfl (R_load rfl (known_L (k := 2) rfl) rfl rfl) ?_)
                  | (refine HD_r rfl rfl rfl (R_load rfl (known_L (k := 3) rfl) rfl rfl) ?_)
                  | (refine HD_r rfl rfl rfl (R_load rfl (known_L (k := 4) rfl) rfl rfl) ?_)
                  | (refine HD_r rfl rfl rfl (R_load rfl (known_L (k := 5) rfl) rfl rfl) ?_)
                  | (refine HD_r rfl rfl rfl (R_load rfl (known_L (k := 6) rfl) rfl rfl) ?_)
                  | (refine HD_r rfl rfl rfl (R_load rfl (known_R (k := 0) rfl) rfl rfl) ?_)
                  | (refine HD_r rfl rfl rfl (R_load rfl (known_R (k := 1) rfl) rfl rfl) ?_)
                  | (refine HD_r rfl rfl rfl (R_load rfl (known_R (k := 2) rfl) rfl rfl) ?_)
                  | (refine HD_r rfl rfl rfl (R_load rfl (known_R (k := 3) rfl) rfl rfl) ?_)
                  | (refine HD_r rfl rfl rfl (R_load rfl (known_R (k := 4) rfl) rfl rfl) ?_)
                all_goals refine HD_r rfl rfl rfl (R_assign rfl) ?_
                all_goals refine HD_r rfl rfl rfl (R_assign rfl) ?_
                all_goals refine HD_end ?_
                all_goals refine HL_nil ?_
                all_goals (
                  refine HQ_then ?_
                  refine hK7 _ _ _ _ ?_; clear hK7 K7
                  refine HC_draw 19 (by kernel_rfl) (by kernel_rfl) ?_
                  all_goals refine HD_r rfl rfl rfl (R_move rfl) ?_
                  all_goals refine HD_r rfl rfl rfl (R_move rfl) ?_
                  all_goals refine HD_r rfl rfl rfl (R_pure rfl rfl rfl) ?_; refine HD_as (show _ = Value.int .i64 ((2 * (i % 5) : Nat) : Int) from congrArg (Value.int .i64) (by rw [wrap_i64 (by omega) (by omega)]; omega)) ?_
                  all_goals refine HD_r rfl rfl rfl (R_move rfl) ?_
                  all_goals refine HD_r rfl rfl rfl (R_pure rfl rfl rfl) ?_; refine HD_as (show _ = Value.int .i64 ((3 * (i / 5) : Nat) : Int) from congrArg (Value.int .i64) (by rw [wrap_i64 (by omega) (by omega)]; omega)) ?_
                  all_goals refine HD_r rfl rfl rfl (R_pure rfl rfl rfl) ?_; refine HD_as (show _ = Value.int .i64 ((2 * (i % 5) + 3 * (i / 5) : Nat) : Int) from congrArg (Value.int .i64) (by rw [wrap_i64 (by omega) (by omega)]; omega)) ?_
                  all_goals refine HD_r rfl rfl rfl (R_pure rfl rfl rfl) ?_; refine HD_as (show _ = Value.int .i64 (((2 * (i % 5) + 3 * (i / 5)) % 5 : Nat) : Int) from congrArg (Value.int .i64) (by rw [Int.tmod_eq_emod_of_nonneg (by omega)]; omega)) ?_
                  all_goals refine HD_r rfl rfl rfl (R_pure rfl rfl rfl) ?_; refine HD_as (show _ = Value.int .i64 ((5 * ((2 * (i % 5) + 3 * (i / 5)) % 5) : Nat) : Int) from congrArg (Value.int .i64) (by rw [wrap_i64 (by omega) (by omega)]; omega)) ?_
                  all_goals refine HD_r rfl rfl rfl (R_pure rfl rfl rfl) ?_; refine HD_as (show _ = Value.int .i64 ((i / 5 + 5 * ((2 * (i % 5) + 3 * (i / 5)) % 5) : Nat) : Int) from congrArg (Value.int .i64) (by rw [wrap_i64 (by omega) (by omega)]; omega)) ?_
                  all_goals first
                    | (refine HD_r rfl rfl rfl (R_load rfl (known_L (k := 0) rfl) rfl rfl) ?_)
                    | (refine HD_r rfl rfl rfl (R_load rfl (known_L (k := 1) rfl) rfl rfl) ?_)
                    | (refine HD_r rfl rfl rfl (R_load rfl (known_L (k := 2) rfl) rfl rfl) ?_)
                    | (refine HD_r rfl rfl rfl (R_load rfl (known_L (k := 3) rfl) rfl rfl) ?_)
                    | (refine HD_r rfl rfl rfl (R_load rfl (known_L (k := 4) rfl) rfl rfl) ?_)
                    | (refine HD_r rfl rfl rfl (R_load rfl (known_L (k := 5) rfl) rfl rfl) ?_)
                    | (refine HD_r rfl rfl rfl (R_load rfl (known_L (k := 6) rfl) rfl rfl) ?_)
                    | (refine HD_r rfl rfl rfl (R_load rfl (known_R (k := 0) rfl) rfl rfl) ?_)
                    | (refine HD_r rfl rfl rfl (R_load rfl (known_R (k := 1) rfl) rfl rfl) ?_)
                    | (refine HD_r rfl rfl rfl (R_load rfl (known_R (k := 2) rfl) rfl rfl) ?_)
                    | (refine HD_r rfl rfl rfl (R_load rfl (known_R (k := 3) rfl) rfl rfl) ?_)
                    | (refine HD_r rfl rfl rfl (R_load rfl (known_R (k := 4) rfl) rfl rfl) ?_)
                  all_goals refine HD_r rfl rfl rfl (R_move rfl) ?_
                  all_goals refine HD_r rfl rfl rfl (R_pure rfl rfl rfl) ?_
                  all_goals refine HD_r rfl rfl rfl (R_indexA (j := i) (m := 1) (off' := i) rfl rfl rfl rfl (by omega) (by omega) (by omega)) ?_
                  all_goals refine HD_r rfl rfl rfl (R_loadAt rfl (known_R (k := 2) rfl) rfl (mapU_get (by rw [hml]; omega))) ?_
                  all_goals refine HD_r rfl rfl rfl (R_move rfl) ?_
                  all_goals refine HD_r rfl rfl rfl (R_indexA (j := i) (m := 1) (off' := i) rfl rfl rfl rfl (by omega) (by omega) (by omega)) ?_
                  all_goals refine HD_r rfl rfl rfl (R_loadAt rfl (known_R (k := 0) rfl) rfl (mapI_get (by rw [hbl]; omega))) ?_
                  all_goals refine HD_callP rfl rfl rfl (enters_of Tryd.func66 (by kernel_rfl) rfl) (P_rot (k := by_.getD i 0) (hmk.get _) (hby i)) ?_
                  all_goals refine HD_r rfl rfl rfl (R_indexA (j := (i / 5 + 5 * ((2 * (i % 5) + 3 * (i / 5)) % 5))) (m := 1) (off' := (i / 5 + 5 * ((2 * (i % 5) + 3 * (i / 5)) % 5))) rfl rfl rfl rfl (by omega) (by omega) (by omega)) ?_
                  all_goals refine HD_end ?_
                  all_goals refine HL_storeAt (k := 1) (off := i / 5 + 5 * ((2 * (i % 5) + 3 * (i / 5)) % 5)) (xs := s.map uV) (ys := (rS m by_ (i + 1)).map uV) rfl rfl rfl rfl rfl rfl (by rw [List.length_map, hsl]; omega) (set_mapU (by rw [hs]; rfl)) rfl ?_
                  all_goals refine HL_nil ?_
                  all_goals (
                    refine HQ_blockN ?_
                    refine HQ_sel [1] (L' := [_]) (by decide) rfl ?_
                    exact HQ_round (rS m by_ (i + 1)) ⟨rfl, by omega⟩ rfl
                    skip)
                  skip)
                skip)
              skip)
          · rintro D i s hfi ⟨hs, -⟩
            have hi25 : i = 25 := hfi
            subst hi25
            rw [← hb] at hs
            have hs := hs.symm
            subst hs
            refine HQ_blockN ?_
            refine HQ_then ?_
            refine hK4 _ _ _ _ ?_; clear hK4 K4
            refine HC_seq fun K8 hK8 => ?_
            refine HC_seq fun K9 hK9 => ?_
            refine HC_region ?_
            all_goals refine HL_callP rfl rfl rfl (enters_of Tryd.func65 (by kernel_rfl) rfl) P_each ?_
            all_goals refine HL_nil ?_
            all_goals (
              refine HQ_then ?_
              refine hK9 _ _ _ _ ?_; clear hK9 K9
              refine HC_block ?_
              refine HC_sel [4, 0, 1, 2, 3] (by decide) rfl ?_
              refine HC_range (τ := Unit) (fun i (s : List Nat) => s = xS b m i ∧ i ≤ 25) (fun s => [(r, kO s)]) (fun _ _ => False) (fun _ => []) [(D, _), (r3, kO b), (r2, _), (r1, _)] (m) rfl rfl (enters_of Tryd.func79 (by kernel_rfl) rfl) I_each (by rintro _ _ _ ⟨_, rfl, _⟩; rfl) rfl (by simp) rfl ⟨rfl, by decide⟩ ?_ ?_ ?_
              · rintro q Xr Xb w3 i _ _ s ⟨hi, rfl, rfl⟩ ⟨hs, -⟩ Kr hKr
                have hsk : SOk 25 s := by rw [hs]; exact xS_ok hbk hmk i
                have hsl := hsk.1
                refine HC_seq fun K10 hK10 => ?_
                refine HC_region ?_
                all_goals refine HL_r rfl rfl rfl rfl (R_assign rfl) ?_
                all_goals refine HL_nil ?_
                all_goals (
                  refine HQ_then ?_
                  refine hK10 _ _ _ _ ?_; clear hK10 K10
                  refine HC_region ?_
                  all_goals refine HL_alloc (cs := #[_, _]) rfl rfl rfl rfl fun r3 => ?_
                  all_goals first
                    | (refine HL_storeA (k := 0) (n := 2) (cs' := #[_, _]) (vs := #[_, _]) rfl rfl rfl rfl rfl rfl rfl (by exact Nat.le_of_ble_eq_true rfl) rfl (by first | (simp only [List.set_cons_zero, List.set_cons_succ]; exact rfl) | exact rfl) ?_)
                    | (refine HL_storeA (k := 1) (n := 2) (cs' := #[_, _]) (vs := #[_, _]) rfl rfl rfl rfl rfl rfl rfl (by exact Nat.le_of_ble_eq_true rfl) rfl (by first | (simp only [List.set_cons_zero, List.set_cons_succ]; exact rfl) | exact rfl) ?_)
                    | (refine HL_storeA (k := 2) (n := 2) (cs' := #[_, _]) (vs := #[_, _]) rfl rfl rfl rfl rfl rfl rfl (by exact Nat.le_of_ble_eq_true rfl) rfl (by first | (simp only [List.set_cons_zero, List.set_cons_succ]; exact rfl) | exact rfl) ?_)
                    | (refine HL_storeA (k := 3) (n := 2) (cs' := #[_, _]) (vs := #[_, _]) rfl rfl rfl rfl rfl rfl rfl (by exact Nat.le_of_ble_eq_true rfl) rfl (by first | (simp only [List.set_cons_zero, List.set_cons_succ]; exact rfl) | exact rfl) ?_)
                    | (refine HL_storeA (k := 4) (n := 2) (cs' := #[_, _]) (vs := #[_, _]) rfl rfl rfl rfl rfl rfl rfl (by exact Nat.le_of_ble_eq_true rfl) rfl (by first | (simp only [List.set_cons_zero, List.set_cons_succ]; exact rfl) | exact rfl) ?_)
                    | (refine HL_storeA (k := 5) (n := 2) (cs' := #[_, _]) (vs := #[_, _]) rfl rfl rfl rfl rfl rfl rfl (by exact Nat.le_of_ble_eq_true rfl) rfl (by first | (simp only [List.set_cons_zero, List.set_cons_succ]; exact rfl) | exact rfl) ?_)
                    | (refine HL_storeA (k := 6) (n := 2) (cs' := #[_, _]) (vs := #[_, _]) rfl rfl rfl rfl rfl rfl rfl (by exact Nat.le_of_ble_eq_true rfl) rfl (by first | (simp only [List.set_cons_zero, List.set_cons_succ]; exact rfl) | exact rfl) ?_)
                    | (refine HL_storeA (k := 0) (n := 2) (vs := #[_, _]) rfl rfl rfl rfl rfl rfl rfl (by exact Nat.le_of_ble_eq_true rfl) (by first | (simp only [List.take_zero, List.nil_append, Array.toList_toArray, List.drop_succ_cons, List.drop_zero, List.take_succ_cons, List.cons_append, Nat.zero_add, Nat.reduceAdd, List.append_nil, List.drop_nil]; exact rfl) | exact rfl) (by first | (simp only [List.set_cons_zero, List.set_cons_succ]; exact rfl) | exact rfl) ?_)
                    | (refine HL_storeA (k := 1) (n := 2) (vs := #[_, _]) rfl rfl rfl rfl rfl rfl rfl (by exact Nat.le_of_ble_eq_true rfl) (by first | (simp only [List.take_zero, List.nil_append, Array.toList_toArray, List.drop_succ_cons, List.drop_zero, List.take_succ_cons, List.cons_append, Nat.zero_add, Nat.reduceAdd, List.append_nil, List.drop_nil]; exact rfl) | exact rfl) (by first | (simp only [List.set_cons_zero, List.set_cons_succ]; exact rfl) | exact rfl) ?_)
                    | (refine HL_storeA (k := 2) (n := 2) (vs := #[_, _]) rfl rfl rfl rfl rfl rfl rfl (by exact Nat.le_of_ble_eq_true rfl) (by first | (simp only [List.take_zero, List.nil_append, Array.toList_toArray, List.drop_succ_cons, List.drop_zero, List.take_succ_cons, List.cons_append, Nat.zero_add, Nat.reduceAdd, List.append_nil, List.drop_nil]; exact rfl) | exact rfl) (by first | (simp only [List.set_cons_zero, List.set_cons_succ]; exact rfl) | exact rfl) ?_)
                    | (refine HL_storeA (k := 3) (n := 2) (vs := #[_, _]) rfl rfl rfl rfl rfl rfl rfl (by exact Nat.le_of_ble_eq_true rfl) (by first | (simp only [List.take_zero, List.nil_append, Array.toList_toArray, List.drop_succ_cons, List.drop_zero, List.take_succ_cons, List.cons_append, Nat.zero_add, Nat.reduceAdd, List.append_nil, List.drop_nil]; exact rfl) | exact rfl) (by first | (simp only [List.set_cons_zero, List.set_cons_succ]; exact rfl) | exact rfl) ?_)
                    | (refine HL_storeA (k := 4) (n := 2) (vs := #[_, _]) rfl rfl rfl rfl rfl rfl rfl (by exact Nat.le_of_ble_eq_true rfl) (by first | (simp only [List.take_zero, List.nil_append, Array.toList_toArray, List.drop_succ_cons, List.drop_zero, List.take_succ_cons, List.cons_append, Nat.zero_add, Nat.reduceAdd, List.append_nil, List.drop_nil]; exact rfl) | exact rfl) (by first | (simp only [List.set_cons_zero, List.set_cons_succ]; exact rfl) | exact rfl) ?_)
                    | (refine HL_storeA (k := 5) (n := 2) (vs := #[_, _]) rfl rfl rfl rfl rfl rfl rfl (by exact Nat.le_of_ble_eq_true rfl) (by first | (simp only [List.take_zero, List.nil_append, Array.toList_toArray, List.drop_succ_cons, List.drop_zero, List.take_succ_cons, List.cons_append, Nat.zero_add, Nat.reduceAdd, List.append_nil, List.drop_nil]; exact rfl) | exact rfl) (by first | (simp only [List.set_cons_zero, List.set_cons_succ]; exact rfl) | exact rfl) ?_)
                    | (refine HL_storeA (k := 6) (n := 2) (vs := #[_, _]) rfl rfl rfl rfl rfl rfl rfl (by exact Nat.le_of_ble_eq_true rfl) (by first | (simp only [List.take_zero, List.nil_append, Array.toList_toArray, List.drop_succ_cons, List.drop_zero, List.take_succ_cons, List.cons_append, Nat.zero_add, Nat.reduceAdd, List.append_nil, List.drop_nil]; exact rfl) | exact rfl) (by first | (simp only [List.set_cons_zero, List.set_cons_succ]; exact rfl) | exact rfl) ?_)
                  all_goals refine HL_nil ?_
                  all_goals (
                    refine HQ_then ?_
                    refine hKr _ _ ?_; clear hKr
                    refine HC_block ?_
                    refine HC_seq fun K11 hK11 => ?_
                    refine HC_draw 8 (by kernel_rfl) (by kernel_rfl) ?_
                    all_goals refine HD_r rfl rfl rfl (R_indexA (j := 0) rfl rfl rfl rfl rfl (by first | decide | omega) (by first | (simp only [Nat.zero_add, Nat.reduceAdd, Nat.reduceMul, Nat.zero_mul, Nat.mul_one, Nat.add_zero]; exact rfl) | exact rfl)) ?_
                    all_goals first
                      | (refine HD_r rfl rfl rfl (R_load rfl (known_L (k := 0) rfl) rfl rfl) ?_)
                      | (refine HD_r rfl rfl rfl (R_load rfl (known_L (k := 1) rfl) rfl rfl) ?_)
                      | (refine HD_r rfl rfl rfl (R_load rfl (known_L (k := 2) rfl) rfl rfl) ?_)
                      | (refine HD_r rfl rfl rfl (R_load rfl (known_L (k := 3) rfl) rfl rfl) ?_)
                      | (refine HD_r rfl rfl rfl (R_load rfl (known_L (k := 4) rfl) rfl rfl) ?_)
                      | (refine HD_r rfl rfl rfl (R_load rfl (known_L (k := 5) rfl) rfl rfl) ?_)
                      | (refine HD_r rfl rfl rfl (R_load rfl (known_L (k := 6) rfl) rfl rfl) ?_)
                      | (refine HD_r rfl rfl rfl (R_load rfl (known_R (k := 0) rfl) rfl rfl) ?_)
                      | (refine HD_r rfl rfl rfl (R_load rfl (known_R (k := 1) rfl) rfl rfl) ?_)
                      | (refine HD_r rfl rfl rfl (R_load rfl (known_R (k := 2) rfl) rfl rfl) ?_)
                      | (refine HD_r rfl rfl rfl (R_load rfl (known_R (k := 3) rfl) rfl rfl) ?_)
                      | (refine HD_r rfl rfl rfl (R_load rfl (known_R (k := 4) rfl) rfl rfl) ?_)
                    all_goals refine HD_r rfl rfl rfl (R_move rfl) ?_
                    all_goals refine HD_r rfl rfl rfl (R_indexA (j := 0) rfl rfl rfl rfl rfl (by first | decide | omega) (by first | (simp only [Nat.zero_add, Nat.reduceAdd, Nat.reduceMul, Nat.zero_mul, Nat.mul_one, Nat.add_zero]; exact rfl) | exact rfl)) ?_
                    all_goals first
                      | (refine HD_r rfl rfl rfl (R_load rfl (known_L (k := 0) rfl) rfl rfl) ?_)
                      | (refine HD_r rfl rfl rfl (R_load rfl (known_L (k := 1) rfl) rfl rfl) ?_)
                      | (refine HD_r rfl rfl rfl (R_load rfl (known_L (k := 2) rfl) rfl rfl) ?_)
                      | (refine HD_r rfl rfl rfl (R_load rfl (known_L (k := 3) rfl) rfl rfl) ?_)
                      | (refine HD_r rfl rfl rfl (R_load rfl (known_L (k := 4) rfl) rfl rfl) ?_)
                      | (refine HD_r rfl rfl rfl (R_load rfl (known_L (k := 5) rfl) rfl rfl) ?_)
                      | (refine HD_r rfl rfl rfl (R_load rfl (known_L (k := 6) rfl) rfl rfl) ?_)
                      | (refine HD_r rfl rfl rfl (R_load rfl (known_R (k := 0) rfl) rfl rfl) ?_)
                      | (refine HD_r rfl rfl rfl (R_load rfl (known_R (k := 1) rfl) rfl rfl) ?_)
                      | (refine HD_r rfl rfl rfl (R_load rfl (known_R (k := 2) rfl) rfl rfl) ?_)
                      | (refine HD_r rfl rfl rfl (R_load rfl (known_R (k := 3) rfl) rfl rfl) ?_)
                      | (refine HD_r rfl rfl rfl (R_load rfl (known_R (k := 4) rfl) rfl rfl) ?_)
                    all_goals refine HD_r rfl rfl rfl (R_pure rfl rfl rfl) ?_; refine HD_as (show _ = Value.int .i64 ((i - i % 5 : Nat) : Int) from congrArg (Value.int .i64) (by rw [wrap_i64 (by omega) (by omega)]; omega)) ?_
                    all_goals refine HD_r rfl rfl rfl (R_assign rfl) ?_
                    all_goals refine HD_r rfl rfl rfl (R_assign rfl) ?_
                    all_goals refine HD_end ?_
                    all_goals refine HL_nil ?_
                    all_goals (
                      refine HQ_then ?_
                      refine hK11 _ _ _ _ ?_; clear hK11 K11
                      refine HC_draw 24 (by kernel_rfl) (by kernel_rfl) ?_
                      all_goals first
                        | (refine HD_r rfl rfl rfl (R_load rfl (known_L (k := 0) rfl) rfl rfl) ?_)
                        | (refine HD_r rfl rfl rfl (R_load rfl (known_L (k := 1) rfl) rfl rfl) ?_)
                        | (refine HD_r rfl rfl rfl (R_load rfl (known_L (k := 2) rfl) rfl rfl) ?_)
                        | (refine HD_r rfl rfl rfl (R_load rfl (known_L (k := 3) rfl) rfl rfl) ?_)
                        | (refine HD_r rfl rfl rfl (R_load rfl (known_L (k := 4) rfl) rfl rfl) ?_)
                        | (refine HD_r rfl rfl rfl (R_load rfl (known_L (k := 5) rfl) rfl rfl) ?_)
                        | (refine HD_r rfl rfl rfl (R_load rfl (known_L (k := 6) rfl) rfl rfl) ?_)
                        | (refine HD_r rfl rfl rfl (R_load rfl (known_R (k := 0) rfl) rfl rfl) ?_)
                        | (refine HD_r rfl rfl rfl (R_load rfl (known_R (k := 1) rfl) rfl rfl) ?_)
                        | (refine HD_r rfl rfl rfl (R_load rfl (known_R (k := 2) rfl) rfl rfl) ?_)
                        | (refine HD_r rfl rfl rfl (R_load rfl (known_R (k := 3) rfl) rfl rfl) ?_)
                        | (refine HD_r rfl rfl rfl (R_load rfl (known_R (k := 4) rfl) rfl rfl) ?_)
                      all_goals refine HD_r rfl rfl rfl (R_move rfl) ?_
                      all_goals refine HD_r rfl rfl rfl (R_move rfl) ?_
                      all_goals refine HD_r rfl rfl rfl (R_indexA (j := i) (m := 1) (off' := i) rfl rfl rfl rfl (by omega) (by omega) (by omega)) ?_
                      all_goals refine HD_r rfl rfl rfl (R_loadAt rfl (known_R (k := 1) rfl) rfl (mapU_get (by rw [hbln]; omega))) ?_
                      all_goals refine HD_r rfl rfl rfl (R_move rfl) ?_
                      all_goals refine HD_r rfl rfl rfl (R_move rfl) ?_
                      all_goals refine HD_r rfl rfl rfl (R_pure rfl rfl rfl) ?_; refine HD_as (show _ = Value.int .i64 ((i % 5 + 1 : Nat) : Int) from congrArg (Value.int .i64) (by rw [wrap_i64 (by omega) (by omega)]; omega)) ?_
                      all_goals refine HD_r rfl rfl rfl (R_pure rfl rfl rfl) ?_; refine HD_as (show _ = Value.int .i64 (((i % 5 + 1) % 5 : Nat) : Int) from congrArg (Value.int .i64) (by rw [Int.tmod_eq_emod_of_nonneg (by omega)]; omega)) ?_
                      all_goals refine HD_r rfl rfl rfl (R_pure rfl rfl rfl) ?_; refine HD_as (show _ = Value.int .i64 ((i - i % 5 + (i % 5 + 1) % 5 : Nat) : Int) from congrArg (Value.int .i64) (by rw [wrap_i64 (by omega) (by omega)]; omega)) ?_
                      all_goals refine HD_r rfl rfl rfl (R_indexA (j := (i - i % 5 + (i % 5 + 1) % 5)) (m := 1) (off' := (i - i % 5 + (i % 5 + 1) % 5)) rfl rfl rfl rfl (by omega) (by omega) (by omega)) ?_
                      all_goals refine HD_r rfl rfl rfl (R_loadAt rfl (known_R (k := 1) rfl) rfl (mapU_get (by rw [hbln]; omega))) ?_
                      all_goals refine HD_r rfl rfl rfl (R_compl rfl (hbk.get _)) ?_
                      all_goals refine HD_r rfl rfl rfl (R_move rfl) ?_
                      all_goals refine HD_r rfl rfl rfl (R_move rfl) ?_
                      all_goals refine HD_r rfl rfl rfl (R_pure rfl rfl rfl) ?_; refine HD_as (show _ = Value.int .i64 ((i % 5 + 2 : Nat) : Int) from congrArg (Value.int .i64) (by rw [wrap_i64 (by omega) (by omega)]; omega)) ?_
                      all_goals refine HD_r rfl rfl rfl (R_pure rfl rfl rfl) ?_; refine HD_as (show _ = Value.int .i64 (((i % 5 + 2) % 5 : Nat) : Int) from congrArg (Value.int .i64) (by rw [Int.tmod_eq_emod_of_nonneg (by omega)]; omega)) ?_
                      all_goals refine HD_r rfl rfl rfl (R_pure rfl rfl rfl) ?_; refine HD_as (show _ = Value.int .i64 ((i - i % 5 + (i % 5 + 2) % 5 : Nat) : Int) from congrArg (Value.int .i64) (by rw [wrap_i64 (by omega) (by omega)]; omega)) ?_
                      all_goals refine HD_r rfl rfl rfl (R_indexA (j := (i - i % 5 + (i % 5 + 2) % 5)) (m := 1) (off' := (i - i % 5 + (i % 5 + 2) % 5)) rfl rfl rfl rfl (by omega) (by omega) (by omega)) ?_
                      all_goals refine HD_r rfl rfl rfl (R_loadAt rfl (known_R (k := 1) rfl) rfl (mapU_get (by rw [hbln]; omega))) ?_
                      all_goals refine HD_r rfl rfl rfl (R_bits64 (op := .and) (b := (((18446744073709551615 ^^^ b.getD (i - i % 5 + (i % 5 + 1) % 5) 0) &&& b.getD (i - i % 5 + (i % 5 + 2) % 5) 0 : Nat) : Int)) rfl rfl rfl (xor_lt64 (by decide) (hbk.get _)) (hbk.get _) rfl) ?_
                      all_goals refine HD_r rfl rfl rfl (R_bits64 (op := .xor) (b := ((chiN b i : Nat) : Int)) rfl rfl rfl (hbk.get _) (and_lt64 (hbk.get _)) rfl) ?_
                      all_goals refine HD_r rfl rfl rfl (R_pure rfl rfl rfl) ?_
                      all_goals refine HD_r rfl rfl rfl (R_indexA (j := i) (m := 1) (off' := i) rfl rfl rfl rfl (by omega) (by omega) (by omega)) ?_
                      all_goals refine HD_end ?_
                      all_goals refine HL_storeAt (k := 1) (off := i) (xs := s.map uV) (ys := (xS b m (i + 1)).map uV) rfl rfl rfl rfl rfl rfl (by rw [List.length_map, hsl]; omega) (set_mapU (by rw [hs]; rfl)) rfl ?_
                      all_goals refine HL_nil ?_
                      all_goals (
                        refine HQ_blockN ?_
                        refine HQ_sel [1] (L' := [_]) (by decide) rfl ?_
                        exact HQ_round (xS b m (i + 1)) ⟨rfl, by omega⟩ rfl
                        skip)
                      skip)
                    skip)
                  skip)
              · rintro D2 i s hfi ⟨hs, -⟩
                have hi25 : i = 25 := hfi
                subst hi25
                have hsk : SOk 25 s := by rw [hs]; exact xS_ok hbk hmk 25
                have hsl := hsk.1
                refine HQ_blockN ?_
                refine HQ_then ?_
                refine hK8 _ _ _ _ ?_; clear hK8 K8
                refine HC_draw 8 (by kernel_rfl) (by kernel_rfl) ?_
                all_goals first
                  | (refine HD_r rfl rfl rfl (R_load rfl (known_L (k := 0) rfl) rfl rfl) ?_)
                  | (refine HD_r rfl rfl rfl (R_load rfl (known_L (k := 1) rfl) rfl rfl) ?_)
                  | (refine HD_r rfl rfl rfl (R_load rfl (known_L (k := 2) rfl) rfl rfl) ?_)
                  | (refine HD_r rfl rfl rfl (R_load rfl (known_L (k := 3) rfl) rfl rfl) ?_)
                  | (refine HD_r rfl rfl rfl (R_load rfl (known_L (k := 4) rfl) rfl rfl) ?_)
                  | (refine HD_r rfl rfl rfl (R_load rfl (known_L (k := 5) rfl) rfl rfl) ?_)
                  | (refine HD_r rfl rfl rfl (R_load rfl (known_L (k := 6) rfl) rfl rfl) ?_)
                  | (refine HD_r rfl rfl rfl (R_load rfl (known_R (k := 0) rfl) rfl rfl) ?_)
                  | (refine HD_r rfl rfl rfl (R_load rfl (known_R (k := 1) rfl) rfl rfl) ?_)
                  | (refine HD_r rfl rfl rfl (R_load rfl (known_R (k := 2) rfl) rfl rfl) ?_)
                  | (refine HD_r rfl rfl rfl (R_load rfl (known_R (k := 3) rfl) rfl rfl) ?_)
                  | (refine HD_r rfl rfl rfl (R_load rfl (known_R (k := 4) rfl) rfl rfl) ?_)
                all_goals refine HD_r rfl rfl rfl (R_pure rfl rfl rfl) ?_
                all_goals refine HD_r rfl rfl rfl (R_indexA (j := 0) rfl rfl rfl rfl rfl (by first | decide | omega) (by first | (simp only [Nat.zero_add, Nat.reduceAdd, Nat.reduceMul, Nat.zero_mul, Nat.mul_one, Nat.add_zero]; exact rfl) | exact rfl)) ?_
                all_goals refine HD_r rfl rfl rfl (R_loadAt rfl (known_L (k := 1) rfl) rfl (mapU_get (by rw [hsl]; omega))) ?_
                all_goals refine HD_r rfl rfl rfl (R_move rfl) ?_
                all_goals refine HD_r rfl rfl rfl (R_bits64 (op := .xor) (b := ((s.getD 0 0 ^^^ n : Nat) : Int)) rfl rfl rfl (hsk.get _) (hn) rfl) ?_
                all_goals refine HD_r rfl rfl rfl (R_pure rfl rfl rfl) ?_
                all_goals refine HD_r rfl rfl rfl (R_indexA (j := 0) rfl rfl rfl rfl rfl (by first | decide | omega) (by first | (simp only [Nat.zero_add, Nat.reduceAdd, Nat.reduceMul, Nat.zero_mul, Nat.mul_one, Nat.add_zero]; exact rfl) | exact rfl)) ?_
                all_goals refine HD_end ?_
                all_goals refine HL_storeAt (k := 1) (off := 0) (xs := s.map uV) (ys := (iotaA s n).map uV) rfl rfl rfl rfl rfl rfl (by rw [List.length_map, hsl]; omega) (set_mapU rfl) rfl ?_
                all_goals refine HL_nil ?_
                all_goals (
                  refine HQ_mark (k := 0) rfl rfl ?_
                  refine HQ_mark (k := 2) rfl rfl ?_
                  refine HQ_post rfl rfl .nil (fun w1 hs1 => ?_)
                  exact ⟨rfl, _, List.mem_cons_of_mem _ (by rw [hra, ← hs]; exact List.mem_cons_self), hs1⟩
                  skip)
              · exact fun _ _ _ h => h.elim
              skip)
          · exact fun _ _ _ h => h.elim
          skip)
        skip)
      skip)
    skip)
end Go.Proofs.YthfinkklgbiaeaaDoor
