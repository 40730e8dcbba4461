import Derived.Test.YthfinkklgbiaeaaDoorKa
namespace Go.Proofs.YthfinkklgbiaeaaDoor
set_option linter.all false
open Go.SL Go.RowKit Go.Shelf
def kO (a : List Nat) : Obj := .cells (a.map uV).toArray 60 (0, 0)
def cO (c : List Nat) : Obj := .cells (c.map uV).toArray 107 (0, 0)
set_option maxRecDepth 10000 in
theorem M_columns {a : List Nat} (ha : SOk 25 a) (r : Nat) : PureM Tryd.prog 64 [.pointer (some ⟨r, 0, none⟩)].toArray (.tuple #[]) r (kO a) (kO (mixA a)) := by
  refine pureM_of_HC Tryd.func64 rfl rfl fun w => ?_
  have hal := ha.1
  obtain ⟨cc, hcc⟩ : ∃ c, c = cS a 25 := ⟨_, rfl⟩
  have hc : SOk 5 cc := by rw [hcc]; exact cS_ok ha 25
  have hmx : mixA a = mS cc a 25 := by rw [hcc]; rfl
  refine HC_seq fun K1 hK1 => ?_
  refine HC_region ?_
  all_goals refine HL_box (cs := #[_]) rfl rfl rfl rfl fun r1 => ?_
  all_goals refine HL_nil ?_
  all_goals (
    refine HQ_then ?_
    refine hK1 _ _ _ _ ?_; clear hK1 K1
    refine HC_seq fun K2 hK2 => ?_
    refine HC_region ?_
    all_goals refine HL_alloc (cs := ((cS a 0).map uV).toArray) rfl rfl rfl rfl fun r2 => ?_
    all_goals refine HL_nil ?_
    all_goals (
      refine HQ_then ?_
      refine hK2 _ _ _ _ ?_; clear hK2 K2
      refine HC_seq fun K3 hK3 => ?_
      refine HC_seq fun K4 hK4 => ?_
      refine HC_region ?_
      all_goals refine HL_callP rfl rfl rfl (enters_of Tryd.func65 (by kernel_rfl) rfl) P_each ?_
      all_goals refine HL_nil ?_
      all_goals (
        refine HQ_then ?_
        refine hK4 _ _ _ _ ?_; clear hK4 K4
        refine HC_block ?_
        refine HC_range (τ := Unit) (fun i (s : List Nat) => s = cS a i ∧ i ≤ 25) (fun s => [(r2, cO s)]) (fun _ _ => False) (fun _ => []) [(r1, _), (r, kO a)] (cS a 0) rfl rfl (enters_of Tryd.func79 (by kernel_rfl) rfl) I_each (by rintro _ _ _ ⟨_, rfl, _⟩; rfl) rfl (by simp) rfl ⟨rfl, by decide⟩ ?_ ?_ ?_
        · rintro q Xr Xb w3 i _ _ s ⟨hi, rfl, rfl⟩ ⟨hs, -⟩ Kr hKr
          have hsk : SOk 5 s := by rw [hs]; exact cS_ok ha i
          have hsl := hsk.1
          refine HC_seq fun K5 hK5 => ?_
          refine HC_region ?_
          all_goals refine HL_r rfl rfl rfl rfl (R_assign rfl) ?_
          all_goals refine HL_nil ?_
          all_goals (
            refine HQ_then ?_
            refine hK5 _ _ _ _ ?_; clear hK5 K5
            refine HC_region ?_
            all_goals refine HL_alloc (cs := #[_, _]) rfl rfl rfl rfl fun r2 => ?_
            all_goals first
              | (refine HL_storeA (k := 0) (n := 2) (cs' := #[_, _]) (vs := #[_, _]) rfl rfl rfl rfl rfl rfl rfl (by exact Nat.le_of_ble_eq_true rfl) rfl (by first | (simp only [List.set_cons_zero, List.set_cons_succ]; exact rfl) | exact rfl) ?_)
              | (refine HL_storeA (k := 1) (n := 2) (cs' := #[_, _]) (vs := #[_, _]) rfl rfl rfl rfl rfl rfl rfl (by exact Nat.le_of_ble_eq_true rfl) rfl (by first | (simp only [List.set_cons_zero, List.set_cons_succ]; exact rfl) | exact rfl) ?_)
              | (refine HL_storeA (k := 2) (n := 2) (cs' := #[_, _]) (vs := #[_, _]) rfl rfl rfl rfl rfl rfl rfl (by exact Nat.le_of_ble_eq_true rfl) rfl (by first | (simp only [List.set_cons_zero, List.set_cons_succ]; exact rfl) | exact rfl) ?_)
              | (refine HL_storeA (k := 3) (n := 2) (cs' := #[_, _]) (vs := #[_, _]) rfl rfl rfl rfl rfl rfl rfl (by exact Nat.le_of_ble_eq_true rfl) rfl (by first | (simp only [List.set_cons_zero, List.set_cons_succ]; exact rfl) | exact rfl) ?_)
              | (refine HL_storeA (k := 0) (n := 2) (vs := #[_, _]) rfl rfl rfl rfl rfl rfl rfl (by exact Nat.le_of_ble_eq_true rfl) (by first | (simp only [List.take_zero, List.nil_append, Array.toList_toArray, List.drop_succ_cons, List.drop_zero, List.take_succ_cons, List.cons_append, Nat.zero_add, Nat.reduceAdd, List.append_nil, List.drop_nil]; exact rfl) | exact rfl) (by first | (simp only [List.set_cons_zero, List.set_cons_succ]; exact rfl) | exact rfl) ?_)
              | (refine HL_storeA (k := 1) (n := 2) (vs := #[_, _]) rfl rfl rfl rfl rfl rfl rfl (by exact Nat.le_of_ble_eq_true rfl) (by first | (simp only [List.take_zero, List.nil_append, Array.toList_toArray, List.drop_succ_cons, List.drop_zero, List.take_succ_cons, List.cons_append, Nat.zero_add, Nat.reduceAdd, List.append_nil, List.drop_nil]; exact rfl) | exact rfl) (by first | (simp only [List.set_cons_zero, List.set_cons_succ]; exact rfl) | exact rfl) ?_)
              | (refine HL_storeA (k := 2) (n := 2) (vs := #[_, _]) rfl rfl rfl rfl rfl rfl rfl (by exact Nat.le_of_ble_eq_true rfl) (by first | (simp only [List.take_zero, List.nil_append, Array.toList_toArray, List.drop_succ_cons, List.drop_zero, List.take_succ_cons, List.cons_append, Nat.zero_add, Nat.reduceAdd, List.append_nil, List.drop_nil]; exact rfl) | exact rfl) (by first | (simp only [List.set_cons_zero, List.set_cons_succ]; exact rfl) | exact rfl) ?_)
              | (refine HL_storeA (k := 3) (n := 2) (vs := #[_, _]) rfl rfl rfl rfl rfl rfl rfl (by exact Nat.le_of_ble_eq_true rfl) (by first | (simp only [List.take_zero, List.nil_append, Array.toList_toArray, List.drop_succ_cons, List.drop_zero, List.take_succ_cons, List.cons_append, Nat.zero_add, Nat.reduceAdd, List.append_nil, List.drop_nil]; exact rfl) | exact rfl) (by first | (simp only [List.set_cons_zero, List.set_cons_succ]; exact rfl) | exact rfl) ?_)
            all_goals refine HL_nil ?_
            all_goals (
              refine HQ_then ?_
              refine hKr _ _ ?_; clear hKr
              refine HC_block ?_
              refine HC_draw 11 (by kernel_rfl) (by kernel_rfl) ?_
              all_goals refine HD_r rfl rfl rfl (R_indexA (j := 0) rfl rfl rfl rfl rfl (by first | decide | omega) (by first | (simp only [Nat.zero_add, Nat.reduceAdd, Nat.reduceMul, Nat.zero_mul, Nat.mul_one, Nat.add_zero]; exact rfl) | exact rfl)) ?_
              all_goals first
                | (refine HD_r rfl rfl rfl (R_load rfl (known_L (k := 0) rfl) rfl rfl) ?_)
                | (refine HD_r rfl rfl rfl (R_load rfl (known_L (k := 1) rfl) rfl rfl) ?_)
                | (refine HD_r rfl rfl rfl (R_load rfl (known_L (k := 2) rfl) rfl rfl) ?_)
                | (refine HD_r rfl rfl rfl (R_load rfl (known_L (k := 3) rfl) rfl rfl) ?_)
                | (refine HD_r rfl rfl rfl (R_load rfl (known_R (k := 0) rfl) rfl rfl) ?_)
                | (refine HD_r rfl rfl rfl (R_load rfl (known_R (k := 1) rfl) rfl rfl) ?_)
                | (refine HD_r rfl rfl rfl (R_load rfl (known_R (k := 2) rfl) rfl rfl) ?_)
                | (refine HD_r rfl rfl rfl (R_load rfl (known_R (k := 3) rfl) rfl rfl) ?_)
              all_goals refine HD_r rfl rfl rfl (R_indexA (j := i % 5) (m := 1) (off' := i % 5) rfl rfl rfl rfl (by omega) (by omega) (by omega)) ?_
              all_goals refine HD_r rfl rfl rfl (R_loadAt rfl (known_L (k := 1) rfl) rfl (mapU_get (by rw [hsl]; omega))) ?_
              all_goals first
                | (refine HD_r rfl rfl rfl (R_load rfl (known_L (k := 0) rfl) rfl rfl) ?_)
                | (refine HD_r rfl rfl rfl (R_load rfl (known_L (k := 1) rfl) rfl rfl) ?_)
                | (refine HD_r rfl rfl rfl (R_load rfl (known_L (k := 2) rfl) rfl rfl) ?_)
                | (refine HD_r rfl rfl rfl (R_load rfl (known_L (k := 3) rfl) rfl rfl) ?_)
                | (refine HD_r rfl rfl rfl (R_load rfl (known_R (k := 0) rfl) rfl rfl) ?_)
                | (refine HD_r rfl rfl rfl (R_load rfl (known_R (k := 1) rfl) rfl rfl) ?_)
                | (refine HD_r rfl rfl rfl (R_load rfl (known_R (k := 2) rfl) rfl rfl) ?_)
                | (refine HD_r rfl rfl rfl (R_load rfl (known_R (k := 3) rfl) rfl rfl) ?_)
              all_goals refine HD_r rfl rfl rfl (R_move rfl) ?_
              all_goals refine HD_r rfl rfl rfl (R_pure rfl rfl rfl) ?_
              all_goals refine HD_r rfl rfl rfl (R_indexA (j := i) (m := 1) (off' := i) rfl rfl rfl rfl (by omega) (by omega) (by omega)) ?_
              all_goals refine HD_r rfl rfl rfl (R_loadAt rfl (known_R (k := 1) rfl) rfl (mapU_get (by rw [hal]; omega))) ?_
              all_goals refine HD_r rfl rfl rfl (R_bits64 (op := .xor) (b := ((s.getD (i % 5) 0 ^^^ a.getD i 0 : Nat) : Int)) rfl rfl rfl (hsk.get _) (ha.get _) rfl) ?_
              all_goals refine HD_r rfl rfl rfl (R_indexA (j := i % 5) (m := 1) (off' := i % 5) rfl rfl rfl rfl (by omega) (by omega) (by omega)) ?_
              all_goals refine HD_end ?_
              all_goals refine HL_storeAt (k := 1) (off := i % 5) (xs := s.map uV) (ys := (cS a (i + 1)).map uV) rfl rfl rfl rfl rfl rfl (by rw [List.length_map, hsl]; omega) (set_mapU (by rw [hs]; rfl)) rfl ?_
              all_goals refine HL_nil ?_
              all_goals (
                refine HQ_blockN ?_
                refine HQ_sel [1] (L' := [_]) (by decide) rfl ?_
                exact HQ_round (cS a (i + 1)) ⟨rfl, by omega⟩ rfl
                skip)
              skip)
            skip)
        · rintro D i s hfi ⟨hs, -⟩
          have hi25 : i = 25 := hfi
          subst hi25
          rw [← hcc] at hs
          have hs := hs.symm
          subst hs
          refine HQ_blockN ?_
          refine HQ_then ?_
          refine hK3 _ _ _ _ ?_; clear hK3 K3
          refine HC_seq fun K6 hK6 => ?_
          refine HC_region ?_
          all_goals refine HL_callP rfl rfl rfl (enters_of Tryd.func65 (by kernel_rfl) rfl) P_each ?_
          all_goals refine HL_nil ?_
          all_goals (
            refine HQ_then ?_
            refine hK6 _ _ _ _ ?_; clear hK6 K6
            refine HC_block ?_
            refine HC_sel [3, 0, 1, 2] (by decide) rfl ?_
            refine HC_range (τ := Unit) (fun i (s : List Nat) => s = mS cc a i ∧ i ≤ 25) (fun s => [(r, kO s)]) (fun _ _ => False) (fun _ => []) [(D, _), (r2, cO cc), (r1, _)] (a) rfl rfl (enters_of Tryd.func79 (by kernel_rfl) rfl) I_each (by rintro _ _ _ ⟨_, rfl, _⟩; rfl) rfl (by simp) rfl ⟨rfl, by decide⟩ ?_ ?_ ?_
            · rintro q Xr Xb w3 i _ _ s ⟨hi, rfl, rfl⟩ ⟨hs, -⟩ Kr hKr
              have hsk : SOk 25 s := by rw [hs]; exact mS_ok hc ha i
              have hsl := hsk.1
              refine HC_seq fun K7 hK7 => ?_
              refine HC_region ?_
              all_goals refine HL_r rfl rfl rfl rfl (R_assign rfl) ?_
              all_goals refine HL_nil ?_
              all_goals (
                refine HQ_then ?_
                refine hK7 _ _ _ _ ?_; clear hK7 K7
                refine HC_region ?_
                all_goals refine HL_alloc (cs := #[_, _]) rfl rfl rfl rfl fun r3 => ?_
                all_goals first
                  | (refine HL_storeA (k := 0) (n := 2) (cs' := #[_, _]) (vs := #[_, _]) rfl rfl rfl rfl rfl rfl rfl (by exact Nat.le_of_ble_eq_true rfl) rfl (by first | (simp only [List.set_cons_zero, List.set_cons_succ]; exact rfl) | exact rfl) ?_)
                  | (refine HL_storeA (k := 1) (n := 2) (cs' := #[_, _]) (vs := #[_, _]) rfl rfl rfl rfl rfl rfl rfl (by exact Nat.le_of_ble_eq_true rfl) rfl (by first | (simp only [List.set_cons_zero, List.set_cons_succ]; exact rfl) | exact rfl) ?_)
                  | (refine HL_storeA (k := 2) (n := 2) (cs' := #[_, _]) (vs := #[_, _]) rfl rfl rfl rfl rfl rfl rfl (by exact Nat.le_of_ble_eq_true rfl) rfl (by first | (simp only [List.set_cons_zero, List.set_cons_succ]; exact rfl) | exact rfl) ?_)
                  | (refine HL_storeA (k := 3) (n := 2) (cs' := #[_, _]) (vs := #[_, _]) rfl rfl rfl rfl rfl rfl rfl (by exact Nat.le_of_ble_eq_true rfl) rfl (by first | (simp only [List.set_cons_zero, List.set_cons_succ]; exact rfl) | exact rfl) ?_)
                  | (refine HL_storeA (k := 0) (n := 2) (vs := #[_, _]) rfl rfl rfl rfl rfl rfl rfl (by exact Nat.le_of_ble_eq_true rfl) (by first | (simp only [List.take_zero, List.nil_append, Array.toList_toArray, List.drop_succ_cons, List.drop_zero, List.take_succ_cons, List.cons_append, Nat.zero_add, Nat.reduceAdd, List.append_nil, List.drop_nil]; exact rfl) | exact rfl) (by first | (simp only [List.set_cons_zero, List.set_cons_succ]; exact rfl) | exact rfl) ?_)
                  | (refine HL_storeA (k := 1) (n := 2) (vs := #[_, _]) rfl rfl rfl rfl rfl rfl rfl (by exact Nat.le_of_ble_eq_true rfl) (by first | (simp only [List.take_zero, List.nil_append, Array.toList_toArray, List.drop_succ_cons, List.drop_zero, List.take_succ_cons, List.cons_append, Nat.zero_add, Nat.reduceAdd, List.append_nil, List.drop_nil]; exact rfl) | exact rfl) (by first | (simp only [List.set_cons_zero, List.set_cons_succ]; exact rfl) | exact rfl) ?_)
                  | (refine HL_storeA (k := 2) (n := 2) (vs := #[_, _]) rfl rfl rfl rfl rfl rfl rfl (by exact Nat.le_of_ble_eq_true rfl) (by first | (simp only [List.take_zero, List.nil_append, Array.toList_toArray, List.drop_succ_cons, List.drop_zero, List.take_succ_cons, List.cons_append, Nat.zero_add, Nat.reduceAdd, List.append_nil, List.drop_nil]; exact rfl) | exact rfl) (by first | (simp only [List.set_cons_zero, List.set_cons_succ]; exact rfl) | exact rfl) ?_)
                  | (refine HL_storeA (k := 3) (n := 2) (vs := #[_, _]) rfl rfl rfl rfl rfl rfl rfl (by exact Nat.le_of_ble_eq_true rfl) (by first | (simp only [List.take_zero, List.nil_append, Array.toList_toArray, List.drop_succ_cons, List.drop_zero, List.take_succ_cons, List.cons_append, Nat.zero_add, Nat.reduceAdd, List.append_nil, List.drop_nil]; exact rfl) | exact rfl) (by first | (simp only [List.set_cons_zero, List.set_cons_succ]; exact rfl) | exact rfl) ?_)
                all_goals refine HL_nil ?_
                all_goals (
                  refine HQ_then ?_
                  refine hKr _ _ ?_; clear hKr
                  refine HC_block ?_
                  refine HC_seq fun K8 hK8 => ?_
                  refine HC_region ?_
                  all_goals refine HL_r rfl rfl rfl rfl (R_indexA (j := 0) rfl rfl rfl rfl rfl (by first | decide | omega) (by first | (simp only [Nat.zero_add, Nat.reduceAdd, Nat.reduceMul, Nat.zero_mul, Nat.mul_one, Nat.add_zero]; exact rfl) | exact rfl)) ?_
                  all_goals first
                    | (refine HL_r rfl rfl rfl rfl (R_load rfl (known_L (k := 0) rfl) rfl rfl) ?_)
                    | (refine HL_r rfl rfl rfl rfl (R_load rfl (known_L (k := 1) rfl) rfl rfl) ?_)
                    | (refine HL_r rfl rfl rfl rfl (R_load rfl (known_L (k := 2) rfl) rfl rfl) ?_)
                    | (refine HL_r rfl rfl rfl rfl (R_load rfl (known_L (k := 3) rfl) rfl rfl) ?_)
                    | (refine HL_r rfl rfl rfl rfl (R_load rfl (known_R (k := 0) rfl) rfl rfl) ?_)
                    | (refine HL_r rfl rfl rfl rfl (R_load rfl (known_R (k := 1) rfl) rfl rfl) ?_)
                    | (refine HL_r rfl rfl rfl rfl (R_load rfl (known_R (k := 2) rfl) rfl rfl) ?_)
                    | (refine HL_r rfl rfl rfl rfl (R_load rfl (known_R (k := 3) rfl) rfl rfl) ?_)
                  all_goals refine HL_r rfl rfl rfl rfl (R_assign rfl) ?_
                  all_goals refine HL_nil ?_
                  all_goals (
                    refine HQ_then ?_
                    refine hK8 _ _ _ _ ?_; clear hK8 K8
                    refine HC_draw 21 (by kernel_rfl) (by kernel_rfl) ?_
                    all_goals first
                      | (refine HD_r rfl rfl rfl (R_load rfl (known_L (k := 0) rfl) rfl rfl) ?_)
                      | (refine HD_r rfl rfl rfl (R_load rfl (known_L (k := 1) rfl) rfl rfl) ?_)
                      | (refine HD_r rfl rfl rfl (R_load rfl (known_L (k := 2) rfl) rfl rfl) ?_)
                      | (refine HD_r rfl rfl rfl (R_load rfl (known_L (k := 3) rfl) rfl rfl) ?_)
                      | (refine HD_r rfl rfl rfl (R_load rfl (known_R (k := 0) rfl) rfl rfl) ?_)
                      | (refine HD_r rfl rfl rfl (R_load rfl (known_R (k := 1) rfl) rfl rfl) ?_)
                      | (refine HD_r rfl rfl rfl (R_load rfl (known_R (k := 2) rfl) rfl rfl) ?_)
                      | (refine HD_r rfl rfl rfl (R_load rfl (known_R (k := 3) rfl) rfl rfl) ?_)
                    all_goals refine HD_r rfl rfl rfl (R_move rfl) ?_
                    all_goals refine HD_r rfl rfl rfl (R_pure rfl rfl rfl) ?_
                    all_goals refine HD_r rfl rfl rfl (R_indexA (j := i) (m := 1) (off' := i) rfl rfl rfl rfl (by omega) (by omega) (by omega)) ?_
                    all_goals refine HD_r rfl rfl rfl (R_loadAt rfl (known_L (k := 1) rfl) rfl (mapU_get (by rw [hsl]; omega))) ?_
                    all_goals refine HD_r rfl rfl rfl (R_move rfl) ?_
                    all_goals refine HD_r rfl rfl rfl (R_pure rfl rfl rfl) ?_; refine HD_as (show _ = Value.int .i64 ((i % 5 + 5 : Nat) : Int) from congrArg (Value.int .i64) (by rw [wrap_i64 (by omega) (by omega)]; omega)) ?_
                    all_goals refine HD_r rfl rfl rfl (R_pure rfl rfl rfl) ?_; refine HD_as (show _ = Value.int .i64 ((i % 5 + 5 - 1 : Nat) : Int) from congrArg (Value.int .i64) (by rw [wrap_i64 (by omega) (by omega)]; omega)) ?_
                    all_goals refine HD_r rfl rfl rfl (R_pure rfl rfl rfl) ?_; refine HD_as (show _ = Value.int .i64 (((i % 5 + 5 - 1) % 5 : Nat) : Int) from congrArg (Value.int .i64) (by rw [Int.tmod_eq_emod_of_nonneg (by omega)]; omega)) ?_
                    all_goals refine HD_r rfl rfl rfl (R_indexA (j := (i % 5 + 5 - 1) % 5) (m := 1) (off' := (i % 5 + 5 - 1) % 5) rfl rfl rfl rfl (by omega) (by omega) (by omega)) ?_
                    all_goals refine HD_r rfl rfl rfl (R_loadAt rfl (known_R (k := 1) rfl) rfl (mapU_get (by rw [hc.1]; omega))) ?_
                    all_goals refine HD_r rfl rfl rfl (R_move rfl) ?_
                    all_goals refine HD_r rfl rfl rfl (R_pure rfl rfl rfl) ?_; refine HD_as (show _ = Value.int .i64 ((i % 5 + 1 : Nat) : Int) from congrArg (Value.int .i64) (by rw [wrap_i64 (by omega) (by omega)]; omega)) ?_
                    all_goals refine HD_r rfl rfl rfl (R_pure rfl rfl rfl) ?_; refine HD_as (show _ = Value.int .i64 (((i % 5 + 1) % 5 : Nat) : Int) from congrArg (Value.int .i64) (by rw [Int.tmod_eq_emod_of_nonneg (by omega)]; omega)) ?_
                    all_goals refine HD_r rfl rfl rfl (R_indexA (j := (i % 5 + 1) % 5) (m := 1) (off' := (i % 5 + 1) % 5) rfl rfl rfl rfl (by omega) (by omega) (by omega)) ?_
                    all_goals refine HD_r rfl rfl rfl (R_loadAt rfl (known_R (k := 1) rfl) rfl (mapU_get (by rw [hc.1]; omega))) ?_
                    all_goals refine HD_callP rfl rfl rfl (enters_of Tryd.func66 (by kernel_rfl) rfl) (P_rot (k := 1) (hc.get _) (by decide)) ?_
                    all_goals refine HD_r rfl rfl rfl (R_bits64 (op := .xor) (b := ((cc.getD ((i % 5 + 5 - 1) % 5) 0 ^^^ rotN (cc.getD ((i % 5 + 1) % 5) 0) 1 : Nat) : Int)) rfl rfl rfl (hc.get _) (rotN_lt (hc.get _) 1) rfl) ?_
                    all_goals refine HD_r rfl rfl rfl (R_bits64 (op := .xor) (b := ((s.getD i 0 ^^^ (cc.getD ((i % 5 + 5 - 1) % 5) 0 ^^^ rotN (cc.getD ((i % 5 + 1) % 5) 0) 1) : Nat) : Int)) rfl rfl rfl (hsk.get _) (xor_lt64 (hc.get _) (rotN_lt (hc.get _) 1)) rfl) ?_
                    all_goals refine HD_r rfl rfl rfl (R_pure rfl rfl rfl) ?_
                    all_goals refine HD_r rfl rfl rfl (R_indexA (j := i) (m := 1) (off' := i) rfl rfl rfl rfl (by omega) (by omega) (by omega)) ?_
                    all_goals refine HD_end ?_
                    all_goals refine HL_storeAt (k := 1) (off := i) (xs := s.map uV) (ys := (mS cc a (i + 1)).map uV) rfl rfl rfl rfl rfl rfl (by rw [List.length_map, hsl]; omega) (set_mapU (by rw [hs]; rfl)) rfl ?_
                    all_goals refine HL_nil ?_
                    all_goals (
                      refine HQ_blockN ?_
                      refine HQ_sel [1] (L' := [_]) (by decide) rfl ?_
                      exact HQ_round (mS cc a (i + 1)) ⟨rfl, by omega⟩ rfl
                      skip)
                    skip)
                  skip)
                skip)
            · rintro D2 i s hfi ⟨hs, -⟩
              have hi25 : i = 25 := hfi
              subst hi25
              refine HQ_blockN ?_
              refine HQ_mark (k := 0) rfl rfl ?_
              refine HQ_mark (k := 2) rfl rfl ?_
              refine HQ_post rfl rfl .nil (fun w1 hs1 => ?_)
              exact ⟨rfl, _, List.mem_cons_of_mem _ (by rw [hmx, ← hs]; exact List.mem_cons_self), hs1⟩
            · exact fun _ _ _ h => h.elim
            skip)
        · exact fun _ _ _ h => h.elim
        skip)
      skip)
    skip)
end Go.Proofs.YthfinkklgbiaeaaDoor
