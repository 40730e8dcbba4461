import Derived.Test.YtlcbfphioeppaaaGreatDoorPrc
import Derived.Lib.Overlaps
import Derived.Lib.AppendZerosOnto
import Derived.Laws.StructEq
import Derived.Lib.AppendStr
import Derived.Lib.UnsafeStr
import Derived.Lib.Builder
namespace Go.Proofs.YtlcbfphioeppaaaGreatDoor
set_option linter.all false
open Go.SL Go.RowKit Go.Shelf
set_option maxRecDepth 10000 in
theorem P_ref3_turn {a : List Nat} (ha : SOk 25 a) : Pure Tryz.prog 208 [.agg (a.map uV).toArray].toArray (.agg ((tS a 24).map uV).toArray) := by
  refine pure_of_HC Tryz.func208 rfl rfl fun w => ?_
  have hal := ha.1
  have htk := fun i => tS_ok ha i
  refine HC_seq fun K1 hK1 => HC_region ?_; refine HL_box (cs := (a.map uV).toArray) rfl rfl rfl rfl fun r1 => ?_; refine HL_alloc (cs := (z25.map uV).toArray) rfl rfl rfl rfl fun r2 => ?_; refine HL_nil (hK1 _ _ _ _ ?_); refine HC_seq fun K2 hK2 => HC_region ?_; refine HLm rfl ?_; refine HL_nil (hK2 _ _ _ _ ?_); refine HC_seq fun K3 hK3 => HC_region ?_; refine HLm rfl ?_; refine HL_nil (hK3 _ _ _ _ ?_); refine HC_seq fun K4 hK4 => ?_; refine HC_seq fun K5 hK5 => HC_region ?_; refine HLm rfl ?_; refine HL_nil (hK5 _ _ _ _ ?_); refine HC_block (HC_loop (σ := Nat) (fun i => i ≤ 24) (fun i => [(1, .pointer (some ⟨r1, 0, none⟩)), (2, .pointer (some ⟨r2, 0, none⟩)), (3, .int .i64 (tX i : Int)), (4, .int .i64 (tY i : Int)), (5, .int .i64 (i : Int))]) (fun i => [(r2, lO z25), (r1, lO (tS a i))]) (fun _ _ _ => True) (fun i => 24 - i) 0 (Nat.zero_le _) (.cons rfl (.cons rfl (.cons rfl (.cons rfl (.cons rfl .nil))))) (List.Sublist.refl _) (fun _ _ h => h) ?_); intro i hi; refine HC_seq fun K6 hK6 => ?_; refine HC_seq fun K7 hK7 => HC_region ?_; refine HLm rfl (HLp rfl ?_); refine HL_nil (hK7 _ _ _ _ ?_); refine HC_cond rfl (fun h8 => ?_) (fun h8 => ?_)
  · try exact Bool.noConfusion h8
    try simp only [ZZ] at h8
    refine HC_skip (hK6 _ _ _ _ ?_); refine HC_seq fun K9 hK9 => HC_block ?_; refine HC_seq fun K10 hK10 => ?_
    have hxy := tXY_lt i
    obtain ⟨m, hm⟩ : ∃ m, m = (i + 1) * (i + 2) := ⟨_, rfl⟩
    have hmi : ((i + 1 : Nat) : Int) * ((i + 2 : Nat) : Int) = (m : Int) := by rw [hm, Int.natCast_mul]
    have hmb : m ≤ 25 * 26 := by rw [hm]; exact Nat.mul_le_mul (by omega) (by omega)
    refine HC_region (HLm rfl ?_); refine HLm rfl (HLp rfl ?_); refine HL_as (show _ = Value.int .i64 ((5 * tY i : Nat) : Int) from congrArg (Value.int .i64) (by rw [wrap_i64 (by omega) (by omega)]; omega)) ?_; refine HLp rfl ?_; refine HL_as (show _ = Value.int .i64 ((tX i + 5 * tY i : Nat) : Int) from congrArg (Value.int .i64) (by rw [wrap_i64 (by omega) (by omega)]; omega)) ?_; refine HLm rfl (HLm rfl (HLp rfl ?_)); refine HL_as (show _ = Value.int .i64 ((5 * tY i : Nat) : Int) from congrArg (Value.int .i64) (by rw [wrap_i64 (by omega) (by omega)]; omega)) ?_; refine HLp rfl ?_; refine HL_as (show _ = Value.int .i64 ((tX i + 5 * tY i : Nat) : Int) from congrArg (Value.int .i64) (by rw [wrap_i64 (by omega) (by omega)]; omega)) ?_; refine HL_r rfl rfl rfl rfl (R_indexA (j := (tX i + 5 * tY i)) (m := 1) (off' := (tX i + 5 * tY i)) rfl rfl rfl rfl (by omega) (by omega) (by omega)) ?_; refine HL_r rfl rfl rfl rfl (R_loadAt rfl (known_L (k := 1) rfl) rfl (mapU_get (by rw [(htk i).1]; omega))) ?_; refine HLm rfl (HLp rfl ?_); refine HL_as (show _ = Value.int .i64 ((i + 1 : Nat) : Int) from congrArg (Value.int .i64) (by rw [wrap_i64 (by omega) (by omega)]; omega)) ?_; refine HLm rfl (HLp rfl ?_); refine HL_as (show _ = Value.int .i64 ((i + 2 : Nat) : Int) from congrArg (Value.int .i64) (by rw [wrap_i64 (by omega) (by omega)]; omega)) ?_; refine HLp rfl (HL_as (show _ = Value.int .i64 ((m : Nat) : Int) from congrArg (Value.int .i64) (by rw [hmi, wrap_i64 (by omega) (by omega)])) (HLp rfl ?_)); refine HL_as (show _ = Value.int .i64 ((m / 2 : Nat) : Int) from congrArg (Value.int .i64) (by rw [quo_i64 (by omega) (by omega) (by omega)]; omega)) ?_; refine HL_callP rfl rfl rfl (enters_of Tryz.func224 (by kernel_rfl) rfl) (P_ref3_rot (k := m / 2) ((htk i).get _) (by omega)) ?_; refine HL_r rfl rfl rfl rfl (R_indexA (j := (tX i + 5 * tY i)) (m := 1) (off' := (tX i + 5 * tY i)) rfl rfl rfl rfl (by omega) (by omega) (by omega)) ?_; refine HL_storeAt (k := 1) (off := tX i + 5 * tY i) (xs := (tS a i).map uV) (ys := (tS a (i + 1)).map uV) rfl rfl rfl rfl rfl rfl (by rw [List.length_map, (htk i).1]; omega) (set_mapU (by rw [hm]; rfl)) rfl ?_; refine HL_nil (hK10 _ _ _ _ ?_); refine HC_seq fun K11 hK11 => HC_region ?_; refine HLm rfl (HLp rfl ?_); refine HL_as (show _ = Value.int .i64 ((2 * tX i : Nat) : Int) from congrArg (Value.int .i64) (by rw [wrap_i64 (by omega) (by omega)]; omega)) ?_; refine HLm rfl (HLp rfl ?_); refine HL_as (show _ = Value.int .i64 ((3 * tY i : Nat) : Int) from congrArg (Value.int .i64) (by rw [wrap_i64 (by omega) (by omega)]; omega)) ?_; refine HLp rfl ?_; refine HL_as (show _ = Value.int .i64 ((2 * tX i + 3 * tY i : Nat) : Int) from congrArg (Value.int .i64) (by rw [wrap_i64 (by omega) (by omega)]; omega)) ?_; refine HLp rfl ?_; refine HL_as (show _ = Value.int .i64 (((2 * tX i + 3 * tY i) % 5 : Nat) : Int) from congrArg (Value.int .i64) (by rw [Int.tmod_eq_emod_of_nonneg (by omega)]; omega)) ?_; refine HLm rfl ?_; refine HL_nil (hK11 _ _ _ _ ?_); refine HC_seq fun K12 hK12 => HC_region ?_; refine HLm rfl (HLm rfl ?_); refine HL_nil (hK12 _ _ _ _ ?_); refine HC_region (HLm rfl ?_); refine HLm rfl (HL_nil ?_); refine HQ_blockN (hK9 _ _ _ _ ?_); refine HC_region (HLm rfl ?_); refine HLp rfl (HL_wrap_i64 (by omega) (by omega) ?_); refine HLm rfl (HL_nil (HQ_then ?_)); exact HQ_again (i + 1) (by omega) (by omega) (.cons rfl (.cons rfl (.cons rfl (.cons rfl (.cons rfl .nil))))) (List.Sublist.refl _) (fun _ _ h => h)
  · try exact Bool.noConfusion h8
    try simp only [ZZ] at h8
    refine HC_exit (HQ_thenE ?_); refine HQ_thenE (HQ_blockE (hK4 _ _ _ _ ?_)); refine HC_seq fun K13 hK13 => ?_
    have hi24 : 24 = i := by omega
    subst hi24; refine HC_region (HL_r rfl rfl rfl rfl (R_loadArr (xs := (tS a 24).map uV) (n := 25) rfl (known_L (k := 1) rfl) rfl rfl (by rw [List.length_map, (htk 24).1])) (HL_storeArr (k := 0) (n := 25) (ys := (tS a 24).map uV) rfl rfl rfl rfl rfl (by rw [List.length_map, (htk 24).1]) rfl (mapU_one _) rfl ?_)); refine HL_nil (hK13 _ _ _ _ ?_); refine HC_ret ?_; refine HQ_post rfl rfl (.cons (res_cellA (vs := (tS a 24).map uV) rfl (known_L (k := 0) rfl) rfl (by rw [List.length_map, (htk 24).1]; rfl)) .nil) (fun w1 hs1 => ?_); exact ⟨rfl, hs1.keep⟩
set_option maxRecDepth 10000 in
theorem P_ref3_move {a : List Nat} (ha : SOk 25 a) : Pure Tryz.prog 207 [.agg (a.map uV).toArray].toArray (.agg ((bS a 25).map uV).toArray) := by
  refine pure_of_HC Tryz.func207 rfl rfl fun w => ?_
  have hal := ha.1
  have hbk := fun i => bS_ok ha i
  refine HC_seq fun K1 hK1 => HC_region ?_; refine HL_box (cs := (a.map uV).toArray) rfl rfl rfl rfl fun r1 => ?_; refine HL_alloc (cs := (z25.map uV).toArray) rfl rfl rfl rfl fun r2 => ?_; refine HL_nil (hK1 _ _ _ _ ?_); refine HC_seq fun K2 hK2 => HC_region ?_; refine HL_alloc (cs := (z25.map uV).toArray) rfl rfl rfl rfl fun r3 => ?_; refine HL_nil (hK2 _ _ _ _ ?_); refine HC_seq fun K3 hK3 => ?_; refine HC_seq fun K4 hK4 => HC_region ?_; refine HLm rfl ?_; refine HL_nil (hK4 _ _ _ _ ?_); refine HC_block (HC_loop (σ := Nat) (fun i => i ≤ 25) (fun i => [(1, .pointer (some ⟨r1, 0, none⟩)), (2, .pointer (some ⟨r2, 0, none⟩)), (3, .pointer (some ⟨r3, 0, none⟩)), (4, .int .i64 (i : Int))]) (fun i => [(r3, lO (bS a i)), (r2, lO z25), (r1, lO a)]) (fun _ _ _ => True) (fun i => 25 - i) 0 (Nat.zero_le _) (.cons rfl (.cons rfl (.cons rfl (.cons rfl .nil)))) (List.Sublist.refl _) (fun _ _ h => h) ?_); intro i hi; refine HC_seq fun K5 hK5 => ?_; refine HC_seq fun K6 hK6 => HC_region ?_; refine HLm rfl (HLp rfl ?_); refine HL_nil (hK6 _ _ _ _ ?_); refine HC_cond rfl (fun h7 => ?_) (fun h7 => ?_)
  · try exact Bool.noConfusion h7
    try simp only [ZZ] at h7
    refine HC_skip (hK5 _ _ _ _ ?_); refine HC_seq fun K8 hK8 => HC_block ?_; refine HC_seq fun K9 hK9 => HC_region ?_; refine HLm rfl (HLp rfl ?_); refine HL_as (show _ = Value.int .i64 ((i % 5 : Nat) : Int) from congrArg (Value.int .i64) (by rw [Int.tmod_eq_emod_of_nonneg (by omega)]; omega)) ?_; refine HLm rfl ?_; refine HL_nil (hK9 _ _ _ _ ?_); refine HC_seq fun K10 hK10 => HC_region ?_; refine HLm rfl (HLp rfl ?_); refine HL_as (show _ = Value.int .i64 ((i / 5 : Nat) : Int) from congrArg (Value.int .i64) (by rw [quo_i64 (by omega) (by omega) (by omega)]; omega)) ?_; refine HLm rfl ?_; refine HL_nil (hK10 _ _ _ _ ?_); refine HC_region (HLm rfl ?_); refine HLm rfl (HLp rfl ?_); refine HL_as (show _ = Value.int .i64 ((2 * (i % 5) : Nat) : Int) from congrArg (Value.int .i64) (by rw [wrap_i64 (by omega) (by omega)]; omega)) ?_; refine HLm rfl (HLp rfl ?_); refine HL_as (show _ = Value.int .i64 ((3 * (i / 5) : Nat) : Int) from congrArg (Value.int .i64) (by rw [wrap_i64 (by omega) (by omega)]; omega)) ?_; refine HLp rfl ?_; refine HL_as (show _ = Value.int .i64 ((2 * (i % 5) + 3 * (i / 5) : Nat) : Int) from congrArg (Value.int .i64) (by rw [wrap_i64 (by omega) (by omega)]; omega)) ?_; refine HLp rfl ?_; refine HL_as (show _ = Value.int .i64 (((2 * (i % 5) + 3 * (i / 5)) % 5 : Nat) : Int) from congrArg (Value.int .i64) (by rw [Int.tmod_eq_emod_of_nonneg (by omega)]; omega)) ?_; refine HLp rfl ?_; refine HL_as (show _ = Value.int .i64 ((5 * ((2 * (i % 5) + 3 * (i / 5)) % 5) : Nat) : Int) from congrArg (Value.int .i64) (by rw [wrap_i64 (by omega) (by omega)]; omega)) ?_; refine HLp rfl ?_; refine HL_as (show _ = Value.int .i64 ((i / 5 + 5 * ((2 * (i % 5) + 3 * (i / 5)) % 5) : Nat) : Int) from congrArg (Value.int .i64) (by rw [wrap_i64 (by omega) (by omega)]; omega)) ?_; refine HLm rfl (HL_r rfl rfl rfl rfl (R_indexA (j := i) (m := 1) (off' := i) rfl rfl rfl rfl (by omega) (by omega) (by omega)) ?_); refine HL_r rfl rfl rfl rfl (R_loadAt rfl (known_L (k := 2) rfl) rfl (mapU_get (by rw [hal]; omega))) ?_; refine HL_r rfl rfl rfl rfl (R_indexA (j := (i / 5 + 5 * ((2 * (i % 5) + 3 * (i / 5)) % 5))) (m := 1) (off' := (i / 5 + 5 * ((2 * (i % 5) + 3 * (i / 5)) % 5))) rfl rfl rfl rfl (by omega) (by omega) (by omega)) ?_; refine HL_storeAt (k := 0) (off := i / 5 + 5 * ((2 * (i % 5) + 3 * (i / 5)) % 5)) (xs := (bS a i).map uV) (ys := (bS a (i + 1)).map uV) rfl rfl rfl rfl rfl rfl (by rw [List.length_map, (hbk i).1]; omega) (set_mapU rfl) rfl ?_; refine HL_nil ?_; refine HQ_blockN (hK8 _ _ _ _ ?_); refine HC_region (HLm rfl ?_); refine HLp rfl (HL_wrap_i64 (by omega) (by omega) ?_); refine HLm rfl (HL_nil (HQ_then ?_)); exact HQ_again (i + 1) (by omega) (by omega) (.cons rfl (.cons rfl (.cons rfl (.cons rfl .nil)))) (List.Sublist.refl _) (fun _ _ h => h)
  · try exact Bool.noConfusion h7
    try simp only [ZZ] at h7
    refine HC_exit (HQ_thenE ?_); refine HQ_thenE (HQ_blockE (hK3 _ _ _ _ ?_)); refine HC_seq fun K11 hK11 => ?_
    have hi25 : 25 = i := by omega
    subst hi25; refine HC_region (HL_r rfl rfl rfl rfl (R_loadArr (xs := (bS a 25).map uV) (n := 25) rfl (known_L (k := 0) rfl) rfl rfl (by rw [List.length_map, (hbk 25).1])) (HL_storeArr (k := 1) (n := 25) (ys := (bS a 25).map uV) rfl rfl rfl rfl rfl (by rw [List.length_map, (hbk 25).1]) rfl (mapU_one _) rfl ?_)); refine HL_nil (hK11 _ _ _ _ ?_); refine HC_ret ?_; refine HQ_post rfl rfl (.cons (res_cellA (vs := (bS a 25).map uV) rfl (known_L (k := 1) rfl) rfl (by rw [List.length_map, (hbk 25).1]; rfl)) .nil) (fun w1 hs1 => ?_); exact ⟨rfl, hs1.keep⟩
theorem P_ref3_move' {m : List Nat} (hm : SOk 25 m) : Pure Tryz.prog 207 [.agg ((tS m 24).map uV).toArray].toArray (.agg ((rS m turnsL 25).map uV).toArray) := by
  rw [← turn_move hm]; exact P_ref3_move (tS_ok hm 24)
set_option maxRecDepth 10000 in
theorem P_ref3_Permute {a : List Nat} (ha : SOk 25 a) : Pure Tryz.prog 177 [.agg (a.map uV).toArray].toArray (.agg ((permA a).map uV).toArray) := by
  refine pure_of_HC Tryz.func177 rfl rfl fun w => ?_
  have hal := ha.1
  have hpk := fun i => permS_ok ha i
  refine HC_seq fun K1 hK1 => HC_region ?_; refine HL_box (cs := (a.map uV).toArray) rfl rfl rfl rfl fun r1 => ?_; refine HL_alloc (cs := (z25.map uV).toArray) rfl rfl rfl rfl fun r2 => ?_; refine HL_nil (hK1 _ _ _ _ ?_); refine HC_seq fun K2 hK2 => ?_; refine HC_seq fun K3 hK3 => HC_region ?_; refine HLm rfl ?_; refine HL_nil (hK3 _ _ _ _ ?_); refine HC_block (HC_loop (σ := Nat) (fun i => i ≤ 24) (fun i => [(1, .pointer (some ⟨r1, 0, none⟩)), (2, .pointer (some ⟨r2, 0, none⟩)), (3, .int .i64 (i : Int))]) (fun i => [(r2, lO z25), (r1, lO (permS a i))]) (fun _ _ _ => True) (fun i => 24 - i) 0 (Nat.zero_le _) (.cons rfl (.cons rfl (.cons rfl .nil))) (List.Sublist.refl _) (fun _ _ h => h) ?_); intro i hi; refine HC_seq fun K4 hK4 => ?_; refine HC_seq fun K5 hK5 => HC_region ?_; refine HLm rfl (HLp rfl ?_); refine HL_nil (hK5 _ _ _ _ ?_); refine HC_cond rfl (fun h6 => ?_) (fun h6 => ?_)
  · try exact Bool.noConfusion h6
    try simp only [ZZ] at h6
    refine HC_skip (hK4 _ _ _ _ ?_); refine HC_seq fun K7 hK7 => HC_block ?_; refine HC_seq fun K8 hK8 => ?_
    obtain ⟨A, hA⟩ : ∃ A, A = permS a i := ⟨_, rfl⟩
    have hAk : SOk 25 A := by rw [hA]; exact hpk i
    obtain ⟨B, hB⟩ : ∃ B, B = rS (mixA A) turnsL 25 := ⟨_, rfl⟩
    have hBk : SOk 25 B := by rw [hB]; exact rS_ok _ (mixA_ok hAk) 25
    have hxk := xS_ok hBk hAk 25
    have hstep : (xS B A 25).set 0 ((xS B A 25).getD 0 0 ^^^ numsL.getD i 0) = permS a (i + 1) := by rw [xS_base B hAk.1 (mixA_ok hAk).1, hB, hA]; rfl
    refine HC_region (HL_r rfl rfl rfl rfl (R_loadArr (xs := (permS a i).map uV) (n := 25) rfl (known_L (k := 1) rfl) rfl rfl (by rw [List.length_map, (hpk i).1])) ?_); rw [← hA]; refine HL_callP rfl rfl rfl (enters_of Tryz.func209 (by kernel_rfl) rfl) (P_ref3_mix hAk) ?_; refine HL_callP rfl rfl rfl (enters_of Tryz.func208 (by kernel_rfl) rfl) (P_ref3_turn (mixA_ok hAk)) ?_; refine HL_callP rfl rfl rfl (enters_of Tryz.func207 (by kernel_rfl) rfl) (P_ref3_move' (mixA_ok hAk)) ?_; rw [← hB]; refine HL_alloc (cs := (z25.map uV).toArray) rfl rfl rfl rfl fun r3 => ?_; refine HL_storeArr (k := 0) (n := 25) (ys := (B).map uV) rfl rfl rfl rfl rfl (by rw [List.length_map, hBk.1]) rfl (mapU_one _) rfl ?_; refine HL_nil (hK8 _ _ _ _ ?_); refine HC_seq fun K9 hK9 => ?_; refine HC_seq fun K10 hK10 => HC_region ?_; refine HLm rfl ?_; refine HL_nil (hK10 _ _ _ _ ?_); refine HC_block ?_; refine HC_loop (σ := Nat) (fun j => j ≤ 25) (fun j => [(1, .pointer (some ⟨r1, 0, none⟩)), (2, .pointer (some ⟨r2, 0, none⟩)), (3, .int .i64 (i : Int)), (4, .pointer (some ⟨r3, 0, none⟩)), (5, .int .i64 (j : Int))]) (fun j => [(r3, lO B), (r2, lO z25), (r1, lO (xS B A j))]) (fun _ _ _ => True) (fun j => 25 - j) 0 (Nat.zero_le _) (.cons rfl (.cons rfl (.cons rfl (.cons rfl (.cons rfl .nil))))) (by rw [hA]; exact List.Sublist.refl _) (fun _ _ h => h) ?_; intro j hj; refine HC_seq fun K11 hK11 => ?_; refine HC_seq fun K12 hK12 => HC_region ?_; refine HLm rfl (HLp rfl ?_); refine HL_nil (hK12 _ _ _ _ ?_); refine HC_cond rfl (fun h13 => ?_) (fun h13 => ?_)
    · try exact Bool.noConfusion h13
      try simp only [ZZ] at h13
      refine HC_skip (hK11 _ _ _ _ ?_); refine HC_seq fun K14 hK14 => HC_block ?_; refine HC_seq fun K15 hK15 => HC_region ?_; refine HLm rfl (HLp rfl ?_); refine HL_as (show _ = Value.int .i64 ((j % 5 : Nat) : Int) from congrArg (Value.int .i64) (by rw [Int.tmod_eq_emod_of_nonneg (by omega)]; omega)) ?_; refine HLm rfl ?_; refine HL_nil (hK15 _ _ _ _ ?_); refine HC_seq fun K16 hK16 => HC_region ?_; refine HLm rfl (HLm rfl (HLp rfl ?_)); refine HL_as (show _ = Value.int .i64 ((j - j % 5 : Nat) : Int) from congrArg (Value.int .i64) (by rw [wrap_i64 (by omega) (by omega)]; omega)) ?_; refine HLm rfl ?_; refine HL_nil (hK16 _ _ _ _ ?_); refine HC_draw 22 (by kernel_rfl) (by kernel_rfl) ?_; refine HD_r rfl rfl rfl (R_move rfl) ?_; refine HD_r rfl rfl rfl (R_move rfl) ?_; refine HD_r rfl rfl rfl (R_indexA (j := j) (m := 1) (off' := j) rfl rfl rfl rfl (by omega) (by omega) (by omega)) ?_; refine HD_r rfl rfl rfl (R_loadAt rfl (known_L (k := 0) rfl) rfl (mapU_get (by rw [hBk.1]; omega))) ?_; refine HD_r rfl rfl rfl (R_move rfl) ?_; refine HD_r rfl rfl rfl (R_move rfl) ?_; refine HD_r rfl rfl rfl (R_pure rfl rfl rfl) ?_; refine HD_as (show _ = Value.int .i64 ((j % 5 + 1 : Nat) : Int) from congrArg (Value.int .i64) (by rw [wrap_i64 (by omega) (by omega)]; omega)) ?_; refine HD_r rfl rfl rfl (R_pure rfl rfl rfl) ?_; refine HD_as (show _ = Value.int .i64 (((j % 5 + 1) % 5 : Nat) : Int) from congrArg (Value.int .i64) (by rw [Int.tmod_eq_emod_of_nonneg (by omega)]; omega)) ?_; refine HD_r rfl rfl rfl (R_pure rfl rfl rfl) ?_; refine HD_as (show _ = Value.int .i64 ((j - j % 5 + (j % 5 + 1) % 5 : Nat) : Int) from congrArg (Value.int .i64) (by rw [wrap_i64 (by omega) (by omega)]; omega)) ?_; refine HD_r rfl rfl rfl (R_indexA (j := (j - j % 5 + (j % 5 + 1) % 5)) (m := 1) (off' := (j - j % 5 + (j % 5 + 1) % 5)) rfl rfl rfl rfl (by omega) (by omega) (by omega)) ?_; refine HD_r rfl rfl rfl (R_loadAt rfl (known_L (k := 0) rfl) rfl (mapU_get (by rw [hBk.1]; omega))) ?_; refine HD_r rfl rfl rfl (R_bits64 (op := .xor) (n := 18446744073709551615) (b := ((18446744073709551615 ^^^ B.getD (j - j % 5 + (j % 5 + 1) % 5) 0 : Nat) : Int)) rfl rfl rfl (hBk.get _) (by decide) (congrArg (fun z : Nat => (z : Int)) (Nat.xor_comm _ _))) ?_; refine HD_r rfl rfl rfl (R_move rfl) ?_; refine HD_r rfl rfl rfl (R_move rfl) ?_; refine HD_r rfl rfl rfl (R_pure rfl rfl rfl) ?_; refine HD_as (show _ = Value.int .i64 ((j % 5 + 2 : Nat) : Int) from congrArg (Value.int .i64) (by rw [wrap_i64 (by omega) (by omega)]; omega)) ?_; refine HD_r rfl rfl rfl (R_pure rfl rfl rfl) ?_; refine HD_as (show _ = Value.int .i64 (((j % 5 + 2) % 5 : Nat) : Int) from congrArg (Value.int .i64) (by rw [Int.tmod_eq_emod_of_nonneg (by omega)]; omega)) ?_; refine HD_r rfl rfl rfl (R_pure rfl rfl rfl) ?_; refine HD_as (show _ = Value.int .i64 ((j - j % 5 + (j % 5 + 2) % 5 : Nat) : Int) from congrArg (Value.int .i64) (by rw [wrap_i64 (by omega) (by omega)]; omega)) ?_; refine HD_r rfl rfl rfl (R_indexA (j := (j - j % 5 + (j % 5 + 2) % 5)) (m := 1) (off' := (j - j % 5 + (j % 5 + 2) % 5)) rfl rfl rfl rfl (by omega) (by omega) (by omega)) ?_; refine HD_r rfl rfl rfl (R_loadAt rfl (known_L (k := 0) rfl) rfl (mapU_get (by rw [hBk.1]; omega))) ?_; refine HD_r rfl rfl rfl (R_bits64 (op := .and) (b := (((18446744073709551615 ^^^ B.getD (j - j % 5 + (j % 5 + 1) % 5) 0) &&& B.getD (j - j % 5 + (j % 5 + 2) % 5) 0 : Nat) : Int)) rfl rfl rfl (xor_lt64 (by decide) (hBk.get _)) (hBk.get _) rfl) ?_; refine HD_r rfl rfl rfl (R_bits64 (op := .xor) (b := ((chiN B j : Nat) : Int)) rfl rfl rfl (hBk.get _) (and_lt64 (hBk.get _)) rfl) ?_; refine HD_r rfl rfl rfl (R_indexA (j := j) (m := 1) (off' := j) rfl rfl rfl rfl (by omega) (by omega) (by omega)) ?_; refine HD_end ?_; refine HL_storeAt (k := 2) (off := j) (xs := (xS B A j).map uV) (ys := (xS B A (j + 1)).map uV) rfl rfl rfl rfl rfl rfl (by rw [List.length_map, (xS_ok hBk hAk j).1]; omega) (set_mapU rfl) rfl ?_; refine HL_nil ?_; refine HQ_blockN (hK14 _ _ _ _ ?_); refine HC_region (HLm rfl ?_); refine HLp rfl (HL_wrap_i64 (by omega) (by omega) ?_); refine HLm rfl (HL_nil (HQ_then ?_)); exact HQ_again (j + 1) (by omega) (by omega) (.cons rfl (.cons rfl (.cons rfl (.cons rfl (.cons rfl .nil))))) (List.Sublist.refl _) (fun _ _ h => h)
    · try exact Bool.noConfusion h13
      try simp only [ZZ] at h13
      refine HC_exit (HQ_thenE ?_); refine HQ_thenE (HQ_blockE (hK9 _ _ _ _ ?_))
      have hj25 : 25 = j := by omega
      subst hj25; refine HC_draw 6 (by kernel_rfl) (by kernel_rfl) ?_
      refine HD_r rfl rfl rfl (R_indexA (j := 0) rfl rfl rfl rfl rfl (by first | decide | omega) (by first | (simp only [Nat.zero_add, Nat.reduceAdd, Nat.reduceMul, Nat.zero_mul, Nat.mul_one, Nat.add_zero]; exact rfl) | exact rfl)) ?_; refine HD_r rfl rfl rfl (R_loadAt rfl (known_L (k := 2) rfl) rfl (mapU_get (by rw [hxk.1]; omega))) ?_; refine HD_r rfl rfl rfl (R_move rfl) ?_; refine HD_callP rfl rfl rfl (enters_of Tryz.func210 (by kernel_rfl) rfl) (P_ref3_number (n := i) (by omega)) ?_; refine HD_r rfl rfl rfl (R_bits64 (op := .xor) (b := (((xS B A 25).getD 0 0 ^^^ numsL.getD i 0 : Nat) : Int)) rfl rfl rfl (hxk.get _) (numsL_ok.get _) rfl) ?_
      refine HD_r rfl rfl rfl (R_indexA (j := 0) rfl rfl rfl rfl rfl (by first | decide | omega) (by first | (simp only [Nat.zero_add, Nat.reduceAdd, Nat.reduceMul, Nat.zero_mul, Nat.mul_one, Nat.add_zero]; exact rfl) | exact rfl)) ?_; refine HD_end ?_; refine HL_storeAt (k := 2) (off := 0) (xs := (xS B A 25).map uV) (ys := (permS a (i + 1)).map uV) rfl rfl rfl rfl rfl rfl (by rw [List.length_map, hxk.1]; omega) (set_mapU hstep) rfl ?_; refine HL_nil ?_; refine HQ_blockN (hK7 _ _ _ _ ?_); refine HC_region (HLm rfl ?_); refine HLp rfl (HL_wrap_i64 (by omega) (by omega) ?_); refine HLm rfl (HL_nil (HQ_then ?_)); refine HQ_sel [1, 2] (L' := [_, _]) (by decide) rfl ?_; exact HQ_again (i + 1) (by omega) (by omega) (.cons rfl (.cons rfl (.cons rfl .nil))) (List.Sublist.refl _) (fun _ _ h => h)
  · try exact Bool.noConfusion h6
    try simp only [ZZ] at h6
    refine HC_exit (HQ_thenE ?_); refine HQ_thenE (HQ_blockE (hK2 _ _ _ _ ?_)); refine HC_seq fun K17 hK17 => ?_
    have hi24 : 24 = i := by omega
    subst hi24; refine HC_region (HL_r rfl rfl rfl rfl (R_loadArr (xs := (permS a 24).map uV) (n := 25) rfl (known_L (k := 1) rfl) rfl rfl (by rw [List.length_map, (hpk 24).1])) (HL_storeArr (k := 0) (n := 25) (ys := (permS a 24).map uV) rfl rfl rfl rfl rfl (by rw [List.length_map, (hpk 24).1]) rfl (mapU_one _) rfl ?_)); refine HL_nil (hK17 _ _ _ _ ?_); refine HC_ret ?_; refine HQ_post rfl rfl (.cons (res_cellA (vs := (permS a 24).map uV) rfl (known_L (k := 0) rfl) rfl (by rw [List.length_map, (hpk 24).1]; rfl)) .nil) (fun w1 hs1 => ?_); exact ⟨rfl, hs1.keep⟩
end Go.Proofs.YtlcbfphioeppaaaGreatDoor
namespace Go.Proofs.YtlcbfphioeppaaaGreatDoor
set_option linter.all false
open Go.SL Go.RowKit Go.Shelf
theorem pad_snoc (k : Nat) : (1 :: List.replicate (k + 1) 0 : List UInt8).map bV = (1 :: List.replicate k 0 : List UInt8).map bV ++ [.int .u8 0] := by
  rw [List.replicate_succ']; simp [bV]
theorem app_get {l : List UInt8} {sp : List Value} {j : Nat} (h : j < l.length) : (l.map bV ++ sp)[j]? = some (.int .u8 ((l.getD j 0).toNat : Nat)) := by
  rw [List.getElem?_append_left (by rw [List.length_map]; exact h), mapB_get h]
theorem app_set {l m : List UInt8} {sp : List Value} {j : Nat} {x : UInt8} (h : j < l.length) (hm : l.set j x = m) : (l.map bV ++ sp).set j (bV x) = m.map bV ++ sp := by
  rw [List.set_append_left _ _ (by rw [List.length_map]; exact h), ← hm, List.map_set]
set_option maxRecDepth 10000 in
theorem P_ref3_Pad {n : Nat} (hn : n ≤ 1099511627776) : Pure Tryz.prog 176 [.int .i64 (n : Int)].toArray (.tuple #[.string (bs (padL n)), .int .i64 0]) := by
  refine pure_of_HC Tryz.func176 rfl rfl fun w => ?_
  obtain ⟨K, hK⟩ : ∃ k, k = 135 - n % 136 := ⟨_, rfl⟩
  have hn1 : n % 136 < 136 := Nat.mod_lt _ (by decide)
  obtain ⟨x, hx⟩ : ∃ x : UInt8, x = (1 :: List.replicate K 0 : List UInt8).getD K 0 := ⟨_, rfl⟩
  have hxl : x.toNat ≤ 1 := by
    rw [hx]
    cases K with
    | zero => decide
    | succ k => rw [show (1 :: List.replicate (k + 1) 0 : List UInt8).getD (k + 1) 0 = 0 from by simp [List.getD_eq_getElem?_getD]]; decide
  have hpl : (1 :: List.replicate K 0 : List UInt8).set K (UInt8.ofNat (x.toNat + 128)) = padL n := by
    unfold padL
    cases K with
    | zero => rw [if_pos (by omega), hx]; rfl
    | succ k =>
      rw [if_neg (by omega), hx]
      have e1 : (1 :: List.replicate (k + 1) 0 : List UInt8).getD (k + 1) 0 = 0 := by simp [List.getD_eq_getElem?_getD]
      rw [e1, show 134 - n % 136 = k from by omega]; simp only [List.set_cons_succ]
      congr 1
      rw [List.replicate_succ', List.set_append_right _ _ (by simp), List.length_replicate, Nat.sub_self]; rfl
  refine HC_seq fun K1 hK1 => HC_region ?_; refine HLm rfl (HLm rfl ?_); refine HL_nil (hK1 _ _ _ _ ?_); refine HC_seq fun K2 hK2 => ?_; refine HC_seq fun K3 hK3 => HC_region ?_; refine HLm rfl (HLp rfl ?_); refine HLm rfl (HLm rfl ?_); refine HLp rfl (HL_r rfl rfl rfl rfl (R_pickF rfl rfl) ?_); refine HL_nil (hK3 _ _ _ _ ?_); refine HC_cond rfl (fun h6 => ?_) (fun h6 => ?_)
  · try exact Bool.noConfusion h6
    try simp only [ZZ] at h6
    refine HC_seq fun K7 hK7 => HC_region ?_; refine HLm rfl (HLm rfl ?_); refine HL_nil (hK7 _ _ _ _ ?_); refine HC_ret (HQ_thenR ?_); refine HQ_post rfl rfl (.cons (res_tmp rfl) (.cons (res_tmp rfl) .nil)) (fun w1 hs1 => ?_)
    first | (exact ⟨rfl, hs1.keep⟩) | (exfalso; omega)
  · try exact Bool.noConfusion h6
    try simp only [ZZ] at h6
    refine HC_skip (hK2 _ _ _ _ ?_); refine HC_seq fun K8 hK8 => HC_region ?_; refine HL_buildSlice (vs := [_]) (zs := [_]) (r := [_]) rfl rfl rfl rfl rfl rfl rfl rfl rfl (by show (madeCells #[_] _).toList = _; rw [made_one]; exact rfl) rfl fun r1 => ?_; refine HLm rfl ?_; refine HL_nil (hK8 _ _ _ _ ?_); refine HC_seq fun K9 hK9 => HC_block ?_; refine HC_loop (σ := Nat × Nat × Nat × List Value) (fun q => q.1 ≤ K ∧ rowOk 1 (q.1 + 1) ((1 :: List.replicate q.1 0 : List UInt8).map bV) (some q.2)) (fun q => [(0, .int .i64 (n : Int)), (4, .slice (some ⟨q.2.1, 0, none⟩) (q.1 + 1) q.2.2.1)]) (fun q => rowL 5 ((1 :: List.replicate q.1 0 : List UInt8).map bV) (some q.2)) (fun _ _ _ => True) (fun q => K - q.1) (0, r1, 1, []) ⟨Nat.zero_le _, rfl, rfl⟩ (.cons rfl (.cons rfl .nil)) (List.Sublist.refl _) (fun _ _ h => h) ?_; rintro ⟨k, r, cap, sp⟩ ⟨hk, hrow⟩; simp only at hk hrow ⊢; refine HC_seq fun K10 hK10 => ?_; refine HC_seq fun K11 hK11 => HC_region ?_; refine HLm rfl (HLm rfl (HL_r rfl rfl rfl rfl (R_lenSl rfl rfl) ?_)); refine HLp rfl ?_; refine HL_as (show _ = Value.int .i64 ((n + (k + 1) : Nat) : Int) from congrArg (Value.int .i64) (by rw [wrap_i64 (by omega) (by omega)]; omega)) ?_; refine HLp rfl ?_; refine HL_as (show _ = Value.int .i64 (((n + (k + 1)) % 136 : Nat) : Int) from congrArg (Value.int .i64) (by rw [Int.tmod_eq_emod_of_nonneg (by omega)]; omega)) ?_; refine HLp rfl ?_; refine HL_nil (hK11 _ _ _ _ ?_); refine HC_cond rfl (fun h12 => ?_) (fun h12 => ?_)
    · try exact Bool.noConfusion h12
      try simp only [ZZ] at h12
      refine HC_skip (hK10 _ _ _ _ ?_); refine HC_block (HC_region (HLm rfl ?_)); refine HL_buildSlice (vs := [_]) (zs := [_]) (r := [_]) rfl rfl rfl rfl rfl rfl rfl rfl rfl (by show (madeCells #[_] _).toList = _; rw [made_one]; exact rfl) rfl fun r2 => ?_; refine HL_appendRow (L0 := [_]) (xs := (1 :: List.replicate k 0 : List UInt8).map bV) (row := some (r, cap, sp)) (n := k + 1) (sz := 1) (b := 1) (news := [_]) (List.perm_append_comm (l₁ := [_])) rfl rfl rfl rfl (known_L (k := 0) rfl) rfl rfl rfl rfl rfl (by decide) rfl rfl rfl (by decide) hrow (by omega) (by omega) fun ra rcap rsp hra => ?_; refine HLm rfl (HL_nil ?_); refine HQ_blockN (HQ_then (HQ_sel [0] (L' := [_]) (by decide) rfl ?_)); exact HQ_again (k + 1, ra, rcap, rsp) ⟨by simp only; omega, by simp only; rw [pad_snoc]; exact hra⟩ (by simp only; omega) (.cons rfl (.cons rfl .nil)) (by simp only; rw [pad_snoc]; exact List.Sublist.refl _) (fun _ _ h => h)
    · try exact Bool.noConfusion h12
      try simp only [ZZ] at h12
      refine HC_exit (HQ_thenE ?_); refine HQ_thenE (HQ_blockE (hK9 _ _ _ _ ?_)); refine HC_seq fun K13 hK13 => ?_
      have hkK : K = k := by omega
      subst hkK; refine HC_region (HLm rfl ?_); refine HLm rfl (HL_r rfl rfl rfl rfl (R_lenSl rfl rfl) (HLp rfl ?_)); refine HL_as (show _ = Value.int .i64 ((K : Nat) : Int) from congrArg (Value.int .i64) (by rw [wrap_i64 (by omega) (by omega)]; omega)) ?_; refine HLm rfl (HLm rfl (HL_r rfl rfl rfl rfl (R_lenSl rfl rfl) ?_)); refine HLp rfl ?_; refine HL_as (show _ = Value.int .i64 ((K : Nat) : Int) from congrArg (Value.int .i64) (by rw [wrap_i64 (by omega) (by omega)]; omega)) ?_; refine HL_r rfl rfl rfl rfl (R_indexS (j := K) (m := 1) (off' := K) rfl rfl rfl rfl rfl (by omega) (by omega)) ?_; refine HL_r rfl rfl rfl rfl (R_loadAt rfl (known_L (k := 0) rfl) rfl (app_get (by simp))) ?_; rw [← hx]; refine HLp rfl ?_; refine HL_as (show _ = bV (UInt8.ofNat (x.toNat + 128)) from (congrArg (Value.int .u8) (show IntKind.u8.wrap _ = ((x.toNat + 128 : Nat) : Int) from by rw [wrap_u8 (by omega) (by omega)]; omega)).trans (bV_of (by omega))) ?_; refine HL_r rfl rfl rfl rfl (R_indexS (j := K) (m := 1) (off' := K) rfl rfl rfl rfl rfl (by omega) (by omega)) ?_; refine HL_storeAt (k := 0) (off := K) (xs := (1 :: List.replicate K 0 : List UInt8).map bV ++ sp) (ys := (padL n).map bV ++ sp) rfl rfl rfl rfl rfl rfl (by simp; omega) (app_set (by simp) hpl) rfl ?_; refine HL_nil (hK13 _ _ _ _ ?_); refine HC_seq fun K14 hK14 => HC_region ?_; refine HLm rfl ?_; refine HL_r rfl rfl rfl rfl (R_bytesStr (b := padL n) (row := some (r, cap, sp)) (e := 5) (show _ = some (rowV (padL n).length (some (r, cap, sp))) from by rw [padL_len, show 136 - n % 136 = K + 1 from by omega]; rfl) (by obtain ⟨h1, h2⟩ := hrow; rw [padL_len, show 136 - n % 136 = K + 1 from by omega]; exact ⟨by rw [List.length_map, padL_len]; omega, h2⟩) (fun p hp => .inl (by rw [List.mem_singleton.1 hp]; exact List.mem_cons_self)) rfl rfl rfl) ?_; refine HLm rfl (HLm rfl ?_); refine HL_nil (hK14 _ _ _ _ ?_); refine HC_ret ?_; refine HQ_post rfl rfl (.cons (res_tmp rfl) (.cons (res_tmp rfl) .nil)) (fun w1 hs1 => ?_)
      first | (exact ⟨rfl, hs1.keep⟩) | (exfalso; omega)
end Go.Proofs.YtlcbfphioeppaaaGreatDoor
namespace Go.Proofs.YtlcbfphioeppaaaGreatDoor
set_option linter.all false
open Go.SL Go.RowKit Go.Shelf
theorem outL_snoc (a : List Nat) (i : Nat) : (outL a (i + 1)).map bV = (outL a i).map bV ++ [bV (UInt8.ofNat (a.getD (i / 8) 0 / 2 ^ (i % 8 * 8) % 256))] := by rw [outL]; simp
theorem drop_get {t : List UInt8} {j i : Nat} : (((t.getD (136 * j + i) 0).toNat : Nat) : Int) = (((t.drop (136 * j)).getD i 0).toNat : Nat) := by simp [List.getD_eq_getElem?_getD]
set_option maxRecDepth 10000 in
theorem P_ref3_kec {s : List UInt8} (hs : s.length ≤ 1099511627776) : Pure Tryz.prog 100 [.string (bs s)].toArray (.string (bs (kec s))) := by
  refine pure_of_HC Tryz.func100 rfl rfl fun w => ?_
  have hpl := padL_len s.length
  obtain ⟨t, ht⟩ : ∃ t, t = s ++ padL s.length := ⟨_, rfl⟩
  obtain ⟨N, hN⟩ : ∃ N, N = t.length / 136 := ⟨_, rfl⟩
  have htl : t.length = 136 * N := by have := kec_blocks s; rw [← ht] at this; omega
  have hlim : t.length ≤ 2199023255552 := by rw [ht, List.length_append]; omega
  have hkec : kec s = outL (sumS t N) 32 := by unfold kec; rw [← ht, ← hN]
  refine HC_seq fun K1 hK1 => HC_region ?_; refine HLm rfl ?_; refine HL_nil (hK1 _ _ _ _ ?_); refine HC_seq fun K2 hK2 => HC_region ?_; refine HLm rfl (HL_r rfl rfl rfl rfl (R_lenBs rfl rfl) (HL_callP rfl rfl rfl (enters_of Tryz.func176 (by kernel_rfl) rfl) (P_ref3_Pad hs) ?_)); refine HLm rfl (HL_r rfl rfl rfl rfl (R_extract rfl rfl) (HL_r rfl rfl rfl rfl (R_extract rfl rfl) ?_)); refine HLm rfl (HLm rfl ?_); refine HL_nil (hK2 _ _ _ _ ?_); refine HC_seq fun K3 hK3 => HC_region ?_; refine HLm rfl (HLm rfl (HL_r rfl rfl rfl rfl (R_concat rfl rfl (by omega)) ?_)); rw [← ht]; refine HLm rfl ?_; refine HL_nil (hK3 _ _ _ _ ?_); refine HC_seq fun K4 hK4 => HC_region ?_; refine HL_alloc (cs := (z25.map uV).toArray) rfl rfl rfl rfl fun r1 => ?_; refine HL_nil (hK4 _ _ _ _ ?_); refine HC_seq fun K5 hK5 => ?_; refine HC_seq fun K6 hK6 => HC_region ?_; refine HLm rfl ?_; refine HL_nil (hK6 _ _ _ _ ?_); refine HC_block (HC_loop (σ := Nat) (fun j => j ≤ N) (fun j => [(5, .string (bs t)), (6, .pointer (some ⟨r1, 0, none⟩)), (7, .int .i64 ((136 * j : Nat) : Int))]) (fun j => [(r1, lO (sumS t j))]) (fun _ _ _ => True) (fun j => N - j) 0 (Nat.zero_le _) (.cons rfl (.cons rfl (.cons rfl .nil))) (List.Sublist.refl _) (fun _ _ h => h) ?_); intro jj hjj; refine HC_seq fun K7 hK7 => ?_; refine HC_seq fun K8 hK8 => HC_region ?_; refine HLm rfl (HLm rfl (HL_r rfl rfl rfl rfl (R_lenBs rfl rfl) ?_)); refine HLp rfl ?_; refine HL_nil (hK8 _ _ _ _ ?_); refine HC_cond rfl (fun h9 => ?_) (fun h9 => ?_)
  · try exact Bool.noConfusion h9
    try simp only [ZZ] at h9
    refine HC_skip (hK7 _ _ _ _ ?_); refine HC_seq fun K10 hK10 => HC_block ?_; refine HC_seq fun K11 hK11 => ?_; refine HC_seq fun K12 hK12 => ?_
    obtain ⟨a, ha⟩ : ∃ a, a = sumS t jj := ⟨_, rfl⟩
    have hak : SOk 25 a := by rw [ha]; exact sumS_ok t jj
    obtain ⟨u, hu⟩ : ∃ u, u = t.drop (136 * jj) := ⟨_, rfl⟩
    have habk := abS_ok u hak
    refine HC_region (HLm rfl ?_); refine HL_nil (hK12 _ _ _ _ ?_); refine HC_block ?_; refine HC_loop (σ := Nat) (fun i => i ≤ 136) (fun i => [(5, .string (bs t)), (6, .pointer (some ⟨r1, 0, none⟩)), (7, .int .i64 ((136 * jj : Nat) : Int)), (8, .int .i64 (i : Int))]) (fun i => [(r1, lO (abS a u i))]) (fun _ _ _ => True) (fun i => 136 - i) 0 (Nat.zero_le _) (.cons rfl (.cons rfl (.cons rfl (.cons rfl .nil)))) (by rw [show abS a u 0 = sumS t jj from ha]; exact List.Sublist.refl _) (fun _ _ h => h) ?_; intro i hi; refine HC_seq fun K13 hK13 => ?_; refine HC_seq fun K14 hK14 => HC_region ?_; refine HLm rfl (HLp rfl ?_); refine HL_nil (hK14 _ _ _ _ ?_); refine HC_cond rfl (fun h15 => ?_) (fun h15 => ?_)
    · try exact Bool.noConfusion h15
      try simp only [ZZ] at h15
      refine HC_skip (hK13 _ _ _ _ ?_); refine HC_seq fun K16 hK16 => HC_block ?_; refine HC_draw 19 (by kernel_rfl) (by kernel_rfl) ?_; refine HD_r rfl rfl rfl (R_move rfl) ?_; refine HD_r rfl rfl rfl (R_pure rfl rfl rfl) ?_; refine HD_as (show _ = Value.int .i64 ((i / 8 : Nat) : Int) from congrArg (Value.int .i64) (by rw [quo_i64 (by omega) (by omega) (by omega)]; omega)) ?_; refine HD_r rfl rfl rfl (R_move rfl) ?_; refine HD_r rfl rfl rfl (R_pure rfl rfl rfl) ?_; refine HD_as (show _ = Value.int .i64 ((i / 8 : Nat) : Int) from congrArg (Value.int .i64) (by rw [quo_i64 (by omega) (by omega) (by omega)]; omega)) ?_; refine HD_r rfl rfl rfl (R_indexA (j := (i / 8)) (m := 1) (off' := (i / 8)) rfl rfl rfl rfl (by omega) (by omega) (by omega)) ?_; refine HD_r rfl rfl rfl (R_loadAt rfl (known_L (k := 0) rfl) rfl (mapU_get (by rw [(habk i).1]; omega))) ?_; refine HD_r rfl rfl rfl (R_move rfl) ?_; refine HD_r rfl rfl rfl (R_move rfl) ?_; refine HD_r rfl rfl rfl (R_move rfl) ?_; refine HD_r rfl rfl rfl (R_pure rfl rfl rfl) ?_; refine HD_as (show _ = Value.int .i64 ((136 * jj + i : Nat) : Int) from congrArg (Value.int .i64) (by rw [wrap_i64 (by omega) (by omega)]; omega)) ?_; refine HD_r rfl rfl rfl (R_indexBs (j := 136 * jj + i) rfl rfl rfl rfl (by omega) drop_get) ?_; rw [← hu]; refine HD_r rfl rfl rfl (R_pure rfl rfl rfl) ?_; refine HD_as (show _ = uV (u.getD i 0).toNat from congrArg (Value.int .u64) (wrap_u64 (z := ((u.getD i 0).toNat : Int)) (by omega) (by have := u8_lt (u.getD i 0); omega))) ?_; refine HD_r rfl rfl rfl (R_move rfl) ?_; refine HD_r rfl rfl rfl (R_pure rfl rfl rfl) ?_; refine HD_as (show _ = Value.int .i64 ((i % 8 : Nat) : Int) from congrArg (Value.int .i64) (by rw [Int.tmod_eq_emod_of_nonneg (by omega)]; omega)) ?_; refine HD_r rfl rfl rfl (R_pure rfl rfl rfl) ?_; refine HD_as (show _ = Value.int .i64 ((i % 8 * 8 : Nat) : Int) from congrArg (Value.int .i64) (by rw [wrap_i64 (by omega) (by omega)]; omega)) ?_; refine HD_r rfl rfl rfl (R_pure rfl rfl rfl) ?_; refine HD_as (show _ = uV (i % 8 * 8) from congrArg (Value.int .u64) (wrap_u64 (z := ((i % 8 * 8 : Nat) : Int)) (by omega) (by omega))) ?_; refine HD_r rfl rfl rfl (R_shl (n := i % 8 * 8) rfl rfl rfl (show _ ≤ 64 from by omega) (shl_u64 (sh_lt (u8_lt _) (by omega)))) ?_; refine HD_r rfl rfl rfl (R_bits64 (op := .xor) (b := (((abS a u i).getD (i / 8) 0 ^^^ (u.getD i 0).toNat * 2 ^ (i % 8 * 8) : Nat) : Int)) rfl rfl rfl ((habk i).get _) (sh_lt (u8_lt _) (by omega)) rfl) ?_; refine HD_r rfl rfl rfl (R_indexA (j := (i / 8)) (m := 1) (off' := (i / 8)) rfl rfl rfl rfl (by omega) (by omega) (by omega)) ?_; refine HD_end ?_; refine HL_storeAt (k := 0) (off := i / 8) (xs := (abS a u i).map uV) (ys := (abS a u (i + 1)).map uV) rfl rfl rfl rfl rfl rfl (by rw [List.length_map, (habk i).1]; omega) (set_mapU rfl) rfl ?_; refine HL_nil ?_; refine HQ_blockN (hK16 _ _ _ _ ?_); refine HC_region (HLm rfl ?_); refine HLp rfl (HL_wrap_i64 (by omega) (by omega) ?_); refine HLm rfl (HL_nil (HQ_then ?_)); exact HQ_again (i + 1) (by omega) (by omega) (.cons rfl (.cons rfl (.cons rfl (.cons rfl .nil)))) (List.Sublist.refl _) (fun _ _ h => h)
    · try exact Bool.noConfusion h15
      try simp only [ZZ] at h15
      refine HC_exit (HQ_thenE ?_); refine HQ_thenE (HQ_blockE (hK11 _ _ _ _ ?_))
      have hi136 : 136 = i := by omega
      subst hi136; refine HC_region (HL_r rfl rfl rfl rfl (R_loadArr (xs := (abS a u 136).map uV) (n := 25) rfl (known_L (k := 0) rfl) rfl rfl (by rw [List.length_map, (habk 136).1])) (HL_callP rfl rfl rfl (enters_of Tryz.func177 (by kernel_rfl) rfl) (P_ref3_Permute (habk 136)) ?_)); refine HL_storeArr (k := 0) (n := 25) (ys := (permA (abS a u 136)).map uV) rfl rfl rfl rfl rfl (by rw [List.length_map, (permA_ok (habk 136)).1]) (by rw [List.size_toArray, List.length_map, (habk 136).1]) (mapU_one _) rfl ?_; refine HL_nil ?_; refine HQ_blockN (hK10 _ _ _ _ ?_); refine HC_region (HLm rfl (HLp rfl ?_)); refine HL_as (show _ = Value.int .i64 ((136 * (jj + 1) : Nat) : Int) from congrArg (Value.int .i64) (by rw [wrap_i64 (by omega) (by omega)]; omega)) ?_; refine HLm rfl (HL_nil (HQ_then ?_)); exact HQ_again (jj + 1) (by omega) (by omega) (.cons rfl (.cons rfl (.cons rfl .nil))) (by rw [show sumS t (jj + 1) = permA (abS a u 136) from by rw [hu, ha]; rfl]; exact List.Sublist.refl _) (fun _ _ h => h)
  · try exact Bool.noConfusion h9
    try simp only [ZZ] at h9
    refine HC_exit (HQ_thenE ?_); refine HQ_thenE (HQ_blockE (hK5 _ _ _ _ ?_)); refine HC_seq fun K17 hK17 => ?_
    have hjN : N = jj := by omega
    subst hjN
    obtain ⟨a, ha⟩ : ∃ a, a = sumS t N := ⟨_, rfl⟩
    have hak : SOk 25 a := by rw [ha]; exact sumS_ok t N
    have hkec2 : kec s = outL a 32 := by rw [hkec, ha]
    refine HC_region (HLm rfl ?_); refine HL_nil (hK17 _ _ _ _ ?_); refine HC_seq fun K18 hK18 => ?_; refine HC_seq fun K19 hK19 => HC_region ?_; refine HLm rfl ?_; refine HL_nil (hK19 _ _ _ _ ?_); refine HC_block ?_; refine HC_loop (σ := Nat × List Value × Row) (fun q => q.1 ≤ 32 ∧ q.2.1 = (outL a q.1).map bV ∧ rowOk 1 q.1 q.2.1 q.2.2) (fun q => [(6, .pointer (some ⟨r1, 0, none⟩)), (9, rowV q.1 q.2.2), (10, .int .i64 (q.1 : Int))]) (fun q => (r1, lO a) :: rowL 5 q.2.1 q.2.2) (fun _ _ _ => True) (fun q => 32 - q.1) (0, [], none) ⟨by simp, rfl, ⟨rfl, rfl⟩⟩ (.cons rfl (.cons rfl (.cons rfl .nil))) (by rw [ha]; exact List.Sublist.refl _) (fun _ _ h => h) ?_; rintro ⟨i, xs, row⟩ ⟨hi, hxs, hrow⟩; simp only at hi hxs hrow ⊢; refine HC_seq fun K20 hK20 => ?_; refine HC_seq fun K21 hK21 => HC_region ?_; refine HLm rfl (HLp rfl ?_); refine HL_nil (hK21 _ _ _ _ ?_); refine HC_cond rfl (fun h22 => ?_) (fun h22 => ?_)
    · try exact Bool.noConfusion h22
      try simp only [ZZ] at h22
      refine HC_skip (hK20 _ _ _ _ ?_); refine HC_seq fun K23 hK23 => HC_block ?_; refine HC_region (HLm rfl ?_); refine HLm rfl (HLp rfl ?_); refine HL_as (show _ = Value.int .i64 ((i / 8 : Nat) : Int) from congrArg (Value.int .i64) (by rw [quo_i64 (by omega) (by omega) (by omega)]; omega)) ?_; refine HL_r rfl rfl rfl rfl (R_indexA (j := (i / 8)) (m := 1) (off' := (i / 8)) rfl rfl rfl rfl (by omega) (by omega) (by omega)) ?_; refine HL_r rfl rfl rfl rfl (R_loadAt rfl (known_L (k := 0) rfl) rfl (mapU_get (by rw [hak.1]; omega))) ?_; refine HLm rfl (HLp rfl ?_); refine HL_as (show _ = Value.int .i64 ((i % 8 : Nat) : Int) from congrArg (Value.int .i64) (by rw [Int.tmod_eq_emod_of_nonneg (by omega)]; omega)) ?_; refine HLp rfl ?_; refine HL_as (show _ = Value.int .i64 ((i % 8 * 8 : Nat) : Int) from congrArg (Value.int .i64) (by rw [wrap_i64 (by omega) (by omega)]; omega)) ?_; refine HLp rfl (HL_as (show _ = uV (i % 8 * 8) from congrArg (Value.int .u64) (wrap_u64 (z := ((i % 8 * 8 : Nat) : Int)) (by omega) (by omega))) (HL_r rfl rfl rfl rfl (R_shr (n := i % 8 * 8) rfl rfl rfl (show _ ≤ 64 from by omega) (by omega) (shr_nat _ _)) ?_)); refine HLp rfl (HL_as (show _ = uV (a.getD (i / 8) 0 / 2 ^ (i % 8 * 8) % 256) from congrArg (Value.int .u64) (rem_nat _ 256)) ?_); refine HLp rfl (HL_as (show _ = bV (UInt8.ofNat (a.getD (i / 8) 0 / 2 ^ (i % 8 * 8) % 256)) from byte_of (Nat.mod_lt _ (by decide))) ?_); refine HL_buildSlice (vs := [_]) (zs := [_]) (r := [_]) rfl rfl rfl rfl rfl rfl rfl rfl rfl (by show (madeCells #[_] _).toList = _; rw [made_one]; exact rfl) rfl fun r1 => ?_; refine HL_appendRow (L0 := [_, _]) (xs := xs) (row := row) (n := i) (sz := 1) (b := 1) (news := [_]) (List.perm_append_comm (l₁ := [_, _])) rfl rfl rfl rfl (known_L (k := 0) rfl) rfl rfl rfl rfl rfl (by decide) rfl rfl rfl (by decide) hrow (by omega) (by omega) fun ra cap sp hra => ?_; refine HLm rfl (HL_nil ?_); refine HQ_blockN (hK23 _ _ _ _ ?_); refine HC_region (HLm rfl ?_); refine HLp rfl (HL_wrap_i64 (by omega) (by omega) ?_); refine HLm rfl (HL_nil (HQ_then ?_)); refine HQ_sel [2, 0] (L' := [_, _]) (by decide) rfl ?_; exact HQ_again (i + 1, xs ++ [bV (UInt8.ofNat (a.getD (i / 8) 0 / 2 ^ (i % 8 * 8) % 256))], some (ra, cap, sp)) ⟨by simp only; omega, by simp only; rw [outL_snoc, hxs], hra⟩ (by simp only; omega) (.cons rfl (.cons rfl (.cons rfl .nil))) (List.Sublist.refl _) (fun _ _ h => h)
    · try exact Bool.noConfusion h22
      try simp only [ZZ] at h22
      refine HC_exit (HQ_thenE ?_); refine HQ_thenE (HQ_blockE (hK18 _ _ _ _ ?_)); refine HC_seq fun K24 hK24 => ?_
      have hi32 : 32 = i := by omega
      subst hi32; refine HC_region (HLm rfl ?_); refine HL_r rfl rfl rfl rfl (R_bytesStr (b := outL a 32) (row := row) (e := 5) (show _ = some (rowV (outL a 32).length row) from by rw [outL_len]; rfl) (by rw [outL_len, ← hxs]; exact hrow) (fun p hp => .inl (by rw [hxs]; exact List.mem_cons_of_mem _ hp)) rfl rfl rfl) ?_; refine HLm rfl ?_; refine HL_nil (hK24 _ _ _ _ ?_); refine HC_ret ?_; refine HQ_post rfl rfl (.cons (res_tmp rfl) .nil) (fun w1 hs1 => ?_); exact ⟨by rw [hkec2]; rfl, hs1.keep⟩
end Go.Proofs.YtlcbfphioeppaaaGreatDoor
/-! ### Rows that rise by byte strings; accounts and states in plain Lean -/
namespace Go.SL
set_option linter.all false
open Go Go.RowKit Go.Shelf
abbrev BS : Type := List UInt8
theorem bl_irr : ∀ a : BS, Op.bytesLess a a = false
  | [] => rfl
  | x :: a => by simp [Op.bytesLess, bl_irr a]
theorem bl_trans : ∀ {a b c : BS}, Op.bytesLess a b = true → Op.bytesLess b c = true → Op.bytesLess a c = true
  | _, [], _, h, _ => by simp [Op.bytesLess] at h
  | _, _ :: _, [], _, h => by simp [Op.bytesLess] at h
  | [], y :: b, z :: c, _, _ => rfl
  | x :: a, y :: b, z :: c, h, h2 => by
    simp only [Op.bytesLess, Bool.or_eq_true, decide_eq_true_eq, Bool.and_eq_true, beq_iff_eq] at h h2 ⊢
    rcases h with h | ⟨rfl, h⟩
    · rcases h2 with h2 | ⟨rfl, h2⟩
      · exact .inl (UInt8.lt_trans h h2)
      · exact .inl h
    · rcases h2 with h2 | ⟨rfl, h2⟩
      · exact .inl h2
      · exact .inr ⟨rfl, bl_trans h h2⟩
theorem bl_tri : ∀ a b : BS, a = b ∨ Op.bytesLess a b = true ∨ Op.bytesLess b a = true
  | [], [] => .inl rfl
  | [], _ :: _ => .inr (.inl rfl)
  | _ :: _, [] => .inr (.inr rfl)
  | x :: a, y :: b => by
    simp only [Op.bytesLess, Bool.or_eq_true, decide_eq_true_eq, Bool.and_eq_true, beq_iff_eq]
    by_cases h1 : x < y
    · exact .inr (.inl (.inl h1))
    by_cases h2 : y < x
    · exact .inr (.inr (.inl h2))
    have e : x = y := UInt8.le_antisymm (UInt8.not_lt.1 h2) (UInt8.not_lt.1 h1)
    subst e
    rcases bl_tri a b with rfl | h | h
    · exact .inl rfl
    · exact .inr (.inl (.inr ⟨rfl, h⟩))
    · exact .inr (.inr (.inr ⟨rfl, h⟩))
theorem bl_ne {a b : BS} (h : Op.bytesLess a b = true) : a ≠ b := by rintro rfl; rw [bl_irr] at h; cases h
theorem bl_not {a b : BS} (h : Op.bytesLess a b = false) (hn : a ≠ b) : Op.bytesLess b a = true := by
  rcases bl_tri a b with h1 | h1 | h1
  · exact absurd h1 hn
  · rw [h] at h1; cases h1
  · exact h1
section
variable {α : Type} (kf : α → BS)
def risesB : List α → Bool
  | [] => true
  | [_] => true
  | x :: y :: l => Op.bytesLess (kf x) (kf y) && risesB (y :: l)
abbrev Sorted (l : List α) : Prop := l.Pairwise fun x y => Op.bytesLess (kf x) (kf y) = true
theorem rises_iff : ∀ l : List α, risesB kf l = true ↔ Sorted kf l
  | [] => by simp [risesB]
  | [_] => by simp [risesB]
  | x :: y :: l => by
    rw [risesB, Bool.and_eq_true, rises_iff (y :: l)]
    refine Iff.trans ?_ List.pairwise_cons.symm
    constructor
    · rintro ⟨h1, h2⟩
      refine ⟨fun z hz => ?_, h2⟩
      rcases List.mem_cons.1 hz with rfl | hz
      · exact h1
      · exact bl_trans h1 ((List.pairwise_cons.1 h2).1 z hz)
    · rintro ⟨h1, h2⟩
      exact ⟨h1 y List.mem_cons_self, h2⟩
def lookL (k : BS) (l : List α) : Option α := l.find? fun x => kf x == k
def insL (x : α) : List α → List α
  | [] => [x]
  | y :: ys => if Op.bytesLess (kf y) (kf x) then y :: insL x ys else if kf y = kf x then x :: ys else x :: y :: ys
def delL (k : BS) (l : List α) : List α := l.filter fun y => !(kf y == k)
variable {kf}
theorem lookL_cons {k : BS} {y : α} {l : List α} : lookL kf k (y :: l) = if kf y = k then some y else lookL kf k l := by
  unfold lookL
  rw [List.find?_cons]
  by_cases h : kf y = k
  · simp [h]
  · rw [if_neg h, show (kf y == k) = false from by simpa using h]
theorem lookL_key {k : BS} {y : α} {l : List α} (h : lookL kf k l = some y) : kf y = k ∧ y ∈ l := ⟨by have := List.find?_some h; simpa using this, List.mem_of_find?_eq_some h⟩
theorem lookL_mem {y : α} : ∀ {l : List α}, Sorted kf l → y ∈ l → lookL kf (kf y) l = some y
  | z :: l, hs, hm => by
    rw [lookL_cons]
    obtain ⟨h1, h2⟩ := List.pairwise_cons.1 hs
    rcases List.mem_cons.1 hm with rfl | hm
    · rw [if_pos rfl]
    · rw [if_neg (bl_ne (h1 y hm)), lookL_mem h2 hm]
theorem ins_mem {x y : α} : ∀ {l : List α}, y ∈ insL kf x l → y = x ∨ y ∈ l
  | [], h => by simpa [insL] using h
  | z :: l, h => by
    unfold insL at h
    split at h
    · rcases List.mem_cons.1 h with rfl | h
      · exact .inr List.mem_cons_self
      · exact (ins_mem h).elim .inl fun h => .inr (List.mem_cons_of_mem _ h)
    · split at h
      · rcases List.mem_cons.1 h with rfl | h
        · exact .inl rfl
        · exact .inr (List.mem_cons_of_mem _ h)
      · exact List.mem_cons.1 h
theorem ins_sorted {x : α} : ∀ {l : List α}, Sorted kf l → Sorted kf (insL kf x l)
  | [], _ => by simp [insL]
  | z :: l, h => by
    obtain ⟨h1, h2⟩ := List.pairwise_cons.1 h
    unfold insL
    split
    · rename_i hz
      refine List.pairwise_cons.2 ⟨fun y hy => ?_, ins_sorted h2⟩
      rcases ins_mem hy with rfl | hy
      · exact hz
      · exact h1 y hy
    · rename_i hz
      split
      · rename_i he
        exact List.pairwise_cons.2 ⟨fun y hy => he ▸ h1 y hy, h2⟩
      · rename_i he
        have hx := bl_not (by simpa using hz) he
        refine List.pairwise_cons.2 ⟨fun y hy => ?_, h⟩
        rcases List.mem_cons.1 hy with rfl | hy
        · exact hx
        · exact bl_trans hx (h1 y hy)
theorem ins_look {x : α} {k : BS} : ∀ {l : List α}, Sorted kf l → lookL kf k (insL kf x l) = if kf x = k then some x else lookL kf k l
  | [], _ => by unfold insL; rw [lookL_cons]
  | z :: l, h => by
    obtain ⟨h1, h2⟩ := List.pairwise_cons.1 h
    unfold insL
    split
    · rename_i hz
      rw [lookL_cons, lookL_cons, ins_look h2]
      by_cases hk : kf z = k
      · subst hk
        rw [if_pos rfl, if_neg (fun e => bl_ne hz e.symm), if_pos rfl]
      · rw [if_neg hk, if_neg hk]
    · split
      · rename_i he
        rw [lookL_cons, lookL_cons, he]
        split <;> rfl
      · rw [lookL_cons]
theorem del_sorted {k : BS} {l : List α} (h : Sorted kf l) : Sorted kf (delL kf k l) := h.filter _
theorem del_look {k j : BS} : ∀ {l : List α}, lookL kf j (delL kf k l) = if k = j then none else lookL kf j l
  | [] => by simp [delL, lookL]
  | z :: l => by
    have ih := del_look (k := k) (j := j) (l := l)
    unfold delL at ih ⊢
    rw [List.filter_cons, lookL_cons]
    by_cases hz : kf z = k
    · subst hz
      rw [if_neg (by simp), ih]
      split
      · rfl
      · rfl
    · rw [if_pos (by simpa using hz), lookL_cons, ih]
      by_cases hj : kf z = j
      · subst hj
        rw [if_pos rfl, if_pos rfl, if_neg (fun e => hz e.symm)]
      · rw [if_neg hj, if_neg hj]
theorem del_mem {k : BS} {l : List α} {y : α} (h : y ∈ delL kf k l) : y ∈ l := (List.mem_filter.1 h).1
end
/-! ### Accounts, states -/
def noneB : BS := List.replicate 32 0
structure W4 : Type where
  a : Nat
  b : Nat
  c : Nat
  d : Nat
deriving DecidableEq
def W4.l (w : W4) : List Nat := [w.a, w.b, w.c, w.d]
def w40 : W4 := ⟨0, 0, 0, 0⟩
def W4.of (l : List Nat) : W4 := ⟨l.getD 0 0, l.getD 1 0, l.getD 2 0, l.getD 3 0⟩
theorem W4.of_l {l : List Nat} (h : l.length = 4) : (W4.of l).l = l := by
  match l, h with
  | [a, b, c, d], _ => rfl
theorem W4.l_inj {x y : W4} (h : x.l = y.l) : x = y := by
  cases x; cases y; simp [W4.l] at h; simp [h]
structure AcE : Type where
  addr : BS
  nonce : Nat
  bal : W4
  code : BS
  slots : List (BS × BS)
deriving DecidableEq
def ac0 : AcE := ⟨[], 0, w40, [], []⟩
def oddS (x : BS × BS) : Bool := decide (x.1.length ≠ 32) || decide (x.2.length ≠ 32)
def spareS (x : BS × BS) : Bool := decide (x.2 = noneB)
def lkE (a : AcE) : Int := if a.addr.length ≠ 20 ∨ a.slots.any oddS = true then 2 else if risesB Prod.fst a.slots = false then 11 else if a.code.length > 512 ∨ a.slots.length > 16 then 5 else if a.slots.any spareS = true then 8 else 0
def stepE (last : Option BS) (a : AcE) : Int := if lkE a ≠ 2 ∧ (∃ b, last = some b ∧ Op.bytesLess b a.addr = false) then 11 else lkE a
instance (last : Option BS) (a : AcE) : Decidable (∃ b, last = some b ∧ Op.bytesLess b a.addr = false) := match last with
  | none => .isFalse (by simp)
  | some b => if h : Op.bytesLess b a.addr = false then .isTrue ⟨b, rfl, h⟩ else .isFalse (by simpa using h)
def goS : Option BS → List AcE → Int
  | _, [] => 0
  | last, a :: l => if stepE last a ≠ 0 then stepE last a else goS (some a.addr) l
def chkS (s : List AcE) : Int := if s.length > 32 then 5 else goS none s
def findS (s : List AcE) (k : BS) : Option AcE := lookL AcE.addr k s
def slotE (a : AcE) (k : BS) : BS := match lookL Prod.fst k a.slots with
  | some x => x.2
  | none => noneB
def withE (l : List (BS × BS)) (k v : BS) : List (BS × BS) := if v = noneB then delL Prod.fst k l else insL Prod.fst (k, v) l
def setE (a : AcE) (k v : BS) : AcE × Int := if lkE a ≠ 0 then (a, lkE a) else if k.length ≠ 32 ∨ v.length ≠ 32 then (a, 2) else if (withE a.slots k v).length > 16 then (a, 5) else ({ a with slots := withE a.slots k v }, 0)
theorem look_ok {a : AcE} (h : lkE a = 0) : a.addr.length = 20 ∧ (∀ x ∈ a.slots, x.1.length = 32 ∧ x.2.length = 32 ∧ x.2 ≠ noneB) ∧ Sorted Prod.fst a.slots ∧ a.code.length ≤ 512 ∧ a.slots.length ≤ 16 := by
  unfold lkE at h
  split at h
  · cases h
  rename_i h1
  split at h
  · cases h
  rename_i h2
  split at h
  · cases h
  rename_i h3
  split at h
  · cases h
  rename_i h4
  simp only [not_or, Decidable.not_not] at h1 h3
  refine ⟨h1.1, fun x hx => ?_, (rises_iff _ _).1 (by simpa using h2), by omega, by omega⟩
  have a1 := h1.2
  simp only [Bool.not_eq_true, List.any_eq_false] at a1 h4
  have := a1 x hx
  have h5 := h4 x hx
  unfold oddS at this
  unfold spareS at h5
  simp at this h5
  exact ⟨this.1, this.2, h5⟩
theorem look_of {a : AcE} (h1 : a.addr.length = 20) (h2 : ∀ x ∈ a.slots, x.1.length = 32 ∧ x.2.length = 32 ∧ x.2 ≠ noneB) (h3 : Sorted Prod.fst a.slots) (h4 : a.code.length ≤ 512) (h5 : a.slots.length ≤ 16) : lkE a = 0 := by
  unfold lkE
  have e1 : ¬ a.slots.any oddS = true := by
    simp only [Bool.not_eq_true, List.any_eq_false]
    intro x hx
    obtain ⟨a1, a2, _⟩ := h2 x hx
    simp [oddS, a1, a2]
  have e2 : ¬ a.slots.any spareS = true := by
    simp only [Bool.not_eq_true, List.any_eq_false]
    intro x hx
    obtain ⟨_, _, a3⟩ := h2 x hx
    simp [spareS, a3]
  have e3 := (rises_iff Prod.fst a.slots).2 h3
  rw [if_neg (fun h => h.elim (fun h => h h1) e1), if_neg (by rw [e3]; simp), if_neg (by omega), if_neg e2]
theorem step_ok {last : Option BS} {a : AcE} : stepE last a = 0 ↔ lkE a = 0 ∧ ∀ b, last = some b → Op.bytesLess b a.addr = true := by
  unfold stepE
  split
  · rename_i h
    obtain ⟨h1, b, h2, h3⟩ := h
    constructor
    · intro h; cases h
    · rintro ⟨_, h⟩; rw [h b h2] at h3; cases h3
  · rename_i h
    constructor
    · intro h0
      refine ⟨h0, fun b hb => ?_⟩
      cases h4 : Op.bytesLess b a.addr
      · exact absurd ⟨by omega, b, hb, h4⟩ h
      · rfl
    · exact fun h => h.1
theorem go_ok : ∀ {last : Option BS} {s : List AcE}, goS last s = 0 ↔ (∀ a ∈ s, lkE a = 0) ∧ Sorted AcE.addr s ∧ (∀ b, last = some b → ∀ a ∈ s, Op.bytesLess b a.addr = true)
  | last, [] => by simp [goS]
  | last, a :: l => by
    rw [goS]
    split
    · rename_i h
      constructor
      · intro h0; exact absurd h0 h
      · rintro ⟨h1, h2, h3⟩
        exact absurd (step_ok.2 ⟨h1 a List.mem_cons_self, fun b hb => h3 b hb a List.mem_cons_self⟩) h
    · rename_i h
      have h := step_ok.1 (Decidable.not_not.1 h)
      rw [go_ok]
      constructor
      · rintro ⟨h1, h2, h3⟩
        refine ⟨fun x hx => ?_, List.pairwise_cons.2 ⟨fun x hx => h3 _ rfl x hx, h2⟩, fun b hb x hx => ?_⟩
        · rcases List.mem_cons.1 hx with rfl | hx
          · exact h.1
          · exact h1 x hx
        · rcases List.mem_cons.1 hx with rfl | hx
          · exact h.2 b hb
          · exact bl_trans (h.2 b hb) (h3 _ rfl x hx)
      · rintro ⟨h1, h2, h3⟩
        obtain ⟨h4, h5⟩ := List.pairwise_cons.1 h2
        exact ⟨fun x hx => h1 x (List.mem_cons_of_mem _ hx), h5, fun b hb x hx => by cases hb; exact h4 x hx⟩
theorem chk_ok {s : List AcE} : chkS s = 0 ↔ s.length ≤ 32 ∧ (∀ a ∈ s, lkE a = 0) ∧ Sorted AcE.addr s := by
  unfold chkS
  split
  · constructor
    · intro h; cases h
    · rintro ⟨h, _⟩; omega
  · rw [go_ok]
    constructor
    · rintro ⟨h1, h2, _⟩; exact ⟨by omega, h1, h2⟩
    · rintro ⟨_, h1, h2⟩; exact ⟨h1, h2, by simp⟩
end Go.SL
/-! ### Calls that turn blocks, read known ones and lay new ones; copies -/
namespace Go.SL
set_option linter.all false
open Go Go.RowKit Go.Shelf
open Go.Proofs (Enters enters_of)
/-- The blocks of T may be turned (or left), those of Rl are read, those of LL hold the result. -/
structure PureT {α : Type} (P : Program) (f : FuncId) (args : Array Value) (V : α → Value) (T : List (Nat × Obj)) (LL : α → List (Nat × Obj)) (Rl : List (Nat × Obj)) : Prop where
  run : ∀ w, Has T w → Has Rl w → (T.Pairwise fun p q => p.1 ≠ q.1) → (∀ p ∈ Rl, ∀ q ∈ T, p.1 ≠ q.1) → Calls P f args w fun e w' => ∃ x, e = .returned (V x) ∧ Keep (T.map (·.1)) w w' ∧ (∀ p ∈ LL x, (p.1 ∈ T.map (·.1) ∨ w.heap.size ≤ p.1) ∧ w'.heap[p.1]? = some p.2) ∧ (LL x).Pairwise fun p q => p.1 ≠ q.1
def cxT (P : Program) (w : World) (T Rl : List (Nat × Obj)) (n : Nat) : Cx := ⟨P, none, w, T.map (·.1), [], Rl, n⟩
theorem St.startT {P : Program} {w : World} {n : Nat} {T Rl : List (Nat × Obj)} (hT : Has T w) (hR : Has Rl w) (hd : T.Pairwise fun p q => p.1 ≠ q.1) (hne : ∀ p ∈ Rl, ∀ q ∈ T, p.1 ≠ q.1) : St (cxT P w T Rl n) T (fun _ _ => True) w :=
  ⟨Keep.refl _ _, fun p hp => ⟨.inl (List.mem_map.2 ⟨p, hp, rfl⟩), by simp [cxT], hT p hp⟩, hd, fun p hp => ⟨fun h => by obtain ⟨q, hq, e⟩ := List.mem_map.1 h; exact hne p hp q hq e.symm, by simp [cxT], hR p hp⟩, by simp [cxT], ⟨[], by simp, fun _ _ => trivial⟩⟩
theorem pureT_of_HC {α : Type} {P : Program} {f : FuncId} {fn : Func} {code : Code} {vs : List Value} {V : α → Value} {T Rl : List (Nat × Obj)} {LL : α → List (Nat × Obj)} (hf : P.funcs[f]? = some fn) (hb : fn.body = some code) (hlen : Nat.ble vs.length fn.ntmps = true)
    (h : ∀ w, HC (cxT P w T Rl fn.ntmps) [] (frame0 0 vs) T (fun _ _ => True) code (bodyPostM (FW none) 0 P fn (fun e w' => ∃ x, e = .returned (V x) ∧ St (cxT P w T Rl fn.ntmps) (LL x) (fun _ _ => True) w'))) : PureT P f vs.toArray V T LL Rl := ⟨fun w hT hR hd hne =>
  (calls_of_HC (cxT P w T Rl fn.ntmps) hf hb rfl rfl rfl hlen (St.startT hT hR hd hne) (h w)).mono fun _ _ ⟨x, he, hs⟩ => ⟨x, he, by have := hs.keep; simpa [cxT] using this, fun p hp => ⟨(hs.own p hp).1, (hs.own p hp).2.2⟩, hs.distinct⟩⟩
section
variable {c : Cx} {l : List (Nat × Value)} {L : List (Nat × Obj)} {X : XP} {Q : Exit → Act → World → Prop} {d : List Deferred}
variable {ops : Array Oper} {rest : List Oper} {i : Nat} {v : Value} {t : TypeId} {ps : String} {af : Array Edge} {gd : Option (Nat × Bool)} {ty t2 : TypeId}
theorem St.turnT {T L0 LL : List (Nat × Obj)} {w w' : World} (hs : St c (T ++ L0) X w) (hk : Keep (T.map (·.1)) w w') (hL : ∀ p ∈ LL, (p.1 ∈ T.map (·.1) ∨ w.heap.size ≤ p.1) ∧ w'.heap[p.1]? = some p.2) (hd : LL.Pairwise fun p q => p.1 ≠ q.1) : St c (LL ++ L0) X w' := by
  have hT : ∀ p ∈ T, p ∈ T ++ L0 := fun p hp => List.mem_append_left _ hp
  have hle := hs.keep.size
  obtain ⟨hd1, hd2, hd3⟩ := List.pairwise_append.1 hs.distinct
  have hin : ∀ k ∈ T.map (·.1), ∃ p ∈ T, p.1 = k := fun k hk => by obtain ⟨p, hp, e⟩ := List.mem_map.1 hk; exact ⟨p, hp, e⟩
  refine ⟨hs.keep.glue hk ?_, fun p hp => ?_, ?_, hs.ext, hs.xlt, ?_⟩
  · intro k hk
    obtain ⟨p, hp, rfl⟩ := hin k hk
    exact (hs.own p (hT p hp)).1.imp (fun h => List.mem_append_left _ h) id
  · rcases List.mem_append.1 hp with hp | hp
    · obtain ⟨h1, h2⟩ := hL p hp
      rcases h1 with h1 | h1
      · obtain ⟨q, hq, e⟩ := hin _ h1
        obtain ⟨g1, g2, _⟩ := hs.own q (hT q hq)
        rw [e] at g1 g2
        exact ⟨g1, g2, h2⟩
      · exact ⟨.inr (by omega), fun hx => (by have := hs.xlt _ hx; omega), h2⟩
    · obtain ⟨g1, g2, g3⟩ := hs.own p (List.mem_append_right _ hp)
      refine ⟨g1, g2, ?_⟩
      rw [hk.block _ (lt_of_some g3) (fun h => by obtain ⟨q, hq, e⟩ := hin _ h; exact hd3 q hq p hp e)]
      exact g3
  · refine List.pairwise_append.2 ⟨hd, hd2, fun p hp q hq => ?_⟩
    rcases (hL p hp).1 with h1 | h1
    · obtain ⟨u, hu, e⟩ := hin _ h1
      rw [← e]; exact hd3 u hu q hq
    · have := lt_of_some (hs.own q (List.mem_append_right _ hq)).2.2
      omega
  · obtain ⟨xs, e1, e2⟩ := hs.x
    refine ⟨xs, fun k hkx => ?_, fun w2 hw2 => e2 w2 fun k hkx => (hw2 k hkx).trans (hk.block k (e1 k hkx).2.1 (fun h => by obtain ⟨q, hq, e⟩ := hin _ h; exact (e1 k hkx).2.2 q (hT q hq) e))⟩
    obtain ⟨a1, a2, a3⟩ := e1 k hkx
    refine ⟨a1, Nat.lt_of_lt_of_le a2 hk.size, fun p hp => ?_⟩
    rcases List.mem_append.1 hp with hp | hp
    · rcases (hL p hp).1 with h1 | h1
      · obtain ⟨u, hu, e⟩ := hin _ h1
        rw [← e]; exact a3 u (hT u hu)
      · omega
    · exact a3 p (List.mem_append_right _ hp)
/-- A call that may turn the blocks of T (they lie in L), reads Rl and hands back LL. -/
theorem HL_callT {α : Type} {T L0 Rl : List (Nat × Obj)} {f : Operand} {args : Array Operand} {at_ : Array TypeId} {g : FuncId} {vs : List Value} {V : α → Value} {LL : α → List (Nat × Obj)}
    (hp : L.Perm (T ++ L0)) (hg : goes l ops ⟨some i, .call ⟨.value f, args, at_⟩, ty, ps, af, gd⟩ = some true) (hi : Nat.ble (i + 1) c.n = true) (hca : callArgs l f args = some (g, vs)) (eg : Enters c.P g)
    (hpt : PureT c.P g vs.toArray V T LL Rl) (hR : ∀ p ∈ Rl, known c L0 p.1 p.2) (h : ∀ x, HL c d ((i, V x) :: l) (LL x ++ L0) X ops rest Q) : HL c d l L X ops (⟨some i, .call ⟨.value f, args, at_⟩, ty, ps, af, gd⟩ :: rest) Q :=
  HL_callE (V := V) (L' := fun x => LL x ++ L0) (X' := fun _ => X) hg hi hca eg (fun w hs => by
    have hs := hs.perm hp
    obtain ⟨hd1, _, hd3⟩ := List.pairwise_append.1 hs.distinct
    refine (hpt.run w (fun p hp => (hs.own p (List.mem_append_left _ hp)).2.2) (fun p hp => ?_) hd1 (fun p hp q hq => ?_)).mono fun _ _ ⟨x, he, hk, h1, h2⟩ => ⟨x, he, hs.turnT hk h1 h2⟩
    · exact (hR p hp).elim (fun h => (hs.own _ (List.mem_append_right _ h)).2.2) hs.readR
    · rcases hR p hp with h | h
      · exact fun e => hd3 q hq _ h e.symm
      · rintro e
        obtain ⟨h1, _, h3⟩ := hs.ext _ h
        have h3 := lt_of_some h3
        rcases (hs.own q (List.mem_append_left _ hq)).1 with h4 | h4
        · exact h1 (e ▸ h4)
        · simp only at h3 e; omega) h
/-- Nothing is turned. -/
theorem HL_callRE {α : Type} {Rl : List (Nat × Obj)} {f : Operand} {args : Array Operand} {at_ : Array TypeId} {g : FuncId} {vs : List Value} {V : α → Value} {LL : α → List (Nat × Obj)}
    (hg : goes l ops ⟨some i, .call ⟨.value f, args, at_⟩, ty, ps, af, gd⟩ = some true) (hi : Nat.ble (i + 1) c.n = true) (hca : callArgs l f args = some (g, vs)) (eg : Enters c.P g)
    (hpt : PureT c.P g vs.toArray V [] LL Rl) (hR : ∀ p ∈ Rl, known c L p.1 p.2) (h : ∀ x, HL c d ((i, V x) :: l) (LL x ++ L) X ops rest Q) : HL c d l L X ops (⟨some i, .call ⟨.value f, args, at_⟩, ty, ps, af, gd⟩ :: rest) Q :=
  HL_callT (T := []) (L0 := L) (List.Perm.refl _) hg hi hca eg hpt hR h
/-- The same result, told otherwise. -/
theorem PureT.map {α β : Type} {P : Program} {f : FuncId} {args : Array Value} {V : α → Value} {V' : β → Value} {T Rl : List (Nat × Obj)} {LL : α → List (Nat × Obj)} {LL' : β → List (Nat × Obj)} (h : PureT P f args V T LL Rl) (g : α → β) (hv : ∀ x, V x = V' (g x)) (hl : ∀ x, (LL' (g x)).Sublist (LL x)) : PureT P f args V' T LL' Rl :=
  ⟨fun w hT hR hd hne => (h.run w hT hR hd hne).mono fun _ _ ⟨x, he, hk, h1, h2⟩ => ⟨g x, he.trans (by rw [hv]), hk, fun p hp => h1 p ((hl x).subset hp), h2.sublist (hl x)⟩⟩
end
end Go.SL
/-! ### The arguments of a law: rows, types, values -/
namespace Go.SL
set_option linter.all false
open Go Go.RowKit Go.Shelf Go.ChangeShapes Go.WideShapes
section
variable {H : Type} {enc : TypeId × Value → H} {P : Program} {w : World} {base : Nat} {sp : Nat → Bool} {held : Bool}
theorem cells_get {a : Addr} {m : Nat} {cs : List Value} (h : w.cells? base a m = some cs) : cs.length = m ∧ ∀ i, i < m → w.cell? (a.add i) = cs[i]? := by
  unfold World.cells? at h
  split at h
  · exact ⟨by simpa using mapM_some_length h, fun i hi => mapM_some_get h i i (by simp [hi])⟩
  · cases h
theorem cell_block {a : Addr} {v : Value} (h : w.cell? a = some v) : a.spot = none ∧ ∃ all e fr, w.heap[a.block]? = some (.cells all e fr) ∧ all[a.off]? = some v := by
  unfold World.cell? at h
  split at h
  · rename_i c e fr hc
    split at h
    · cases h
    · rename_i hs
      exact ⟨by simpa using hs, c, e, fr, hc, h⟩
  · cases h
theorem cells_take {b o m : Nat} {cs : List Value} {all : Array Value} {e : TypeId} {fr : Nat × Nat} (h : w.cells? base ⟨b, o, none⟩ m = some cs) (hb : w.heap[b]? = some (.cells all e fr)) : (all.toList.drop o).take m = cs := by
  obtain ⟨hl, hg⟩ := cells_get h
  apply List.ext_getElem?
  intro i
  rw [List.getElem?_take]
  split
  · rename_i hi
    rw [← hg i hi, add_none, List.getElem?_drop, Array.getElem?_toList]
    simp only [World.cell?, hb]
    rfl
  · rename_i hi
    rw [List.getElem?_eq_none (by omega)]
theorem cat_take {α : Type} {f : α → List Value} {m b : Nat} {all : Array Value} {e : TypeId} {fr : Nat × Nat} (hb : w.heap[b]? = some (.cells all e fr)) :
    ∀ (l : List α) (o : Nat), (∀ i x, l[i]? = some x → w.cells? base ⟨b, o + i * m, none⟩ m = some (f x)) → (all.toList.drop o).take (l.length * m) = l.flatMap f
  | [], o, _ => by simp
  | y :: l, o, h => by
    have h0 := cells_take (h 0 y rfl) hb
    have hr := cat_take hb l (o + m) (fun i x hx => by
      have := h (i + 1) x hx
      rwa [Nat.succ_mul, Nat.add_comm (i * m) m, ← Nat.add_assoc] at this)
    rw [Nat.zero_mul, Nat.add_zero] at h0
    rw [List.length_cons, Nat.succ_mul, Nat.add_comm, List.take_add, h0, List.drop_drop, hr, List.flatMap_cons]
theorem seg_of_cells {α : Type} {f : α → List Value} {m : Nat} (hm : 0 < m) (hf : ∀ x, (f x).length = m) {l : List α} {a : Addr} {cap : Nat} (hle : l.length ≤ cap) (h : ∀ i x, l[i]? = some x → w.cells? base (a.add (i * m)) m = some (f x)) :
    Seg (allB w) l.length (l.flatMap f) (some (a, cap)) := by
  refine ⟨hle, fun h0 => ?_⟩
  obtain ⟨y, hy⟩ : ∃ y, l[0]? = some y := ⟨_, List.getElem?_eq_getElem h0⟩
  have h1 := h 0 y hy
  rw [Nat.zero_mul] at h1
  have e0 : a.add 0 = a := by simp [Addr.add]
  rw [e0] at h1
  obtain ⟨hl, hg⟩ := cells_get h1
  have h2 := hg 0 hm
  rw [e0] at h2
  obtain ⟨v, hv⟩ : ∃ v, (f y)[0]? = some v := ⟨_, List.getElem?_eq_getElem (by omega)⟩
  rw [hv] at h2
  obtain ⟨hs, all, e, fr, hb, _⟩ := cell_block h2
  refine ⟨hs, all, e, fr, mem_allB hb, ?_⟩
  rw [cat_len hf]
  refine cat_take (base := base) hb l a.off fun i x hx => ?_
  have := h i x hx
  have e1 : a.add (i * m) = ⟨a.block, a.off + i * m, none⟩ := by
    obtain ⟨b, o, s⟩ := a
    have : s = none := hs
    subst this
    exact add_none _ _ _
  rwa [e1] at this
theorem choose_list {α : Type} {Q : Nat → α → Prop} : ∀ (n : Nat), (∀ i, i < n → ∃ x, Q i x) → ∃ l : List α, l.length = n ∧ ∀ i x, l[i]? = some x → Q i x
  | 0, _ => ⟨[], rfl, fun i x h => by simp at h⟩
  | n + 1, h => by
    obtain ⟨l, hl, hq⟩ := choose_list n (fun i hi => h i (by omega))
    obtain ⟨x, hx⟩ := h n (by omega)
    refine ⟨l ++ [x], by simp [hl], fun i y hy => ?_⟩
    rw [List.getElem?_append] at hy
    split at hy
    · exact hq i y hy
    · rename_i hi
      have hn : i = n := by
        have := (List.getElem?_eq_some_iff.1 hy).1
        simp at this; omega
      subst hn
      rw [hl, Nat.sub_self] at hy
      obtain rfl : x = y := by simpa using hy
      exact hx
/-- A slice is opened. -/
theorem open_row_of {α : Type} {f : α → List Value} {ok : α → Prop} {m t e fuel : Nat} {cs : List Value} {x : DataW H × List MemPlace} (hm : 0 < m) (hf : ∀ x, (f x).length = m) (ht : P.underlying t = some (.slice e)) (hc : P.cellsOf e = m)
    (hE : ∀ n, n < fuel → ∀ cs x, DataW.trod enc P w base sp held n e cs = some x → ∃ y, cs = f y ∧ ok y)
    (h : DataW.trod enc P w base sp held fuel t cs = some x) : ∃ (l : List α) (p : Pl), cs = [plV l.length p] ∧ Seg (allB w) l.length (l.flatMap f) p ∧ l.length ≤ 9223372036854775807 ∧ ∀ y ∈ l, ok y := by
  rcases DataW.trod_slice ht h with ⟨rfl, _⟩ | ⟨a, len, cap, elems, rest, n, hn, rfl, _, _, hlc, hcm, hlen, hel, _⟩
  · exact ⟨[], none, rfl, rfl, by simp, fun y hy => by simp at hy⟩
  · have hex : ∀ i, i < len → ∃ y, w.cells? base (a.add (i * m)) m = some (f y) ∧ ok y := by
      intro i hi
      have h1 := hel i hi
      rw [hc] at h1
      obtain ⟨z, hz⟩ : ∃ z, elems[i]? = some z := ⟨_, List.getElem?_eq_getElem (by omega)⟩
      rw [hz, Option.bind_eq_some_iff] at h1
      obtain ⟨cs1, h2, h3⟩ := h1
      obtain ⟨y, rfl, hy⟩ := hE n (by omega) _ _ h3
      exact ⟨y, h2, hy⟩
    obtain ⟨l, rfl, hq⟩ := choose_list len hex
    have hcap : cap ≤ 9223372036854775807 := by simpa [maxLen] using hcm
    refine ⟨l, some (a, cap), rfl, seg_of_cells hm hf hlc (fun i y hy => (hq i y hy).1), by omega, fun y hy => ?_⟩
    obtain ⟨i, hi, rfl⟩ := List.mem_iff_getElem.1 hy
    exact (hq i _ (List.getElem?_eq_getElem hi)).2
/-- A struct is opened, field by field. -/
theorem trod_field {t tf off m fuel i : Nat} {fs : Array Field} {cs : List Value} {x : DataW H × List MemPlace} (ht : P.underlying t = some (.struct fs)) (hi : (fs[i]?).map (fun f => (f.type, f.offset)) = some (tf, off)) (hm : P.cellsOf tf = m)
    (h : DataW.trod enc P w base sp held fuel t cs = some x) : ∃ n y, n < fuel ∧ DataW.trod enc P w base sp held n tf ((cs.drop off).take m) = some y := by
  obtain ⟨xs, n, rfl, _, _, hl, hg⟩ := DataW.trod_struct ht h
  obtain ⟨f, hf, he⟩ := Option.map_eq_some_iff.1 hi
  obtain ⟨rfl, rfl⟩ := Prod.mk.inj he
  have hi2 : i < xs.length := by rw [hl]; exact (Array.getElem?_eq_some_iff.1 hf).1
  subst hm
  exact ⟨n, xs[i], by omega, by rw [hg i f hf]; exact List.getElem?_eq_getElem hi2⟩
theorem trod_size {t m fuel : Nat} {fs : Array Field} {cs : List Value} {x : DataW H × List MemPlace} (ht : P.underlying t = some (.struct fs)) (hm : P.cellsOf t = m) (h : DataW.trod enc P w base sp held fuel t cs = some x) : cs.length = m := by
  obtain ⟨xs, n, rfl, _, hl, _, _⟩ := DataW.trod_struct ht h
  rw [hl, hm]
theorem trod_i64 {t fuel : Nat} {cs : List Value} {x : DataW H × List MemPlace} (ht : P.underlying t = some (.int .i64)) (h : DataW.trod enc P w base sp held fuel t cs = some x) : ∃ n, cs = [.int .i64 n] ∧ I64 n := by
  obtain ⟨n, rfl, _, hw⟩ := DataW.trod_int ht h
  exact ⟨n, rfl, bounds_i64 hw⟩
/-- An array of four words is opened. -/
theorem trod_w4 {t e fuel : Nat} {cs : List Value} {x : DataW H × List MemPlace} (ht : P.underlying t = some (.array 4 e)) (hc : P.cellsOf t = 4) (he : P.cellsOf e = 1) (hu : P.underlying e = some (.int .u64)) (h : DataW.trod enc P w base sp held fuel t cs = some x) :
    ∃ a b c d : Nat, cs = [uV a, uV b, uV c, uV d] ∧ U64 a ∧ U64 b ∧ U64 c ∧ U64 d := by
  cases fuel with
  | zero => simp [DataW.trod] at h
  | succ fuel =>
    obtain ⟨hl, xs, h1, _⟩ := (trod_arr ht hc he).1 h
    obtain ⟨zs, rfl, _, hz⟩ := mapM_open (V := uV) (D := fun n : Nat => .lit (.int .u64 (n : Int))) (ok := U64) (fun c x hx => by
      obtain ⟨n, h2, h3, h4⟩ := DataW.trod_int hu hx
      have h5 := bounds_u64 h4
      refine ⟨n.toNat, ?_, ?_, by unfold U64; omega⟩
      · rw [List.singleton_inj.1 h2]; unfold uV; congr 1; omega
      · rw [h3]; congr 3; omega) _ _ h1
    rw [List.length_map] at hl
    match zs, hl, hz with
    | [a, b, c, d], _, hz => exact ⟨a, b, c, d, rfl, hz a (by simp), hz b (by simp), hz c (by simp), hz d (by simp)⟩
theorem okWide_vals {t : Nat} {fs : Array Field} {r : Reach} {b0 : Nat} {v : Value} (ht : P.underlying t = some (.struct fs)) (h : Value.okWide P w r b0 t v) {cs : List Value} (hc : v.cells.toList = cs) : v = .agg cs.toArray := by
  obtain ⟨c1, rfl, _⟩ := okWide_struct ht h
  subst hc
  simp [Value.cells]
/-- A type. -/
theorem open_ty {tT tS tI fuel : Nat} {fs : Array Field} (ht : P.underlying tT = some (.struct fs)) (hT : P.cellsOf tT = 3) (h0 : (fs[0]?).map (fun f => (f.type, f.offset)) = some (tI, 0)) (h1 : (fs[1]?).map (fun f => (f.type, f.offset)) = some (tI, 1)) (h2 : (fs[2]?).map (fun f => (f.type, f.offset)) = some (tS, 2))
    (hI : P.underlying tI = some (.int .i64)) (hIc : P.cellsOf tI = 1) (hS : P.underlying tS = some (.slice tT)) (hSc : P.cellsOf tS = 1) :
    ∀ {cs : List Value} {x : DataW H × List MemPlace}, DataW.trod enc P w base sp held fuel tT cs = some x → ∃ T : Ty, cs = T.cells ∧ Ty.In (allB w) T := by
  induction fuel using Nat.strongRecOn with
  | _ fuel ih =>
    intro cs x h
    have hl := trod_size ht hT h
    match cs, hl with
    | [a, b, c], _ =>
      obtain ⟨n0, y0, _, e0⟩ := trod_field ht h0 hIc h
      obtain ⟨n1, y1, _, e1⟩ := trod_field ht h1 hIc h
      obtain ⟨n2, y2, l2, e2⟩ := trod_field ht h2 hSc h
      obtain ⟨k, ek, hk⟩ := trod_i64 hI e0
      obtain ⟨n, en, hn⟩ := trod_i64 hI e1
      obtain ⟨l, p, ep, hs, hlen, hok⟩ := open_row_of (f := Ty.cells) (ok := Ty.In (allB w)) (by decide) Ty.len hS hT (fun m hm cs x hx => ih m (by omega) hx) e2
      obtain rfl : a = .int .i64 k := by simpa using ek
      obtain rfl : b = .int .i64 n := by simpa using en
      obtain rfl : c = plV l.length p := by simpa using ep
      exact ⟨.mk k n p l, rfl, .mk hk hn hlen hs hok⟩
theorem bits_flat : ∀ lb : List Bool, lb.flatMap (fun x : Bool => [Value.bool x]) = bitsC lb
  | [] => rfl
  | b :: l => by rw [List.flatMap_cons, bits_flat l]; rfl
/-- A value. -/
theorem open_vl {tT tS tI tW tB tb tu fuel : Nat} {fs : Array Field} (ht : P.underlying tT = some (.struct fs)) (hT : P.cellsOf tT = 7) (h0 : (fs[0]?).map (fun f => (f.type, f.offset)) = some (tW, 0)) (h1 : (fs[1]?).map (fun f => (f.type, f.offset)) = some (tB, 4)) (h2 : (fs[2]?).map (fun f => (f.type, f.offset)) = some (tS, 5)) (h3 : (fs[3]?).map (fun f => (f.type, f.offset)) = some (tI, 6))
    (hI : P.underlying tI = some (.int .i64)) (hIc : P.cellsOf tI = 1) (hS : P.underlying tS = some (.slice tT)) (hSc : P.cellsOf tS = 1) (hB : P.underlying tB = some (.slice tb)) (hBc : P.cellsOf tB = 1) (hb : P.underlying tb = some .bool) (hbc : P.cellsOf tb = 1)
    (hW : P.underlying tW = some (.array 4 tu)) (hWc : P.cellsOf tW = 4) (hu : P.underlying tu = some (.int .u64)) (huc : P.cellsOf tu = 1) :
    ∀ {cs : List Value} {x : DataW H × List MemPlace}, DataW.trod enc P w base sp held fuel tT cs = some x → ∃ T : Vl, cs = T.cells ∧ Vl.In (allB w) T := by
  induction fuel using Nat.strongRecOn with
  | _ fuel ih =>
    intro cs x h
    have hl := trod_size ht hT h
    match cs, hl with
    | [a0, a1, a2, a3, b, c, d], _ =>
      obtain ⟨n0, y0, _, e0⟩ := trod_field ht h0 hWc h
      obtain ⟨n1, y1, _, e1⟩ := trod_field ht h1 hBc h
      obtain ⟨n2, y2, l2, e2⟩ := trod_field ht h2 hSc h
      obtain ⟨n3, y3, _, e3⟩ := trod_field ht h3 hIc h
      obtain ⟨w0, w1, w2, w3, ew, k0, k1, k2, k3⟩ := trod_w4 hW hWc huc hu e0
      obtain ⟨lb, pb, eb, hsb, hlb, _⟩ := open_row_of (f := fun x : Bool => [Value.bool x]) (ok := fun _ => True) (by decide) (fun _ => rfl) hB hbc (fun m hm cs x hx => by
        obtain ⟨z, rfl, _⟩ := DataW.trod_bool hb hx
        exact ⟨z, rfl, trivial⟩) e1
      obtain ⟨l, p, ep, hs, hlen, hok⟩ := open_row_of (f := Vl.cells) (ok := Vl.In (allB w)) (by decide) Vl.len hS hT (fun m hm cs x hx => ih m (by omega) hx) e2
      obtain ⟨n, en, hn⟩ := trod_i64 hI e3
      obtain ⟨rfl, rfl, rfl, rfl⟩ : a0 = uV w0 ∧ a1 = uV w1 ∧ a2 = uV w2 ∧ a3 = uV w3 := by simpa using ew
      obtain rfl : b = plV lb.length pb := by simpa using eb
      obtain rfl : c = plV l.length p := by simpa using ep
      obtain rfl : d = .int .i64 n := by simpa using en
      refine ⟨.mk w0 w1 w2 w3 lb pb l p n, rfl, .mk k0 k1 k2 k3 hlb ?_ hlen hs hn hok⟩
      have e : lb.flatMap (fun x : Bool => [Value.bool x]) = bitsC lb := bits_flat lb
      rwa [e] at hsb
theorem open_tyA {r : Reach} {b0 tT tS tI : Nat} {fs : Array Field} {v : Value} {d : DataW H} {ps : List MemPlace} (ht : P.underlying tT = some (.struct fs)) (hT : P.cellsOf tT = 3) (h0 : (fs[0]?).map (fun f => (f.type, f.offset)) = some (tI, 0)) (h1 : (fs[1]?).map (fun f => (f.type, f.offset)) = some (tI, 1)) (h2 : (fs[2]?).map (fun f => (f.type, f.offset)) = some (tS, 2))
    (hI : P.underlying tI = some (.int .i64)) (hIc : P.cellsOf tI = 1) (hS : P.underlying tS = some (.slice tT)) (hSc : P.cellsOf tS = 1) (hval : Value.okWide P w r b0 tT v) (hd : DataW.Trod enc P w base sp held tT v d ps) : ∃ T : Ty, v = T.val ∧ Ty.In (allB w) T := by
  obtain ⟨fuel, hf⟩ := hd
  obtain ⟨T, e, hin⟩ := open_ty ht hT h0 h1 h2 hI hIc hS hSc hf
  exact ⟨T, okWide_vals ht hval e, hin⟩
theorem open_vlA {r : Reach} {b0 tT tS tI tW tB tb tu : Nat} {fs : Array Field} {v : Value} {d : DataW H} {ps : List MemPlace} (ht : P.underlying tT = some (.struct fs)) (hT : P.cellsOf tT = 7) (h0 : (fs[0]?).map (fun f => (f.type, f.offset)) = some (tW, 0)) (h1 : (fs[1]?).map (fun f => (f.type, f.offset)) = some (tB, 4)) (h2 : (fs[2]?).map (fun f => (f.type, f.offset)) = some (tS, 5)) (h3 : (fs[3]?).map (fun f => (f.type, f.offset)) = some (tI, 6))
    (hI : P.underlying tI = some (.int .i64)) (hIc : P.cellsOf tI = 1) (hS : P.underlying tS = some (.slice tT)) (hSc : P.cellsOf tS = 1) (hB : P.underlying tB = some (.slice tb)) (hBc : P.cellsOf tB = 1) (hb : P.underlying tb = some .bool) (hbc : P.cellsOf tb = 1)
    (hW : P.underlying tW = some (.array 4 tu)) (hWc : P.cellsOf tW = 4) (hu : P.underlying tu = some (.int .u64)) (huc : P.cellsOf tu = 1) (hval : Value.okWide P w r b0 tT v) (hd : DataW.Trod enc P w base sp held tT v d ps) : ∃ T : Vl, v = T.val ∧ Vl.In (allB w) T := by
  obtain ⟨fuel, hf⟩ := hd
  obtain ⟨T, e, hin⟩ := open_vl ht hT h0 h1 h2 h3 hI hIc hS hSc hB hBc hb hbc hW hWc hu huc hf
  exact ⟨T, okWide_vals ht hval e, hin⟩
end
end Go.SL
/-! ### Records, accounts and states in the heap -/
namespace Go.SL
set_option linter.all false
open Go Go.RowKit Go.Shelf Go.ChangeShapes Go.WideShapes
open Go.Proofs (Enters enters_of)
abbrev strV (s : BS) : Value := .string (bs s)
structure W4.ok (w : W4) : Prop where
  a : U64 w.a
  b : U64 w.b
  c : U64 w.c
  d : U64 w.d
theorem W4.ok.wok {w : W4} (h : w.ok) : WOk w.l := ⟨rfl, fun x hx => by
  unfold W4.l at hx
  simp only [List.mem_cons, List.not_mem_nil, or_false] at hx
  rcases hx with rfl | rfl | rfl | rfl
  · exact h.a
  · exact h.b
  · exact h.c
  · exact h.d⟩
theorem u64_0 : U64 0 := by unfold U64; decide
/-! Records -/
structure Rec : Type where
  number : Nat
  time : Nat
  base : W4
  blob : W4
  overhead : W4
  scalar : Nat
  extra : Nat
  operator : Nat
deriving DecidableEq
def rec0 : Rec := ⟨0, 0, w40, w40, w40, 0, 0, 0⟩
def Rec.nats (r : Rec) : List Nat := [r.number, r.time, r.base.a, r.base.b, r.base.c, r.base.d, r.blob.a, r.blob.b, r.blob.c, r.blob.d, r.overhead.a, r.overhead.b, r.overhead.c, r.overhead.d, r.scalar, r.extra, r.operator]
def Rec.cells (r : Rec) : List Value := r.nats.map uV
def Rec.val (r : Rec) : Value := .agg r.cells.toArray
theorem Rec.len (r : Rec) : r.cells.length = 17 := rfl
theorem Rec.one (r : Rec) : r.cells.all oneB = true := rfl
structure Rec.ok (r : Rec) : Prop where
  number : U64 r.number
  time : U64 r.time
  base : r.base.ok
  blob : r.blob.ok
  overhead : r.overhead.ok
  scalar : U64 r.scalar
  extra : U64 r.extra
  operator : U64 r.operator
/-! Slots, accounts, states -/
def slC (x : BS × BS) : List Value := [strV x.1, strV x.2]
def slsC (l : List (BS × BS)) : List Value := l.flatMap slC
abbrev maxS : Nat := 9223372036854775807
structure AcL : Type where
  addr : BS
  nonce : Nat
  bal : W4
  code : BS
  slots : List (BS × BS)
  p : Pl
def AcL.cells (a : AcL) : List Value := [strV a.addr, uV a.nonce, uV a.bal.a, uV a.bal.b, uV a.bal.c, uV a.bal.d, strV a.code, plV a.slots.length a.p]
def AcL.val (a : AcL) : Value := .agg a.cells.toArray
def AcL.er (a : AcL) : AcE := ⟨a.addr, a.nonce, a.bal, a.code, a.slots⟩
theorem AcL.len (a : AcL) : a.cells.length = 8 := rfl
theorem AcL.one (a : AcL) : a.cells.all oneB = true := rfl
structure AcL.In (R : List (Nat × Obj)) (a : AcL) : Prop where
  addr : a.addr.length ≤ maxS
  nonce : U64 a.nonce
  bal : a.bal.ok
  code : a.code.length ≤ maxS
  len : a.slots.length ≤ maxS
  seg : Seg R a.slots.length (slsC a.slots) a.p
  slots : ∀ x ∈ a.slots, x.1.length ≤ maxS ∧ x.2.length ≤ maxS
theorem AcL.In.mono {R R' : List (Nat × Obj)} {a : AcL} (h : a.In R) (hs : ∀ q ∈ R, q ∈ R') : a.In R' := ⟨h.addr, h.nonce, h.bal, h.code, h.len, h.seg.mono hs, h.slots⟩
def acsC (l : List AcL) : List Value := l.flatMap AcL.cells
structure StL : Type where
  accts : List AcL
  p : Pl
def StL.cells (s : StL) : List Value := [plV s.accts.length s.p]
def StL.val (s : StL) : Value := .agg s.cells.toArray
def StL.er (s : StL) : List AcE := s.accts.map AcL.er
structure StL.In (R : List (Nat × Obj)) (s : StL) : Prop where
  len : s.accts.length ≤ maxS
  seg : Seg R s.accts.length (acsC s.accts) s.p
  accts : ∀ a ∈ s.accts, a.In R
theorem StL.In.mono {R R' : List (Nat × Obj)} {s : StL} (h : s.In R) (hs : ∀ q ∈ R, q ∈ R') : s.In R' := ⟨h.len, h.seg.mono hs, fun a ha => (h.accts a ha).mono hs⟩
section
variable {c : Cx} {l : List (Nat × Value)} {L : List (Nat × Obj)} {X : XP} {d : List Deferred} {i : Nat} {t : TypeId} {ps : String} {af : Array Edge} {gd : Option (Nat × Bool)} {ty : TypeId}
end
/-! ### The arguments of a law -/
section
variable {H : Type} {enc : TypeId × Value → H} {P : Program} {w : World} {base : Nat} {sp : Nat → Bool} {held : Bool}
end
end Go.SL
/-! ### Layouts in plain Lean -/
namespace Go.SL
set_option linter.all false
open Go Go.RowKit Go.Shelf
theorem be_unf {l : List Nat} (hl : WOk l) : unfW (beD l 32) = l := by
  have : unfW (beD l 32) = stW (dg l) 32 := stW_congr fun i hi => by
    have h := beD_get l (n := 32) (m := 31 - i) (by omega)
    have e : 32 - 1 - (31 - i) = i := by omega
    rw [e] at h
    rw [List.getD_eq_getElem?_getD, h, Option.getD_some, UInt8.toNat_ofNat', Nat.mod_eq_of_lt (dg_lt l i)]
  rw [this, st_dg hl]
def bW (w : W4) : BS := beD w.l 32
def uW (s : BS) : W4 := W4.of (unfR s).1
theorem unfR_wok (s : BS) : WOk (unfR s).1 := by
  unfold unfR; split
  · exact unfW_ok _
  · exact zW_ok
theorem uW_l (s : BS) : (uW s).l = (unfR s).1 := W4.of_l (unfR_wok s).1
theorem uW_b {w : W4} (h : w.ok) : uW (bW w) = w := by
  apply W4.l_inj
  rw [uW_l]
  unfold unfR bW
  rw [if_pos (beD_len _ _)]
  exact be_unf h.wok
def wN1 (n : Nat) : W4 := ⟨n, 0, 0, 0⟩
def keyE (n : Nat) : BS := bW (wN1 n)
/-! the table -/
def keyN : Nat → Nat
  | 0 => 0
  | 1 => 1
  | 2 => 5
  | 3 => 6
  | 4 => 3
  | 5 => 7
  | _ => 8
def hasE (f : Int) : Nat → Bool
  | 0 => true
  | 1 => true
  | 2 => decide (f ≤ 2)
  | 3 => decide (f ≤ 2)
  | 4 => decide (f ≥ 3)
  | 5 => decide (f ≥ 3)
  | _ => decide (f = 5)
def holdsE (r : Rec) : Nat → W4
  | 0 => ⟨r.number, r.time, 0, 0⟩
  | 1 => r.base
  | 2 => r.overhead
  | 3 => ⟨r.scalar, 0, 0, 0⟩
  | 4 => ⟨r.scalar, r.extra, 0, 0⟩
  | 5 => r.blob
  | _ => ⟨r.operator, 0, 0, 0⟩
def takeE (r : Rec) (w : W4) : Nat → Rec
  | 0 => { r with number := w.a, time := w.b }
  | 1 => { r with base := w }
  | 2 => { r with overhead := w }
  | 3 => { r with scalar := w.a }
  | 4 => { r with scalar := w.a, extra := w.b }
  | 5 => { r with blob := w }
  | _ => { r with operator := w.a }
theorem holds_ok {r : Rec} (h : r.ok) (i : Nat) : (holdsE r i).ok := by
  unfold holdsE
  split
  · exact ⟨h.number, h.time, u64_0, u64_0⟩
  · exact h.base
  · exact h.overhead
  · exact ⟨h.scalar, u64_0, u64_0, u64_0⟩
  · exact ⟨h.scalar, h.extra, u64_0, u64_0⟩
  · exact h.blob
  · exact ⟨h.operator, u64_0, u64_0, u64_0⟩
def foldE (f : Int) (g : Nat → W4) : List Nat → Rec → Rec
  | [], out => out
  | i :: l, out => foldE f g l (if hasE f i then takeE out (g i) i else out)
def tab : List Nat := [0, 1, 2, 3, 4, 5, 6]
def keptE (f : Int) (r : Rec) : Rec := foldE f (holdsE r) tab rec0
def readE (f : Int) (a : AcE) : Rec := foldE f (fun i => uW (slotE a (keyE (keyN i)))) tab rec0
def Forked (f : Int) : Prop := 0 ≤ f ∧ f ≤ 5
instance (f : Int) : Decidable (Forked f) := inferInstanceAs (Decidable (_ ∧ _))
theorem forked_cases {f : Int} (h : Forked f) : f = 0 ∨ f = 1 ∨ f = 2 ∨ f = 3 ∨ f = 4 ∨ f = 5 := by unfold Forked at h; omega
def fitsB (f : Int) (r : Rec) : Bool := !((decide (f ≥ 3) && decide (r.overhead ≠ w40)) || (decide (f < 3) && (decide (r.extra ≠ 0) || decide (r.blob ≠ w40))) || (decide (f < 5) && decide (r.operator ≠ 0)))
theorem kept_iff {f : Int} {r : Rec} (h : Forked f) : keptE f r = r ↔ fitsB f r = true := by
  obtain ⟨n, t, b, l, o, s, e, p⟩ := r
  rcases forked_cases h with rfl | rfl | rfl | rfl | rfl | rfl <;>
    (simp [keptE, foldE, tab, hasE, takeE, holdsE, fitsB, rec0]; try (constructor <;> (intro h; simp_all <;> omega)))
/-! codes, addresses -/
def addrE (which : Int) : BS := if which < 0 ∨ which > 1 then [] else 66 :: (List.replicate 18 0 ++ [UInt8.ofNat (1 + which).toNat])
def cOne : BS := [111, 110, 101]
def cTwo : BS := [116, 119, 111]
def cThree : BS := [116, 104, 114, 101, 101]
def cFive : BS := [102, 105, 118, 101]
def cFee : BS := [102, 101, 101]
def codeE (f which : Int) : BS × Bool := if which = 1 then (if f ≥ 2 then (cFee, true) else ([], false)) else if f = 0 then (cOne, true) else if f ≤ 2 then (cTwo, true) else if f ≤ 4 then (cThree, true) else (cFive, true)
def A0 : BS := addrE 0
def A1 : BS := addrE 1
/-! ### Setting -/
theorem with_sorted {l : List (BS × BS)} {k v : BS} (h : Sorted Prod.fst l) : Sorted Prod.fst (withE l k v) := by
  unfold withE; split
  · exact del_sorted h
  · exact ins_sorted h
theorem with_look {l : List (BS × BS)} {k v j : BS} (h : Sorted Prod.fst l) : lookL Prod.fst j (withE l k v) = if k = j then (if v = noneB then none else some (k, v)) else lookL Prod.fst j l := by
  unfold withE
  by_cases hv : v = noneB
  · rw [if_pos hv, if_pos hv, del_look]
  · rw [if_neg hv, if_neg hv, ins_look h]
theorem with_mem {l : List (BS × BS)} {k v : BS} {x : BS × BS} (h : x ∈ withE l k v) : (x = (k, v) ∧ v ≠ noneB) ∨ x ∈ l := by
  unfold withE at h
  split at h
  · exact .inr (del_mem h)
  · rename_i hv; exact (ins_mem h).imp (fun h => ⟨h, hv⟩) id
theorem set_of {a : AcE} {k v : BS} (h1 : lkE a = 0) (h2 : k.length = 32) (h3 : v.length = 32) (h4 : (withE a.slots k v).length ≤ 16) : setE a k v = ({ a with slots := withE a.slots k v }, 0) := by
  unfold setE
  rw [if_neg (by omega), if_neg (by omega), if_neg (by omega)]
theorem with_lk {a : AcE} {k v : BS} (h1 : lkE a = 0) (h2 : k.length = 32) (h3 : v.length = 32) (h4 : (withE a.slots k v).length ≤ 16) : lkE { a with slots := withE a.slots k v } = 0 := by
  obtain ⟨g1, g2, g3, g4, g5⟩ := look_ok h1
  refine look_of g1 (fun x hx => ?_) (with_sorted g3) g4 h4
  rcases with_mem hx with ⟨rfl, hv⟩ | hx
  · exact ⟨h2, h3, hv⟩
  · exact g2 x hx
theorem slot_with {a : AcE} {k v j : BS} (h : Sorted Prod.fst a.slots) : slotE { a with slots := withE a.slots k v } j = if k = j then v else slotE a j := by
  unfold slotE
  simp only
  rw [with_look h]
  by_cases hk : k = j
  · rw [if_pos hk, if_pos hk]
    by_cases hv : v = noneB
    · rw [if_pos hv]; exact hv.symm
    · rw [if_neg hv]
  · rw [if_neg hk, if_neg hk]
def setRows : AcE → List (BS × BS) → AcE × Int
  | a, [] => (a, 0)
  | a, x :: l => if (setE a x.1 x.2).2 ≠ 0 then setE a x.1 x.2 else setRows (setE a x.1 x.2).1 l
structure RowsOk (a b : AcE) (l : List (BS × BS)) : Prop where
  lk : lkE b = 0
  addr : b.addr = a.addr
  nonce : b.nonce = a.nonce
  bal : b.bal = a.bal
  code : b.code = a.code
  at_ : ∀ x ∈ l, slotE b x.1 = x.2
  off : ∀ k, (∀ x ∈ l, x.1 ≠ k) → slotE b k = slotE a k
theorem slot_mem {a : AcE} (h : lkE a = 0) {x : BS × BS} (hx : x ∈ a.slots) : slotE a x.1 = x.2 ∧ x.2 ≠ noneB := by
  obtain ⟨_, g2, g3, _⟩ := look_ok h
  unfold slotE
  rw [lookL_mem g3 hx]
  exact ⟨rfl, (g2 x hx).2.2⟩
theorem mem_slot {a : AcE} {k : BS} (h : slotE a k ≠ noneB) : (k, slotE a k) ∈ a.slots := by
  unfold slotE at h ⊢
  cases hl : lookL Prod.fst k a.slots with
  | none => rw [hl] at h; exact absurd rfl h
  | some x =>
    obtain ⟨h1, h2⟩ := lookL_key hl
    simp only
    rw [← h1]; exact h2
theorem sub_len {α : Type} {kf : α → BS} : ∀ {m l : List α}, Sorted kf m → Sorted kf l → (∀ y ∈ l, y ∈ m) → l.length ≤ m.length
  | [], [], _, _, _ => Nat.le_refl _
  | [], y :: l, _, _, h => absurd (h y List.mem_cons_self) (by simp)
  | z :: m, [], _, _, _ => Nat.zero_le _
  | z :: m, y :: l, hm, hl, h => by
    obtain ⟨m1, m2⟩ := List.pairwise_cons.1 hm
    obtain ⟨l1, l2⟩ := List.pairwise_cons.1 hl
    rcases List.mem_cons.1 (h y List.mem_cons_self) with e | hy
    · rw [e] at l1
      have := sub_len (m := m) (l := l) m2 l2 fun x hx => by
        rcases List.mem_cons.1 (h x (List.mem_cons_of_mem _ hx)) with rfl | hx2
        · have := l1 _ hx; rw [bl_irr] at this; cases this
        · exact hx2
      simp only [List.length_cons]; omega
    · have := sub_len (m := m) (l := y :: l) m2 hl fun x hx => by
        rcases List.mem_cons.1 (h x hx) with rfl | hx2
        · have a1 := m1 y hy
          rcases List.mem_cons.1 hx with rfl | hx3
          · rw [bl_irr] at a1; cases a1
          · have := bl_trans a1 (l1 _ hx3); rw [bl_irr] at this; cases this
        · exact hx2
      simp only [List.length_cons] at this ⊢; omega
/-- What stands, or will stand, may be set. -/
theorem fill {a : AcE} (ha : lkE a = 0) : ∀ (l : List (BS × BS)) (x : AcE), lkE x = 0 → (∀ k, slotE x k = slotE a k ∨ slotE x k = noneB) → (∀ p ∈ l, p.1.length = 32 ∧ p.2.length = 32 ∧ (p.2 = slotE a p.1 ∨ p.2 = noneB)) → (setRows x l).2 = 0
  | [], _, _, _, _ => rfl
  | p :: l, x, hx, hs, hp => by
    obtain ⟨p1, p2, p3⟩ := hp p List.mem_cons_self
    have hsx := (look_ok hx).2.2.1
    have hlen : (withE x.slots p.1 p.2).length ≤ 16 := by
      refine Nat.le_trans (sub_len (kf := Prod.fst) (look_ok ha).2.2.1 (with_sorted hsx) fun y hy => ?_) (look_ok ha).2.2.2.2
      have hne : y.2 ≠ noneB ∧ y.2 = slotE a y.1 := by
        rcases with_mem hy with ⟨rfl, hv⟩ | hy
        · exact ⟨hv, p3.resolve_right hv⟩
        · obtain ⟨e1, e2⟩ := slot_mem hx hy
          refine ⟨e2, ?_⟩
          rcases hs y.1 with h | h
          · rw [← e1, h]
          · rw [← e1] at e2; exact absurd h e2
      have h3 := mem_slot (a := a) (k := y.1) (by rw [← hne.2]; exact hne.1)
      rw [← hne.2] at h3
      exact h3
    unfold setRows
    rw [set_of hx p1 p2 hlen, if_neg (by simp)]
    refine fill ha l _ (with_lk hx p1 p2 hlen) (fun k => ?_) fun q hq => hp q (List.mem_cons_of_mem _ hq)
    rw [slot_with hsx]
    split
    · rename_i e; subst e; exact p3
    · exact hs k
theorem find_ok {s : List AcE} (hs : chkS s = 0) {k : BS} {a : AcE} (h : findS s k = some a) : a.addr = k ∧ lkE a = 0 := by
  obtain ⟨h1, h2⟩ := lookL_key h
  exact ⟨h1, (chk_ok.1 hs).2.1 a h2⟩
/-! ### Writing, reading, what is left -/
def rowW (f : Int) (r : Rec) (i : Nat) : BS × BS := (keyE (keyN i), if hasE f i then bW (holdsE r i) else noneB)
def Tabled (k : BS) : Prop := ∃ i ∈ tab, keyE (keyN i) = k
def oldE (t : List AcE) (which : Int) : AcE := { (findS t (addrE which)).getD ac0 with addr := addrE which }
theorem old_some {s : List AcE} (hs : chkS s = 0) {w : Int} {a : AcE} (h : findS s (addrE w) = some a) : oldE s w = a := by
  unfold oldE
  rw [h]
  obtain ⟨h1, _⟩ := find_ok hs h
  cases a
  simp only at h1
  simp [h1]
structure Wrote (f : Int) (s t : List AcE) (r : Rec) : Prop where
  forked : Forked f
  fits : fitsB f r = true
  old : chkS s = 0
  new : chkS t = 0
  acct : ∃ b0, findS t A0 = some b0 ∧ lkE b0 = 0 ∧ b0.addr = A0 ∧ b0.nonce = (oldE s 0).nonce ∧ b0.bal = (oldE s 0).bal ∧ b0.code = (codeE f 0).1 ∧ (∀ i ∈ tab, slotE b0 (keyE (keyN i)) = (rowW f r i).2) ∧ ∀ k, ¬ Tabled k → slotE b0 k = slotE (oldE s 0) k
  others : ∀ k, k ≠ A0 → k ≠ A1 → findS t k = findS s k
  fee : if (codeE f 1).2 = true then findS t A1 = some { oldE s 1 with code := (codeE f 1).1 } else findS t A1 = findS s A1
end Go.SL
/-! ### The laws of layouts and of migrations, in plain Lean -/
namespace Go.SL
set_option linter.all false
open Go Go.RowKit Go.Shelf
def acct0 (s : List AcE) (k : BS) : AcE := (findS s k).getD ac0
theorem fold_congr {f : Int} {g g' : Nat → W4} : ∀ {l : List Nat} {out : Rec}, (∀ i ∈ l, hasE f i = true → g i = g' i) → foldE f g l out = foldE f g' l out
  | [], _, _ => rfl
  | i :: l, out, h => by
    unfold foldE
    have e : (if hasE f i then takeE out (g i) i else out) = if hasE f i then takeE out (g' i) i else out := by
      by_cases hi : hasE f i = true
      · rw [if_pos hi, if_pos hi, h i List.mem_cons_self hi]
      · rw [if_neg hi, if_neg hi]
    rw [e]
    exact fold_congr fun j hj => h j (List.mem_cons_of_mem _ hj)
theorem read_back {f : Int} {a : AcE} {r : Rec} (hf : Forked f) (hr : r.ok) (hb : fitsB f r = true) (h : ∀ i ∈ tab, slotE a (keyE (keyN i)) = (rowW f r i).2) : readE f a = r := by
  have e : readE f a = keptE f r := fold_congr fun i hi hh => by
    rw [h i hi]
    unfold rowW
    simp only
    rw [if_pos hh]
    exact uW_b (holds_ok hr i)
  rw [e]
  exact (kept_iff hf).2 hb
structure Checked (f : Int) (s : List AcE) (a : AcE) : Prop where
  forked : Forked f
  st : chkS s = 0
  at0 : findS s A0 = some a
  code : a.code = (codeE f 0).1
  rows : ∀ i ∈ tab, slotE a (keyE (keyN i)) = (rowW f (readE f a) i).2
  fee : (codeE f 1).2 = true → ∃ b, findS s A1 = some b ∧ b.code = (codeE f 1).1
/-- WHAT IS WRITTEN IS READ. -/
theorem Wrote.checked {f : Int} {s t : List AcE} {r : Rec} (h : Wrote f s t r) (hr : r.ok) : ∃ a, Checked f t a ∧ readE f a = r := by
  obtain ⟨h1, h2, h3, h4, ⟨b0, c1, c2, c3, c4, c5, c6, c7, c8⟩, h6, h7⟩ := h
  have e := read_back h1 hr h2 c7
  refine ⟨b0, ⟨h1, h4, c1, c6, by rw [e]; exact c7, fun hf => ?_⟩, e⟩
  rw [if_pos hf] at h7
  exact ⟨_, h7, rfl⟩
theorem Checked.lk {f : Int} {s : List AcE} {a : AcE} (h : Checked f s a) : lkE a = 0 := (find_ok h.st h.at0).2
theorem Checked.addr {f : Int} {s : List AcE} {a : AcE} (h : Checked f s a) : a.addr = A0 := (find_ok h.st h.at0).1
theorem Checked.old {f : Int} {s : List AcE} {a : AcE} (h : Checked f s a) : oldE s 0 = a := old_some h.st h.at0
/-- What stays. -/
structure Kept (s t : List AcE) : Prop where
  others : ∀ k, k ≠ A0 → k ≠ A1 → findS t k = findS s k
  there : ∀ k, (findS s k).isSome = true → (findS t k).isSome = true
  nonce : ∀ k, (acct0 t k).nonce = (acct0 s k).nonce
  bal : ∀ k, (acct0 t k).bal = (acct0 s k).bal
  slot : ∀ k j, (k = A0 → ¬ Tabled j) → slotE (acct0 t k) j = slotE (acct0 s k) j
theorem Kept.refl (s : List AcE) : Kept s s := ⟨fun _ _ _ => rfl, fun _ h => h, fun _ => rfl, fun _ => rfl, fun _ _ _ => rfl⟩
theorem Kept.trans {s t u : List AcE} (h : Kept s t) (k : Kept t u) : Kept s u :=
  ⟨fun x a b => (k.others x a b).trans (h.others x a b), fun x hx => k.there x (h.there x hx), fun x => (k.nonce x).trans (h.nonce x), fun x => (k.bal x).trans (h.bal x), fun x j hj => (k.slot x j hj).trans (h.slot x j hj)⟩
def Way (f g : Int) : Prop := 0 ≤ f ∧ f ≤ g ∧ g ≤ 5
instance (f g : Int) : Decidable (Way f g) := inferInstanceAs (Decidable (_ ∧ _))
end Go.SL
/-! ### Rules for rows of structs: parts of known rows, clones; places in rows that rise -/
namespace Go.SL
set_option linter.all false
open Go Go.RowKit Go.Shelf
open Go.Proofs (Enters enters_of)
def plS (sz a : Nat) : Pl → Pl
  | none => none
  | some (⟨b, o, s⟩, cap) => some (⟨b, if cap = a then o else o + a * sz, s⟩, cap - a)
theorem Seg.slice {R : List (Nat × Obj)} {n sz a b : Nat} {cs : List Value} {p : Pl} (h : Seg R n cs p) (hl : cs.length = n * sz) (hab : a < b) (hb : b ≤ n) : Seg R (b - a) ((cs.drop (a * sz)).take ((b - a) * sz)) (plS sz a p) := by
  cases p with
  | none => have h : n = 0 := h; omega
  | some q =>
    obtain ⟨⟨r, o, s⟩, cap⟩ := q
    obtain ⟨h1, h2⟩ := h
    obtain ⟨h3, all, e, fr, h4, h5⟩ := h2 (by omega)
    have hne : ¬ cap = a := by omega
    simp only [plS, if_neg hne]
    have hlen : ((cs.drop (a * sz)).take ((b - a) * sz)).length = (b - a) * sz := by
      rw [List.length_take, List.length_drop, hl, ← Nat.sub_mul]
      exact Nat.min_eq_left (Nat.mul_le_mul_right _ (by omega))
    refine ⟨by omega, fun _ => ⟨h3, all, e, fr, h4, ?_⟩⟩
    rw [hlen]
    exact take_sub h5 rfl hlen
section
variable {c : Cx} {l : List (Nat × Value)} {L : List (Nat × Obj)} {X : XP} {Q : Exit → Act → World → Prop} {d : List Deferred}
variable {ops : Array Oper} {rest : List Oper} {i : Nat} {v : Value} {t : TypeId} {ps : String} {af : Array Edge} {gd : Option (Nat × Bool)} {ty t2 : TypeId}
/-- 'append(s)' of nothing. -/
theorem HL_append0 {x y : Operand} {e sz n cap : Nat} {a : Option Addr} {r2 : Option Addr} {c2 : Nat} (hg : goes l ops ⟨some i, .call ⟨.builtin .append, #[x, y], #[t, t]⟩, ty, ps, af, gd⟩ = some true) (hi : Nat.ble (i + 1) c.n = true)
    (hx : evl l x = some (.slice a n cap)) (hy : evl l y = some (.slice r2 0 c2)) (ht : sliceOf c.P t = some e) (hs : szOf c.P e = some sz) (hle : n ≤ cap)
    (h : HL c d ((i, .slice a n cap) :: l) L X ops rest Q) : HL c d l L X ops (⟨some i, .call ⟨.builtin .append, #[x, y], #[t, t]⟩, ty, ps, af, gd⟩ :: rest) Q := by
  obtain ⟨inf, hinf, hs'⟩ : ∃ inf, c.P.info? e = some inf ∧ inf.size = sz := by
    unfold szOf at hs
    cases hq : c.P.info? e with
    | none => simp [hq] at hs
    | some inf => simp only [hq, Option.some.injEq] at hs; exact ⟨inf, rfl, hs⟩
  refine HL_r hg rfl rfl hi (fun a' w hf _ => ?_) h
  have ex := hf.eval hx
  have ey := hf.eval hy
  have hl : ∀ (q : Addr), (loadCells q 0).run c.P w = .ok #[] w := fun q => by simpa using run_loadCells_list (P := c.P) w q [] (by simp)
  cases r2 <;> cases a <;> simp [execOp, resolve, Sem.run_bind, ex, ey, Result.andThen, invoke, builtin, Builtin.append_, run_und (und_slice ht), sizeOf, typeInfo, hinf, Builtin.lenOf, hle, Builtin.firstCells, hl, storeCells]
/-- 'S{}'. -/
theorem HL_buildSlice0 {e sz : Nat} (hg : goes l ops ⟨some i, .buildSlice t 0 #[], ty, ps, af, gd⟩ = some true) (hi : Nat.ble (i + 1) c.n = true) (ht : sliceOf c.P t = some e) (hs : szOf c.P e = some sz)
    (h : ∀ q, HL c d ((i, .slice (some ⟨q, 0, none⟩) 0 0) :: l) ((q, .cells #[] e (0, 0)) :: L) X ops rest Q) : HL c d l L X ops (⟨some i, .buildSlice t 0 #[], ty, ps, af, gd⟩ :: rest) Q := by
  refine HL_runE (V := fun q => .slice (some ⟨q, 0, none⟩) 0 0) (L' := fun q => (q, .cells #[] e (0, 0)) :: L) (X' := fun _ => X) hg rfl rfl hi (fun a w hfr hst => ⟨w.heap.size, w.alloc (.cells #[] e), ?_, hst.alloc _⟩) h
  simp [execOp, Instr.buildSlice, Sem.run_bind, run_und (und_slice ht), run_sz hs, Result.andThen, Instr.fill, newRow]
  rw [show Array.range 0 = (#[] : Array Nat) from by decide]
  simp
/-- 'append(S{}, s...)'. -/
theorem HL_clone {x y : Operand} {k r e sz b n : Nat} {z : Value} {q : Addr × Nat} {cs : List Value} {R L0 : List (Nat × Obj)}
    (hg : goes l ops ⟨some i, .call ⟨.builtin .append, #[x, y], #[t, t]⟩, ty, ps, af, gd⟩ = some true) (hi : Nat.ble (i + 1) c.n = true) (hx : evl l x = some (.slice (some ⟨r, 0, none⟩) 0 0)) (hk : L[k]? = some (r, .cells #[] e (0, 0))) (hL : L.eraseIdx k = L0)
    (hy : evl l y = some (plV n (some q))) (hs : Seg R n cs (some q)) (hR : ∀ q ∈ R, known c L q.1 q.2) (ht : sliceOf c.P t = some e) (hz : zeroOf c.P e = some z) (hsz : szOf c.P e = some sz) (hb : byOf c.P e = some b) (hzs : z.cells.size = sz) (h0 : 0 < sz)
    (hcs : cs.length = n * sz) (hone : cs.all oneB = true) (h63 : n ≤ 9223372036854775807) (h47 : n * b ≤ 140737488355328)
    (h : ∀ row, rowOk sz n cs row → HL c d ((i, rowV n row) :: l) (rowL e cs row ++ L0) X ops rest Q) : HL c d l L X ops (⟨some i, .call ⟨.builtin .append, #[x, y], #[t, t]⟩, ty, ps, af, gd⟩ :: rest) Q := by
  obtain ⟨⟨r2, o2, s2⟩, cap⟩ := q
  obtain ⟨hs1, hs2⟩ := hs
  by_cases hn : n = 0
  · subst hn
    have hc0 : cs = [] := List.length_eq_zero_iff.1 (by rw [hcs, Nat.zero_mul])
    subst hc0
    refine HL_append0 hg hi hx hy ht hsz (Nat.le_refl _) ?_
    refine HL_perm ?_ (h (some (r, 0, [])) ⟨by simp, by simp⟩)
    have h1 := (List.getElem?_eq_some_iff.1 hk)
    have := set_perm h1.1 (r, Obj.cells #[] e (0, 0))
    rw [hL, ← h1.2, List.set_getElem_self, h1.2] at this
    exact this
  · obtain ⟨h3, all, e', fr, h4, h5⟩ := hs2 (by omega)
    have h3 : s2 = none := h3
    subst h3
    rw [hcs] at h5
    refine HL_append hg hi hx hy (hR _ h4) ht hz hsz hb hzs h0 h5 hcs hone (by omega) (SlOwn.own (n := 0) (cap := 0) (xs := []) hk (by simp) (by simp) (by simp) hL) (by omega) (by rw [Nat.zero_add]; exact h47) fun r' cap' spare hsp => ?_
    have := h (some (r', cap', spare)) ⟨hcs, by rw [Nat.zero_add] at hsp; exact hsp⟩
    simpa [rowV, rowL] using this
end
section
variable {α : Type} {kf : α → BS}
end
def fV (f : FuncId) : Value := .func (.func f) #[] #[]
theorem Pure.toR {P : Program} {f : FuncId} {args : Array Value} {v : Value} {R : List (Nat × Obj)} (h : Pure P f args v) : PureR P f args v R := ⟨fun w _ => h.run w⟩
theorem PureR.mono {P : Program} {f : FuncId} {args : Array Value} {v : Value} {R R' : List (Nat × Obj)} (h : PureR P f args v R) (hs : ∀ q ∈ R, q ∈ R') : PureR P f args v R' := ⟨fun w hw => h.run w fun p hp => hw p (hs p hp)⟩
def rowP : Row → Pl
  | none => none
  | some (r, cap, _) => some (⟨r, 0, none⟩, cap)
theorem rowP_V (n : Nat) (row : Row) (h : row = none → n = 0) : plV n (rowP row) = rowV n row := by
  cases row with
  | none => rw [h rfl]; rfl
  | some q => rfl
theorem rowP_seg {sz n e : Nat} {cs : List Value} {row : Row} (h : rowOk sz n cs row) (h0 : 0 < sz) : Seg (rowL e cs row) n cs (rowP row) := by
  cases row with
  | none => exact h.1
  | some q =>
    obtain ⟨r, cap, sp⟩ := q
    obtain ⟨h1, h2⟩ := h
    exact ⟨Nat.le_of_mul_le_mul_right (by omega : n * sz ≤ cap * sz) h0, fun _ => ⟨rfl, _, e, (0, 0), List.mem_cons_self, by simp⟩⟩
/-! Results that lie in new blocks and in known ones. -/
structure AcRes (R : List (Nat × Obj)) (e : AcE × Int) : Type where
  a : AcL
  err : Int
  L : List (Nat × Obj)
  ok : a.In (L ++ R)
  eq : (a.er, err) = e
structure StRes (R : List (Nat × Obj)) (e : List AcE × Int) : Type where
  s : StL
  err : Int
  L : List (Nat × Obj)
  ok : s.In (L ++ R)
  eq : (s.er, err) = e
def AcRes.val {R : List (Nat × Obj)} {e : AcE × Int} (x : AcRes R e) : Value := .tuple #[x.a.val, .int .i64 x.err]
def StRes.val {R : List (Nat × Obj)} {e : List AcE × Int} (x : StRes R e) : Value := .tuple #[x.s.val, .int .i64 x.err]
end Go.SL
/-! ### Comparing structs; results in new blocks -/
namespace Go.SL
set_option linter.all false
open Go Go.RowKit Go.Shelf
open Go.Proofs (Enters enters_of)
/-! ### Structs are compared -/
inductive EqF (P : Program) (xs ys : List Value) : List Field → Bool → Prop
  | nil : EqF P xs ys [] true
  | scal {f : Field} {fs : List Field} {a b : Value} {r : Bool} (hn : (f.name == "_") = false) (he : aggB P f.type = some false) (ga : nth xs f.offset = some a) (gb : nth ys f.offset = some b) (ha : scalB P f.type a = true) (hb : scalB P f.type b = true) (h : EqF P xs ys fs r) : EqF P xs ys (f :: fs) (eqS a b && r)
  | arr {f : Field} {fs : List Field} {n e : Nat} {va vb : List Value} {r : Bool} (hn : (f.name == "_") = false) (ht : arrOf P f.type = some (n, e)) (hz : szOf P f.type = some n) (he : aggB P e = some false) (hs : szOf P e = some 1) (ga : (xs.drop f.offset).take n = va) (gb : (ys.drop f.offset).take n = vb) (hla : va.length = n) (hlb : vb.length = n)
      (h1 : va.all (scalB P e) = true) (h2 : vb.all (scalB P e) = true) (h : EqF P xs ys fs r) : EqF P xs ys (f :: fs) (eqCells va vb && r)
section
variable {c : Cx} {l : List (Nat × Value)} {L : List (Nat × Obj)} {X : XP} {d : List Deferred}
variable {i : Nat} {t : TypeId} {ps : String} {af : Array Edge} {gd : Option (Nat × Bool)} {ty t2 : TypeId}
end
end Go.SL
/-! ### Iterators that hand out what lies in blocks of their own; calls that lay new blocks in a region that draws -/
namespace Go.SL
set_option linter.all false
open Go Go.RowKit Go.Shelf
open Go.Proofs (Enters enters_of)
/-- As 'Iter'; with each element go blocks of the iterator's own, that may be read. -/
def IterB {ι : Type} (P : Program) (gf : FuncId) (caps : List Value) (Rl : List (Nat × Obj)) (p0 : ι) (nx : ι → List Value → List (Nat × Obj) → ι → Prop) (fin : ι → Prop) : Prop :=
  ∀ (q : Nat) (xids : List Nat) (w2 : World) (XI : ι → XP) (XF : XP),
    (∀ p ∈ Rl, p.1 ∉ xids ∧ w2.heap[p.1]? = some p.2) → (∀ k ∈ xids, k < w2.heap.size) → Foot xids (XI p0) w2 →
    (∀ i v B i', nx i v B i' → ∀ xs w, (∀ k ∈ xs, k < w.heap.size ∧ (k ∈ xids ∨ w2.heap.size ≤ k)) → Keep xids w2 w → Foot xs (XI i) w → Has B w → (∀ p ∈ B, p.1 ∉ xs ∧ p.1 ∉ xids) → YS P q v.toArray xs w (XI i') XF) →
    Calls P gf (.func (.yield q) #[] #[] :: caps).toArray w2 fun e w' => (∃ v, e = .returned v) ∧ Keep xids w2 w' ∧ ((∃ i xs, fin i ∧ XI i xs w') ∨ ∃ xs, XF xs w')
section
variable {c : Cx} {l : List (Nat × Value)} {L : List (Nat × Obj)} {X : XP} {Q : Exit → Act → World → Prop} {d : List Deferred}
variable {ops : Array Oper} {rest : List Oper} {i : Nat} {v : Value} {t : TypeId} {ps : String} {af : Array Edge} {gd : Option (Nat × Bool)} {ty : TypeId}
theorem HL_yieldB {B : List (Nat × Obj)} {f : Operand} {args : Array Operand} {at_ : Array TypeId} {q : Nat} {vs : List Value} {XT XF : XP}
    (hg : goes l ops ⟨some i, .call ⟨.value f, args, at_⟩, ty, ps, af, gd⟩ = some true) (hi : Nat.ble (i + 1) c.n = true)
    (hf : evl l f = some (.func (.yield q) #[] #[])) (ha : evs l args.toList = some vs)
    (hY : ∀ xs w, (∀ k ∈ xs, k < w.heap.size ∧ (k ∈ c.xids ∨ c.w1.heap.size ≤ k)) → Keep (c.ids ++ c.xids) c.w1 w → Foot xs X w → Has B w → (∀ p ∈ B, p.1 ∉ xs ∧ p.1 ∉ c.xids) → YS c.P q vs.toArray xs w XT XF) (hBL : ∀ p ∈ B, p ∈ L)
    (h1 : HL c d ((i, .bool true) :: l) L XT ops rest Q) (h0 : HL c d ((i, .bool false) :: l) L XF ops rest Q) : HL c d l L X ops (⟨some i, .call ⟨.value f, args, at_⟩, ty, ps, af, gd⟩ :: rest) Q := fun a w hfr hs => by
  refine wpListIn_do (goes_wanted hfr hg) rfl ?_
  obtain ⟨xs, hx1, hx2⟩ := hs.x
  obtain ⟨fn, tmps, assign, body, hy, hR⟩ := hY xs w (fun k hk => ⟨(hx1 k hk).2.1, (hx1 k hk).1⟩) hs.keep hx2 (fun p hp => (hs.own p (hBL p hp)).2.2) (fun p hp => ⟨fun hm => (hx1 _ hm).2.2 p (hBL p hp) rfl, (hs.own p (hBL p hp)).2.1⟩)
  have h2 := hfr.evals ha
  have h3 : args.map a.eval = vs.toArray := by apply Array.toList_inj.1; rw [Array.toList_map]; simpa using h2
  have h4 : a.eval f = .func (.yield q) #[] #[] := hfr.eval hf
  have hrun : (execOp a.eval ⟨some i, .call ⟨.value f, args, at_⟩, ty, ps, af, gd⟩).run c.P w = .ok (.round q fn tmps assign body) w := by
    simp only [execOp, Sem.run_bind]
    simp [resolve, h3, h4, Deferred.ofValue, Result.andThen, invoke, hy]
  rw [hrun, Oper.uponIn_round]
  refine ⟨fun hdep => (by cases hdep), ?_⟩
  refine RoundIn.mono (show RoundIn (FW c.ro) (0 - 1) c.P q fn tmps assign body w _ from hR) ?_
  rintro e w' ⟨b, xs', rfl, hxs, hk, hb⟩
  have hs' : ∀ X', Foot xs' X' w' → St c L X' w' := fun X' hx => by
    refine ⟨hs.keep.glue hk fun k hm => ?_, fun p hp => ?_, hs.distinct, hs.ext, hs.xlt, xs', fun k hm => ?_, hx⟩
    · rcases (hx1 k hm).1 with g | g
      · exact .inl (List.mem_append_right _ g)
      · exact .inr g
    · obtain ⟨g1, g2, g3⟩ := hs.own p hp
      exact ⟨g1, g2, (hk.block p.1 (lt_of_some g3) fun hm => (hx1 _ hm).2.2 p hp rfl).trans g3⟩
    · obtain ⟨g1, g2⟩ := hxs k hm
      refine ⟨g2.elim (fun g => (hx1 k g).1) fun g => .inr (Nat.le_trans hs.keep.size g), g1, fun p hp => ?_⟩
      rcases g2 with g | g
      · exact (hx1 k g).2.2 p hp
      · have := lt_of_some (hs.own p hp).2.2; omega
  cases b with
  | true => exact h1 _ w' (hfr.put (Nat.le_of_ble_eq_true hi)) (hs' XT (by simpa using hb))
  | false => exact h0 _ w' (hfr.put (Nat.le_of_ble_eq_true hi)) (hs' XF (by simpa using hb))
theorem HC_rangeB {ι σ τ : Type} {f : Operand} {pp : List Nat} {assign body : Code} {gf : FuncId} {caps : List Value} {Rl : List (Nat × Obj)} {p0 : ι} {nx : ι → List Value → List (Nat × Obj) → ι → Prop} {fi : ι → Prop}
    (I : ι → σ → Prop) (LI : σ → List (Nat × Obj)) (E : Code → τ → Prop) (LE : τ → List (Nat × Obj)) (Lk : List (Nat × Obj)) (s0 : σ)
    (hro : c.ro = none) (hf : evl l f = some (.func (.func gf) #[] caps.toArray)) (eg : Enters c.P gf) (hit : IterB c.P gf caps Rl p0 nx fi) (hlen : ∀ i v B i', nx i v B i' → v.length = pp.length) (hpp : pp.all (Nat.blt · c.n) = true)
    (hRl : ∀ p ∈ Rl, p ∈ Lk ∨ p ∈ c.R) (hL : L = LI s0 ++ Lk) (h0 : I p0 s0)
    (hround : ∀ (q : Nat) (Xr Xb : XP) (w3 : World) (i : ι) (v : List Value) (B : List (Nat × Obj)) (i' : ι) (s : σ), nx i v B i' → I i s → ∀ K, BodyK (cxR c q w3 (idsOf (LI s)) (B ++ Lk)) Xr Xb body (roundQ (cxR c q w3 (idsOf (LI s)) (B ++ Lk)) Xb (I i') LI E LE) K →
      HC (cxR c q w3 (idsOf (LI s)) (B ++ Lk)) [] (zipL pp v l) (LI s) Xr assign (Exit.then K fun _ _ _ => False))
    (hdone : ∀ D i s, fi i → I i s → HQ c (markOf D :: d) l ((D, .deferred (some [])) :: (LI s ++ Lk)) X (Q .normal))
    (hstop : ∀ D j s, E j s → HC c (markOf D :: d) l ((D, .deferred (some [])) :: (LE s ++ Lk)) X j Q) :
    HC c d l L X (.rangeFunc f pp.toArray assign body) Q := fun a w hfr hs => by
  subst hL
  refine wpIn_rangeFunc ?_
  intro fn _
  have e0 : (FW c.ro).round = none := by rw [hro]; rfl
  rw [e0]
  obtain ⟨r, hr⟩ : ∃ r : Loop, r = { state := .ready, pending := none, fn, tmps := a.tmps, params := pp.toArray, assign, body, defers := w.heap.size } := ⟨_, rfl⟩
  obtain ⟨w2, hw2⟩ : ∃ w2, (w.alloc (.deferred (some []))).alloc (.loop r) = w2 := ⟨_, rfl⟩
  have hq : (w.alloc (.deferred (some []))).heap.size = w.heap.size + 1 := World.size_alloc _ _
  have hs2 : St c ((w.heap.size + 1, .loop r) :: (w.heap.size, .deferred (some [])) :: (LI s0 ++ Lk)) X w2 := by
    have := (hs.alloc (.deferred (some []))).alloc (.loop r)
    rw [hq, hw2] at this
    exact this
  have hq2 : w2.heap[w.heap.size + 1]? = some (.loop r) := (hs2.own _ List.mem_cons_self).2.2
  have hrr : ({ r with state := .ready, pending := none } : Loop) = r := by rw [hr]
  obtain ⟨M, hM⟩ : ∃ M, idsOf (LI s0) = M := ⟨_, rfl⟩
  refine ⟨w.heap.size + 1, [markOf w.heap.size], w2, { target := .fn (.func gf) caps.toArray, args := #[.func (.yield (w.heap.size + 1)) #[] #[]] }, w2, gf, (.func (.yield (w.heap.size + 1)) #[] #[] :: caps).toArray, w2, ?_, ?_, fun _ _ => trivial, ?_, fun hdep => (by cases hdep), ?_⟩
  · rw [← hw2, hr]; exact run_enterLoop_outer _ _ _ _ _
  · have := hfr.eval hf
    simp only [resolve, this]
    simp [Deferred.ofValue]
    rfl
  · have := eg (#[.func (.yield (w.heap.size + 1)) #[] #[]] ++ caps.toArray) w2
    have e1 : (#[Value.func (.yield (w.heap.size + 1)) #[] #[]] ++ caps.toArray) = (Value.func (.yield (w.heap.size + 1)) #[] #[] :: caps).toArray := by apply Array.toList_inj.1; simp
    rw [e1] at this
    simpa [invoke] using this
  · -- the iterator's contract at our invariant
    have hown := hs2.distinct
    have hMown : ∀ k ∈ M, ∃ o, (k, o) ∈ LI s0 := fun k hk => by
      rw [← hM] at hk
      obtain ⟨p, hp, rfl⟩ := List.mem_map.1 hk
      exact ⟨p.2, hp⟩
    have hpw := List.pairwise_cons.1 hown
    have hpw2 := List.pairwise_cons.1 hpw.2
    have hpw3 := List.pairwise_append.1 hpw2.2
    have hsz2 : w2.heap.size = w.heap.size + 2 := by rw [← hw2, World.size_alloc, World.size_alloc]
    have hLk2 : ∀ p ∈ Lk, p.1 < w2.heap.size := fun p hp => lt_of_some (hs2.own p (List.mem_cons_of_mem _ (List.mem_cons_of_mem _ (List.mem_append_right _ hp)))).2.2
    have hMk : ∀ p ∈ Lk, p.1 ∉ M ∧ p.1 ≠ w.heap.size + 1 := fun p hp => ⟨fun hm => by
      obtain ⟨o, ho⟩ := hMown _ hm
      exact hpw3.2.2 _ ho _ hp rfl, fun e => hpw.1 p (List.mem_cons_of_mem _ (List.mem_append_right _ hp)) e.symm⟩
    have hMq : w.heap.size + 1 ∉ M := fun hm => by
      obtain ⟨o, ho⟩ := hMown _ hm
      exact hpw.1 _ (List.mem_cons_of_mem _ (List.mem_append_left _ ho)) rfl
    have hMD : w.heap.size ∉ M := fun hm => by
      obtain ⟨o, ho⟩ := hMown _ hm
      exact hpw2.1 _ (List.mem_append_left _ ho) rfl
    have hMlt : ∀ k ∈ M, k < w2.heap.size := fun k hk => by
      obtain ⟨o, ho⟩ := hMown _ hk
      exact lt_of_some (hs2.own _ (List.mem_cons_of_mem _ (List.mem_cons_of_mem _ (List.mem_append_left _ ho)))).2.2
    -- what a place of one's own is apart from
    have apart : ∀ {k : Nat}, (k ∈ M ∨ w2.heap.size ≤ k) → k ≠ w.heap.size + 1 ∧ k ≠ w.heap.size ∧ (∀ p ∈ Lk, p.1 ≠ k) := fun {k} hk => by
      rcases hk with hk | hk
      · exact ⟨fun e => hMq (e ▸ hk), fun e => hMD (e ▸ hk), fun p hp e => (hMk p hp).1 (e ▸ hk)⟩
      · exact ⟨by omega, by omega, fun p hp e => by have := hLk2 p hp; omega⟩
    have apartR : ∀ {k : Nat}, (k ∈ M ∨ w2.heap.size ≤ k) → ∀ p ∈ c.R, p.1 ≠ k := fun {k} hk p hp e => by
      obtain ⟨e1, _, e3⟩ := hs2.ext p hp
      have h1 := lt_of_some e3
      have h2 := hs.keep.size
      rcases hk with hk | hk
      · obtain ⟨o, ho⟩ := hMown _ hk
        rcases (hs2.own _ (List.mem_cons_of_mem _ (List.mem_cons_of_mem _ (List.mem_append_left _ ho)))).1 with g | g
        · exact e1 (e ▸ g)
        · simp only at g; omega
      · omega
    have hcalls := hit (w.heap.size + 1) ((w.heap.size + 1) :: M) w2 (fun i => loopX (w.heap.size + 1) w2.heap.size M r (I i) LI)
      (fun xs w' => ∃ j, loopX (w.heap.size + 1) w2.heap.size M { r with state := .done, pending := some j } (E j) LE xs w')
      (fun p hp => by
        rcases hRl p hp with hL | hR
        · refine ⟨fun hm => ?_, (hs2.own p (List.mem_cons_of_mem _ (List.mem_cons_of_mem _ (List.mem_append_right _ hL)))).2.2⟩
          obtain ⟨h1, h2⟩ := hMk p hL
          rcases List.mem_cons.1 hm with hm | hm
          · exact h2 hm
          · exact h1 hm
        · refine ⟨fun hm => ?_, hs2.readR hR⟩
          rcases List.mem_cons.1 hm with hm | hm
          · have h1 := lt_of_some (hs2.ext p hR).2.2
            have h2 := hs.keep.size
            omega
          · exact apartR (.inl hm) p hR rfl)
      (fun k hk => by
        rcases List.mem_cons.1 hk with rfl | hk
        · exact lt_of_some hq2
        · exact hMlt k hk)
      (by
        have := foot_loopX (q := w.heap.size + 1) (B := w2.heap.size) (M := M) (rec := r) (I := I p0) (LI := LI) s0 h0 hpw3.1 (fun p hp => .inl (by rw [← hM]; exact List.mem_map_of_mem (f := (·.1)) hp)) (fun p hp => (hs2.own _ (List.mem_cons_of_mem _ (List.mem_cons_of_mem _ (List.mem_append_left _ hp)))).2.2) hq2
        rw [hM] at this
        exact this)
      ?_
    · refine CallsIn.mono (show CallsIn (FW c.ro) (0 - 1) c.P gf _ w2 _ from callsIn_wide (n := 0) |>.2 hcalls) ?_
      rintro e w' ⟨⟨v, rfl⟩, hk, hfin⟩
      have fin : ∀ (st : LoopState) (pe : Option Code) (LL : List (Nat × Obj)), st ≠ .busy → LL.Pairwise (fun p q => p.1 ≠ q.1) → (∀ p ∈ LL, p.1 ∈ M ∨ w2.heap.size ≤ p.1) → Has LL w' → w'.heap[w.heap.size + 1]? = some (.loop { r with state := st, pending := pe }) →
          (Instr.endLoop (w.heap.size + 1)).run c.P w' = .ok pe (w'.putObj (w.heap.size + 1) (.loop { r with state := .exhausted, pending := pe })) ∧
          St c ((w.heap.size, .deferred (some [])) :: (LL ++ Lk)) X (w'.putObj (w.heap.size + 1) (.loop { r with state := .exhausted, pending := pe })) := by
        intro st pe LL hst hpwL hLM hLL hl
        refine ⟨run_endLoop hl hst, ?_⟩
        have hk2 : Keep ((w.heap.size + 1) :: M) w2 (w'.putObj (w.heap.size + 1) (.loop { r with state := .exhausted, pending := pe })) :=
          hk.trans ((Keep.putObj _ _).weak fun k hm => by simp at hm; subst hm; exact List.mem_cons_self)
        have hput : ∀ k, k ≠ w.heap.size + 1 → (w'.putObj (w.heap.size + 1) (.loop { r with state := .exhausted, pending := pe })).heap[k]? = w'.heap[k]? := fun k hne => World.putObj_heap_other hne
        refine hs2.jump hk2 (fun k hm => ?_) ?_ (fun p hp => ?_)
        · rcases List.mem_cons.1 hm with rfl | hm
          · exact ⟨_, List.mem_cons_self⟩
          · obtain ⟨o, ho⟩ := hMown k hm
            exact ⟨o, List.mem_cons_of_mem _ (List.mem_cons_of_mem _ (List.mem_append_left _ ho))⟩
        · refine List.pairwise_cons.2 ⟨fun p hp => ?_, List.pairwise_append.2 ⟨hpwL, hpw3.2.1, fun p hp p' hp' => ?_⟩⟩
          · rcases List.mem_append.1 hp with hp | hp
            · exact fun e => (apart (hLM p hp)).2.1 e.symm
            · exact hpw2.1 p (List.mem_append_right _ hp)
          · exact fun e => (apart (hLM p hp)).2.2 p' hp' e.symm
        · rcases List.mem_cons.1 hp with rfl | hp
          · refine ⟨.inl ⟨_, List.mem_cons_of_mem _ List.mem_cons_self⟩, ?_⟩
            rw [hput _ (by simp)]
            refine (hk.block w.heap.size (lt_of_some (hs2.own _ (List.mem_cons_of_mem _ List.mem_cons_self)).2.2) ?_).trans (hs2.own _ (List.mem_cons_of_mem _ List.mem_cons_self)).2.2
            simp only [List.mem_cons, not_or]; exact ⟨by omega, hMD⟩
          · rcases List.mem_append.1 hp with hp | hp
            · refine ⟨?_, ?_⟩
              · rcases hLM p hp with g | g
                · obtain ⟨o, ho⟩ := hMown _ g
                  exact .inl ⟨o, List.mem_cons_of_mem _ (List.mem_cons_of_mem _ (List.mem_append_left _ ho))⟩
                · exact .inr g
              · rw [hput _ (apart (hLM p hp)).1]
                exact hLL p hp
            · have hmem := List.mem_cons_of_mem (w.heap.size + 1, Obj.loop r) (List.mem_cons_of_mem (w.heap.size, Obj.deferred (some [])) (List.mem_append_right (LI s0) hp))
              refine ⟨.inl ⟨p.2, hmem⟩, ?_⟩
              obtain ⟨g1, g2⟩ := hMk p hp
              rw [hput _ g2]
              refine (hk.block p.1 (lt_of_some (hs2.own _ hmem).2.2) ?_).trans (hs2.own _ hmem).2.2
              simp only [List.mem_cons, not_or]; exact ⟨g2, g1⟩
      have hfr2 : Fr c.n (markOf w.heap.size :: d) l { tmps := a.tmps, defers := [markOf w.heap.size] ++ a.defers } := ⟨hfr.size, by simp [hfr.defers], hfr.slots⟩
      rcases hfin with ⟨i, xs, hi, ⟨s, h1, h2, h3, h4, _⟩, h5⟩ | ⟨xs, j, ⟨s, h1, h2, h3, h4, _⟩, h5⟩
      · obtain ⟨g1, g2⟩ := fin .ready none (LI s) (by simp) h2 h3 h4 (by rw [hrr]; exact h5)
        exact ⟨none, _, g1, hdone _ i s hi h1 _ _ hfr2 g2⟩
      · obtain ⟨g1, g2⟩ := fin .done (some j) (LE s) (by simp) h2 h3 h4 h5
        exact ⟨some j, _, g1, hstop _ j s h1 _ _ hfr2 g2⟩
    · -- a round
      rintro i v B i' hi xs w3 hxs hk3 hfoot hB hBx
      obtain ⟨⟨s, h1, hpwS, hMS, h2, rfl⟩, h3⟩ := hfoot w3 fun _ _ => rfl
      have hargs : v.toArray.size = r.params.size := by rw [hr]; simpa using hlen i v B i' hi
      have hy := run_yield (P := c.P) (args := v.toArray) h3 hargs
      refine ⟨_, _, _, _, hy, ?_⟩
      obtain ⟨c3, hc3⟩ : ∃ c3, cxR c (w.heap.size + 1) w3 (idsOf (LI s)) (B ++ Lk) = c3 := ⟨_, rfl⟩
      have hc3x : c3.xids = [w.heap.size + 1] := by rw [← hc3]; rfl
      have hc3i : c3.ids = idsOf (LI s) := by rw [← hc3]; rfl
      have hc3w : c3.w1 = w3 := by rw [← hc3]; rfl
      have hmemS : ∀ p ∈ LI s, p.1 ∈ idsOf (LI s) := fun p hp => List.mem_map_of_mem (f := (·.1)) hp
      have hidS : ∀ {k : Nat}, k ∈ idsOf (LI s) → k ∈ M ∨ w2.heap.size ≤ k := fun {k} hk => by
        obtain ⟨p, hp, rfl⟩ := List.mem_map.1 hk
        exact hMS p hp
      have hst3 : St c3 (LI s) (recX (w.heap.size + 1) r) w3 := by
        subst hc3
        refine ⟨Keep.refl _ _, fun p hp => ⟨.inl (hmemS p hp), ?_, h2 p hp⟩, hpwS, ?_, ?_, [w.heap.size + 1], fun k hk => ?_, fun w' hw' => (hw' _ (by simp)).trans h3⟩
        · simp only [cxR, List.mem_singleton]; exact (apart (hMS p hp)).1
        · intro p hp
          simp only [cxR] at hp ⊢
          rcases List.mem_append.1 hp with hp | hp
          · rcases List.mem_append.1 hp with hp | hp
            · obtain ⟨b1, _⟩ := hBx p hp
              exact ⟨fun hm => b1 (List.mem_cons_of_mem _ hm), by simp only [List.mem_singleton]; exact fun e => b1 (by rw [e]; exact List.mem_cons_self), hB p hp⟩
            obtain ⟨g1, g2⟩ := hMk p hp
            refine ⟨fun hm => (apart (hidS hm)).2.2 p hp rfl, by simpa using g2, ?_⟩
            have hmem := List.mem_cons_of_mem (w.heap.size + 1, Obj.loop r) (List.mem_cons_of_mem (w.heap.size, Obj.deferred (some [])) (List.mem_append_right (LI s0) hp))
            exact (hk3.block p.1 (lt_of_some (hs2.own _ hmem).2.2) (by simp only [List.mem_cons, not_or]; exact ⟨g2, g1⟩)).trans (hs2.own _ hmem).2.2
          · have e3 := hs2.readR hp
            have hlt := lt_of_some (hs2.ext p hp).2.2
            have hsz := hs.keep.size
            have hnq : p.1 ≠ w.heap.size + 1 := fun e => by omega
            refine ⟨fun hm => apartR (hidS hm) p hp rfl, by simpa using hnq, ?_⟩
            exact (hk3.block p.1 (lt_of_some e3) (by simp only [List.mem_cons, not_or]; exact ⟨hnq, fun hm => apartR (.inl hm) p hp rfl⟩)).trans e3
        · intro k hk; simp only [cxR, List.mem_singleton] at hk; subst hk; exact lt_of_some h3
        · simp only [List.mem_singleton] at hk
          subst hk
          exact ⟨.inl (by simp [cxR]), lt_of_some h3, fun p hp => (apart (hMS p hp)).1⟩
      have hbusy : ∀ {LL : List (Nat × Obj)} {w' : World}, St c3 LL (recX (w.heap.size + 1) r) w' →
          St c3 LL (recX (w.heap.size + 1) { r with state := .busy, pending := none }) (w'.putObj (w.heap.size + 1) (.loop { r with state := .busy, pending := none })) := by
        intro LL w' hst
        have hlt : w.heap.size + 1 < w'.heap.size := lt_of_some hst.recd
        refine ⟨hst.keep.trans ((Keep.putObj _ _).weak fun k hm => by simp at hm; subst hm; rw [hc3x]; simp), fun p hp => ?_, hst.distinct, hst.ext, hst.xlt, [w.heap.size + 1], fun k hk => ?_, fun w'' hw'' => (hw'' _ (by simp)).trans (World.putObj_heap_same hlt)⟩
        · obtain ⟨g1, g2, g3⟩ := hst.own p hp
          refine ⟨g1, g2, (World.putObj_heap_other ?_).trans g3⟩
          intro e; exact g2 (by rw [e, hc3x]; simp)
        · simp only [List.mem_singleton] at hk
          subst hk
          exact ⟨.inl (by rw [hc3x]; simp), Nat.lt_of_lt_of_le hlt (Keep.putObj _ _).size, fun p hp e => (hst.own p hp).2.1 (by rw [hc3x, e]; simp)⟩
      have hfr3 : Fr c3.n [] (zipL pp v l) { tmps := (r.params.zip v.toArray).foldl (fun (t : Array Value) (pv : Nat × Value) => t.setIfInBounds pv.1 pv.2) r.tmps, defers := [] } := by
        have h5 := fr_zip (n := c.n) pp v l a.tmps (fun p hp => by have := List.all_eq_true.1 hpp p hp; simpa using this) ⟨hfr.size, rfl, hfr.slots⟩
        rw [hr, ← hc3]
        simp only [List.zip_toArray, List.foldl_toArray']
        exact h5
      have key : ∀ RR : Ending → World → Prop,
          (∀ s' w', I i' s' → St c3 (LI s') (recX (w.heap.size + 1) { r with state := .busy, pending := none }) w' → RR (.returned (.bool true)) (w'.putObj (w.heap.size + 1) (.loop { r with state := .ready, pending := none }))) →
          (∀ j s' w', E j s' → St c3 (LE s') (recX (w.heap.size + 1) { r with state := .busy, pending := none }) w' → RR (.returned (.bool false)) (w'.putObj (w.heap.size + 1) (.loop { r with state := .done, pending := some j }))) →
          RoundIn (FW none) 0 c.P (w.heap.size + 1) r.fn ((r.params.zip v.toArray).foldl (fun (t : Array Value) (pv : Nat × Value) => t.setIfInBounds pv.1 pv.2) r.tmps) r.assign r.body w3 RR := by
        intro RR g1 g2
        refine roundIn_of_wpIn (F := FW none) trivial ?_
        have hround' := hround (w.heap.size + 1) (recX (w.heap.size + 1) r) (recX (w.heap.size + 1) { r with state := .busy, pending := none }) w3 i v B i' s hi h1
          (fun a₁ w₁ => ∃ w₂, (Instr.beginRound (w.heap.size + 1)).run c.P w₁ = .ok () w₂ ∧ body.wpIn ((FW none).inRound (w.heap.size + 1)) 0 c.P (roundPost c.P (w.heap.size + 1) RR) a₁ w₂)
        rw [hc3] at hround'
        have hround'' := hround' (fun l' L' hb a₁ w₁ hf₁ hs₁ => ?_) _ w3 hfr3 hst3
        · have e1 : r.assign = assign := by rw [hr]
          have e2 : r.body = body := by rw [hr]
          have e3 : c3.P = c.P := by rw [← hc3]; rfl
          have e4 : c3.ro = some (w.heap.size + 1) := by rw [← hc3]; rfl
          rw [e3, e4] at hround''
          rw [e1, e2]
          exact hround''
        · have hx1 : w₁.heap[w.heap.size + 1]? = some (.loop r) := hs₁.recd
          refine ⟨_, run_beginRound hx1 (by rw [hr]), ?_⟩
          have hb2 := hb a₁ _ hf₁ (hbusy hs₁)
          have hb3 : ({ r with state := .busy } : Loop) = { r with state := .busy, pending := none } := by rw [hr]
          rw [hb3]
          have e3 : c3.P = c.P := by rw [← hc3]; rfl
          have e4 : c3.ro = some (w.heap.size + 1) := by rw [← hc3]; rfl
          rw [e3, e4] at hb2
          refine wpIn_mono (show body.wpIn ((FW none).inRound (w.heap.size + 1)) 0 c.P _ a₁ _ from hb2) ?_
          have := roundQ_post (c3 := c3) (q := w.heap.size + 1) (r := { r with pending := none }) (R := RR) g1 g2
          rw [e3] at this
          exact this
      have turn : ∀ (st : LoopState) (pe : Option Code) (LL : List (Nat × Obj)) (w' : World), St c3 LL (recX (w.heap.size + 1) { r with state := .busy, pending := none }) w' →
          (∀ k ∈ (w.heap.size + 1) :: idsOf LL, k < (w'.putObj (w.heap.size + 1) (.loop { r with state := st, pending := pe })).heap.size ∧ (k ∈ (w.heap.size + 1) :: idsOf (LI s) ∨ w3.heap.size ≤ k)) ∧
          Keep ((w.heap.size + 1) :: idsOf (LI s)) w3 (w'.putObj (w.heap.size + 1) (.loop { r with state := st, pending := pe })) ∧ (∀ p ∈ LL, p.1 ∈ M ∨ w2.heap.size ≤ p.1) ∧ Has LL (w'.putObj (w.heap.size + 1) (.loop { r with state := st, pending := pe })) ∧
          (w'.putObj (w.heap.size + 1) (.loop { r with state := st, pending := pe })).heap[w.heap.size + 1]? = some (.loop { r with state := st, pending := pe }) := by
        intro st pe LL w' hst'
        have hlt : w.heap.size + 1 < w'.heap.size := lt_of_some hst'.recd
        have hk' := hst'.keep
        rw [hc3x, hc3i, hc3w] at hk'
        have hown' : ∀ p ∈ LL, (p.1 ∈ idsOf (LI s) ∨ w3.heap.size ≤ p.1) ∧ p.1 ≠ w.heap.size + 1 ∧ w'.heap[p.1]? = some p.2 := fun p hp => by
          have := hst'.own p hp
          rw [hc3x, hc3i, hc3w] at this
          simpa using this
        refine ⟨fun k hk => ?_, ?_, fun p hp => ?_, fun p hp => (World.putObj_heap_other (hown' p hp).2.1).trans (hown' p hp).2.2, World.putObj_heap_same hlt⟩
        · rcases List.mem_cons.1 hk with rfl | hk
          · exact ⟨Nat.lt_of_lt_of_le hlt (Keep.putObj _ _).size, .inl List.mem_cons_self⟩
          · obtain ⟨p, hp, rfl⟩ := List.mem_map.1 hk
            obtain ⟨e1, e2, e3⟩ := hown' p hp
            exact ⟨Nat.lt_of_lt_of_le (lt_of_some e3) (Keep.putObj _ _).size, e1.imp (List.mem_cons_of_mem _) id⟩
        · refine (hk'.weak fun k hm => ?_).trans ((Keep.putObj _ _).weak fun k hm => by simp at hm; subst hm; exact List.mem_cons_self)
          rcases List.mem_append.1 hm with hm | hm
          · exact List.mem_cons_of_mem _ hm
          · simp only [List.mem_singleton] at hm; subst hm; exact List.mem_cons_self
        · rcases (hown' p hp).1 with g | g
          · exact hidS g
          · exact .inr (Nat.le_trans hk3.size g)
      refine key _ ?_ ?_
      · intro s' w' hI' hst'
        obtain ⟨t1, t2, t3, t4, t5⟩ := turn .ready none (LI s') w' hst'
        refine ⟨true, _, rfl, t1, t2, ?_⟩
        rw [if_pos rfl]
        exact foot_loopX s' hI' hst'.distinct t3 t4 (by rw [hrr] at t5 ⊢; exact t5)
      · intro j s' w' hE' hst'
        obtain ⟨t1, t2, t3, t4, t5⟩ := turn .done (some j) (LE s') w' hst'
        refine ⟨false, _, rfl, t1, t2, ?_⟩
        rw [if_neg (by simp)]
        exact fun w'' hw'' => ⟨j, foot_loopX s' hE' hst'.distinct t3 t4 t5 w'' hw''⟩
end
theorem iterB_of_HC {ι : Type} {P : Program} {f : FuncId} {fn : Func} {code : Code} {caps : List Value} {Rl : List (Nat × Obj)} {p0 : ι} {nx : ι → List Value → List (Nat × Obj) → ι → Prop} {fin : ι → Prop} (hf : P.funcs[f]? = some fn) (hb : fn.body = some code) (hlen : Nat.ble (caps.length + 1) fn.ntmps = true)
    (h : ∀ (q : Nat) (xids : List Nat) (w2 : World) (XI : ι → XP) (XF : XP),
      (∀ i v B i', nx i v B i' → ∀ xs w, (∀ k ∈ xs, k < w.heap.size ∧ (k ∈ xids ∨ w2.heap.size ≤ k)) → Keep ([] ++ xids) w2 w → Foot xs (XI i) w → Has B w → (∀ p ∈ B, p.1 ∉ xs ∧ p.1 ∉ xids) → YS P q v.toArray xs w (XI i') XF) →
      HC ⟨P, none, w2, [], xids, Rl, fn.ntmps⟩ [] (frame0 0 (.func (.yield q) #[] #[] :: caps)) [] (XI p0) code
        (bodyPostM (FW none) 0 P fn (fun e w' => (∃ v, e = .returned v) ∧ Keep ([] ++ xids) w2 w' ∧ ((∃ i xs, fin i ∧ XI i xs w') ∨ ∃ xs, XF xs w')))) : IterB P f caps Rl p0 nx fin :=
  fun q xids w2 XI XF hR hlt h0 hY =>
    calls_of_HC ⟨P, none, w2, [], xids, Rl, fn.ntmps⟩ hf hb rfl rfl rfl hlen
      ⟨Keep.refl _ _, by simp, by simp, fun p hp => ⟨by simp, (hR p hp).1, (hR p hp).2⟩, hlt, xids, fun k hk => ⟨.inl hk, hlt k hk, by simp⟩, h0⟩ (h q xids w2 XI XF hY)
section
variable {c : Cx} {d : List Deferred} {l : List (Nat × Value)} {E : List (Nat × Obj)} {X : XP} {S : List (Nat × Obj)} {ops : Array Oper} {tb : Kbs} {rest : List Nat} {T : List (Nat × Obj) → Act → Prop} {k i : Nat}
theorem HB_callRE {α : Type} {x0 : α} {V : α → Value} {LL : α → List (Nat × Obj)} {Rl : List (Nat × Obj)} {f : Operand} {args : Array Operand} {at_ : Array TypeId} {g : FuncId} {vs : List Value} {ty : TypeId} {ps : String} {af : Array Edge} {gd : Option (Nat × Bool)}
    (hk : nth ops.toList k = some ⟨some i, .call ⟨.value f, args, at_⟩, ty, ps, af, gd⟩) (hg : goes l ops ⟨some i, .call ⟨.value f, args, at_⟩, ty, ps, af, gd⟩ = some true) (hi : Nat.ble (i + 1) c.n = true) (hA : tb k = .grow (geCall x0 V LL)) (hca : callArgs l f args = some (g, vs)) (eg : Enters c.P g)
    (hp : PureT c.P g vs.toArray V [] LL Rl) (hR : ∀ p ∈ Rl, p ∈ S ∨ p ∈ c.R) (h : ∀ x, HB c d ((i, V x) :: l) (LL x ++ E) X S ops tb rest T) : HB c d l E X S ops tb (k :: rest) T :=
  HB_grow (e := geCall x0 V LL) hk hg rfl hi hA (fun E' hE a w hf hs => act_call hf hca eg ((hp.run w (fun p hp => by cases hp) (fun p hp => (hR p hp).elim (fun h => (hs.own _ (hE p h)).2.2) hs.readR) List.Pairwise.nil (fun p _ q hq => by cases hq)).mono fun _ _ ⟨x, he, hk, h1, h2⟩ => ⟨V x, he, x, rfl, hk, (fun p hp => ⟨((h1 p hp).1).elim (fun h => by cases h) id, (h1 p hp).2⟩), h2⟩)) h
end
end Go.SL
/-! ### Results that grow from round to round -/
namespace Go.SL
set_option linter.all false
open Go Go.RowKit Go.Shelf
open Go.Proofs (Enters enters_of)
theorem HC_perm {c : Cx} {d : List Deferred} {l : List (Nat × Value)} {L L' : List (Nat × Obj)} {X : XP} {code : Code} {Q : Exit → Act → World → Prop} (hp : L.Perm L') (h : HC c d l L' X code Q) : HC c d l L X code Q := fun a w hf hs => h a w hf (hs.perm hp)
theorem perm_mid {α : Type} (A B C : List α) : (A ++ (B ++ C)).Perm (B ++ (A ++ C)) := by
  rw [← List.append_assoc, ← List.append_assoc]
  exact List.perm_append_comm.append_right C
/-- An account and the blocks that it may lie in. -/
structure AcSt (R : List (Nat × Obj)) : Type where
  a : AcL
  L : List (Nat × Obj)
  ok : a.In (L ++ R)
structure StSt (R : List (Nat × Obj)) : Type where
  s : StL
  L : List (Nat × Obj)
  ok : s.In (L ++ R)
def AcSt.next {R : List (Nat × Obj)} (s : AcSt R) {e : AcE × Int} (x : AcRes (s.L ++ R) e) : AcSt R := ⟨x.a, x.L ++ s.L, by rw [List.append_assoc]; exact x.ok⟩
def StSt.next {R : List (Nat × Obj)} (s : StSt R) {L' : List (Nat × Obj)} {e : List AcE × Int} (x : StRes (L' ++ (s.L ++ R)) e) : StSt R := ⟨x.s, x.L ++ (L' ++ s.L), by rw [List.append_assoc, List.append_assoc]; exact x.ok⟩
theorem map_drop {α : Type} (f : Nat → α) {i : Nat} (h : i < 7) : (tab.map f).drop i = f i :: (tab.map f).drop (i + 1) := by
  have : i = 0 ∨ i = 1 ∨ i = 2 ∨ i = 3 ∨ i = 4 ∨ i = 5 ∨ i = 6 := by omega
  rcases this with rfl | rfl | rfl | rfl | rfl | rfl | rfl <;> rfl
end Go.SL
/-! ### Roots of chunks, in plain Lean -/
namespace Go.SL
set_option linter.all false
def z32 : List UInt8 := List.replicate 32 0
/-- Two and two. -/
def pairUp : List (List UInt8) → List (List UInt8)
  | a :: b :: l => kec (a ++ b) :: pairUp l
  | _ => []
def padOdd (l : List (List UInt8)) (z : List UInt8) : List (List UInt8) := if l.length % 2 = 1 then l ++ [z] else l
def treeP : Nat → List (List UInt8) → List UInt8 → List UInt8
  | 0, l, z => l.headD z
  | k + 1, l, z => treeP k (pairUp (padOdd l z)) (kec (z ++ z))
def treeR : Nat → List (List UInt8) → List UInt8
  | 0, l => l.headD []
  | k + 1, l => treeR k (pairUp l)
theorem pairUp_len : ∀ l : List (List UInt8), (pairUp l).length = l.length / 2
  | [] => by simp [pairUp]
  | [_] => by simp [pairUp]
  | a :: b :: l => by rw [pairUp, List.length_cons, pairUp_len l, List.length_cons, List.length_cons]; omega
theorem pairUp_app : ∀ {l m : List (List UInt8)}, l.length % 2 = 0 → pairUp (l ++ m) = pairUp l ++ pairUp m
  | [], m, _ => rfl
  | [_], _, h => by simp at h
  | a :: b :: l, m, h => by
    have h2 : l.length % 2 = 0 := by simp only [List.length_cons] at h; omega
    rw [List.cons_append, List.cons_append, pairUp, pairUp, pairUp_app h2, List.cons_append]
theorem pairUp_rep (z : List UInt8) : ∀ m : Nat, pairUp (List.replicate (2 * m) z) = List.replicate m (kec (z ++ z))
  | 0 => rfl
  | m + 1 => by rw [show 2 * (m + 1) = 2 * m + 1 + 1 by omega, List.replicate_succ, List.replicate_succ, pairUp, pairUp_rep z m, List.replicate_succ]
theorem padOdd_len (l : List (List UInt8)) (z : List UInt8) : (padOdd l z).length = l.length + l.length % 2 := by
  unfold padOdd
  split
  · rename_i h; rw [List.length_append, h]; rfl
  · omega
theorem padOdd_pad {l : List (List UInt8)} {z : List UInt8} {n : Nat} (h : l.length ≤ 2 * n) : padOdd l z ++ List.replicate (2 * n - (padOdd l z).length) z = l ++ List.replicate (2 * n - l.length) z := by
  rw [padOdd_len]
  unfold padOdd
  split
  · rename_i h1
    rw [List.append_assoc, h1]
    congr 1
    rw [show 2 * n - l.length = (2 * n - (l.length + 1)) + 1 by omega, List.replicate_succ]; rfl
  · rename_i h1
    rw [show l.length % 2 = 0 by omega]; rfl
theorem treeP_R : ∀ (k : Nat) {l : List (List UInt8)} (z : List UInt8), l.length ≤ 2 ^ k → treeP k l z = treeR k (l ++ List.replicate (2 ^ k - l.length) z)
  | 0, [], z, _ => rfl
  | 0, [a], z, _ => rfl
  | 0, _ :: _ :: _, z, h => by simp at h
  | k + 1, l, z, h => by
    rw [Nat.pow_succ, Nat.mul_comm] at h
    have h2 := padOdd_len l z
    have hp : (padOdd l z).length % 2 = 0 := by rw [h2]; omega
    rw [treeP, treeR, Nat.pow_succ, Nat.mul_comm, ← padOdd_pad h, pairUp_app hp, show 2 * 2 ^ k - (padOdd l z).length = 2 * (2 ^ k - (padOdd l z).length / 2) by omega, pairUp_rep]
    rw [treeP_R k (kec (z ++ z)) (by rw [pairUp_len]; omega), pairUp_len]
theorem pairUp_mem (l : List (List UInt8)) : ∀ x ∈ pairUp l, x.length = 32 := by
  induction l using pairUp.induct with
  | case1 a b l ih =>
    intro x hx
    rw [pairUp] at hx
    rcases List.mem_cons.1 hx with hx | hx
    · rw [hx]; exact kec_len _
    · exact ih x hx
  | case2 l h =>
    intro x hx
    rw [pairUp.eq_2 l h] at hx
    cases hx
theorem treeR_len (k : Nat) : ∀ {l : List (List UInt8)}, l.length = 2 ^ k → (∀ x ∈ l, x.length = 32) → (treeR k l).length = 32 := by
  induction k with
  | zero =>
    intro l h1 h2
    match l, h1 with
    | [a], _ => exact h2 a List.mem_cons_self
  | succ k ih =>
    intro l h1 _
    rw [Nat.pow_succ, Nat.mul_comm] at h1
    rw [treeR]
    exact ih (by rw [pairUp_len, h1]; omega) (pairUp_mem l)
/-- How often two and two are summed. -/
def lg (m : Nat) : Nat := if m ≤ 1 then 0 else Nat.log2 (m - 1) + 1
theorem lg_up (m : Nat) : m ≤ 2 ^ lg m := by
  unfold lg
  split
  · simpa using ‹m ≤ 1›
  · have := @Nat.lt_log2_self (m - 1)
    omega
theorem lg_lo {m j : Nat} (h : j < lg m) : 2 ^ j < m := by
  unfold lg at h
  split at h
  · cases h
  · have h1 : 2 ^ j ≤ 2 ^ Nat.log2 (m - 1) := Nat.pow_le_pow_right (by decide) (by omega)
    have h2 := Nat.log2_self_le (n := m - 1) (by omega)
    omega
theorem lg_le {m d : Nat} (h : m ≤ 2 ^ d) : lg m ≤ d := by
  rcases Nat.lt_or_ge d (lg m) with h1 | h1
  · have := lg_lo h1; omega
  · exact h1
def padC (n : Nat) (l : List (List UInt8)) : List (List UInt8) := l ++ List.replicate (n - l.length) z32
def rootC (l : List (List UInt8)) (m : Nat) : List UInt8 := treeR (lg m) (padC (2 ^ lg m) l)
theorem rootC_P {l : List (List UInt8)} {m : Nat} (h : l.length ≤ m) : treeP (lg m) l z32 = rootC l m := treeP_R _ _ (Nat.le_trans h (lg_up m))
theorem padC_len {n : Nat} {l : List (List UInt8)} (h : l.length ≤ n) : (padC n l).length = n := by
  unfold padC; rw [List.length_append, List.length_replicate]; omega
theorem padC_mem {n : Nat} {l : List (List UInt8)} (h : ∀ x ∈ l, x.length = 32) : ∀ x ∈ padC n l, x.length = 32 := by
  intro x hx
  rcases List.mem_append.1 hx with hx | hx
  · exact h x hx
  · rw [(List.mem_replicate.1 hx).2]; rfl
theorem rootC_len {l : List (List UInt8)} {m : Nat} (h : l.length ≤ m) (h2 : ∀ x ∈ l, x.length = 32) : (rootC l m).length = 32 := treeR_len _ (padC_len (Nat.le_trans h (lg_up m))) (padC_mem h2)
end Go.SL
namespace Go.Proofs.YtlcbfphioeppaaaGreatDoor
set_option linter.all false
open Go.SL Go.RowKit Go.Shelf
/-! ### chunks: full, pairs, Clone -/
abbrev pt0 (r : Nat) : Value := .pointer (some ⟨r, 0, none⟩)
def chC (l : List BS) : List Value := l.map strV
theorem chC_len (l : List BS) : (chC l).length = l.length := by unfold chC; rw [List.length_map]
theorem chC_get {l : List BS} {i : Nat} {s : BS} (h : l[i]? = some s) : (chC l)[i]? = some (strV s) := by unfold chC; rw [List.getElem?_map, h]; rfl
theorem chC_one (l : List BS) : (chC l).all oneB = true := by
  rw [List.all_eq_true]; intro x hx
  obtain ⟨b, _, rfl⟩ := List.mem_map.1 hx
  rfl
theorem rowV_cells (n : Nat) (row : Row) : (rowV n row).cells = #[rowV n row] := by cases row <;> rfl
theorem rowV_one1 (n : Nat) (row : Row) : oneB (rowV n row) = true := by cases row <;> rfl
set_option maxRecDepth 10000 in
theorem P_full {s : BS} (h : s.length ≤ 32) : Pure Tryz.prog 57 [strV s].toArray (strV (padZ s)) := by
  unfold padZ
  refine pure_of_HC Tryz.func57 rfl rfl fun w => ?_; refine HC_seq fun K1 hK1 => HC_region ?_; refine HLm rfl ?_; refine HL_nil (hK1 _ _ _ _ ?_); refine HC_seq fun K2 hK2 => HC_region ?_; refine HLm rfl (HLm rfl (HL_r rfl rfl rfl rfl (R_lenBs rfl rfl) ?_))
  refine HLp rfl ?_; refine HL_as (show _ = Value.int .i64 ((32 - s.length : Nat) : Int) from by rw [wrap_i64 (by omega) (by omega)]; congr 1 <;> omega) ?_; refine HL_callP rfl rfl rfl (enters_of Tryz.func102 (by kernel_rfl) rfl) (P_Repeat0 (n := 32 - s.length) (by omega)) ?_; rw [repeat_rep]; refine HL_r rfl rfl rfl rfl (R_concat (a := s) (b := List.replicate (32 - s.length) 0) rfl rfl (by rw [List.length_replicate]; omega)) ?_; refine HLm rfl ?_; refine HL_nil (hK2 _ _ _ _ ?_); refine HC_ret ?_; refine HQ_post rfl rfl (.cons (res_tmp rfl) .nil) (fun w1 hs1 => ?_); exact ⟨rfl, hs1.keep⟩
set_option maxRecDepth 10000 in
theorem S_cloneC {R : List (Nat × Obj)} {l : List BS} {p : Pl} (hl : l.length ≤ 100000) (hs : Seg R l.length (chC l) p) :
    PureT (α := { row : Row // rowOk 1 l.length (chC l) row }) Tryz.prog 98 [plV l.length p].toArray (fun x => rowV l.length x.1) [] (fun x => rowL 9 (chC l) x.1) R := by
  cases p with
  | none =>
    have h0 : l = [] := List.length_eq_zero_iff.1 hs
    subst h0; refine pureT_of_HC Tryz.func98 rfl rfl fun w => ?_; refine HC_seq fun K1 hK1 => HC_region ?_; refine HLm rfl ?_; refine HL_nil (hK1 _ _ _ _ ?_); refine HC_seq fun K2 hK2 => ?_; refine HC_seq fun K3 hK3 => HC_region ?_; refine HLm rfl (HLp rfl ?_); refine HL_nil (hK3 _ _ _ _ ?_); refine HC_cond rfl (fun h4 => ?_) (fun h4 => ?_)
    · try exact Bool.noConfusion h4
      try simp only [ZZ] at h4
      refine HC_seq fun K5 hK5 => HC_region ?_; refine HLm rfl ?_; refine HL_nil (hK5 _ _ _ _ ?_); refine HC_ret (HQ_thenR ?_); refine HQ_post rfl rfl (.cons (res_tmp rfl) .nil) (fun w1 hs1 => ?_); exact ⟨⟨none, rfl, rfl⟩, rfl, hs1⟩
    · try exact Bool.noConfusion h4
  | some q =>
    refine pureT_of_HC Tryz.func98 rfl rfl fun w => ?_; refine HC_seq fun K1 hK1 => HC_region ?_; refine HLm rfl ?_; refine HL_nil (hK1 _ _ _ _ ?_); refine HC_seq fun K2 hK2 => ?_; refine HC_seq fun K3 hK3 => HC_region ?_; refine HLm rfl (HLp rfl ?_); refine HL_nil (hK3 _ _ _ _ ?_); refine HC_cond rfl (fun h4 => ?_) (fun h4 => ?_)
    · try exact Bool.noConfusion h4
    · try exact Bool.noConfusion h4
      try simp only [ZZ] at h4
      refine HC_skip (hK2 _ _ _ _ ?_); refine HC_seq fun K6 hK6 => HC_region ?_; refine HL_buildSlice0 rfl rfl rfl rfl fun r1 => ?_; refine HLm rfl (HL_clone (k := 0) (b := 16) (sz := 1) rfl rfl rfl rfl rfl rfl hs (fun q hq => Or.inr hq) rfl rfl rfl rfl rfl (by decide) (by rw [chC_len, Nat.mul_one]) (chC_one l) (by omega) (by omega) fun row hrow => (HLm rfl ?_)); refine HL_nil (hK6 _ _ _ _ ?_); refine HC_ret ?_; refine HQ_post rfl rfl (.cons (res_tmp rfl) .nil) (fun w1 hs1 => ?_); exact ⟨⟨row, hrow⟩, rfl, hs1.weakL (List.sublist_append_left _ _)⟩
set_option maxRecDepth 10000 in
theorem E_mpairs (n : Nat) (row : Row) : PureE (α := Nat) Tryz.prog 99 [rowV n row].toArray (fun r => .func (.func 175) #[] #[pt0 r]) (fun r => [(r, .cells #[rowV n row] 45 (0, 0))]) := by
  refine pureE_of_HC Tryz.func99 rfl rfl fun w => ?_; refine HC_seq fun K1 hK1 => HC_region ?_; refine HL_box (cs := #[rowV n row]) rfl rfl rfl (rowV_cells n row) fun r1 => ?_; refine HLm rfl ?_; refine HL_nil (hK1 _ _ _ _ ?_); refine HC_seq fun K2 hK2 => HC_region ?_; refine HL_r rfl rfl rfl rfl (R_makeFunc rfl rfl) ?_; refine HLm rfl ?_; refine HL_nil (hK2 _ _ _ _ ?_); refine HC_ret ?_; refine HQ_post rfl rfl (.cons (res_tmp rfl) .nil) (fun w1 hs1 => ?_); exact ⟨r1, rfl, hs1⟩
def pairN (l : List BS) : Nat → List Value → List (Nat × Obj) → Nat → Prop := fun i v B i' => 2 * i + 1 < l.length ∧ i' = i + 1 ∧ v = [strV (l.getD (2 * i) []), strV (l.getD (2 * i + 1) [])] ∧ B = []
theorem pairN_len {l : List BS} : ∀ i v B i', pairN l i v B i' → v.length = 2 := by rintro _ _ _ _ ⟨_, _, rfl, _⟩; rfl
theorem getD_get {l : List BS} {i : Nat} (h : i < l.length) : l[i]? = some (l.getD i []) := by rw [List.getD_eq_getElem?_getD, List.getElem?_eq_getElem h]; rfl
set_option maxRecDepth 10000 in
theorem I_mpairs {l : List BS} {row : Row} (hl : l.length ≤ 1000000) (hrow : rowOk 1 l.length (chC l) row) (r : Nat) :
    IterB Tryz.prog 175 [pt0 r] ((r, .cells #[rowV l.length row] 45 (0, 0)) :: rowL 9 (chC l) row) 0 (pairN l) (fun i => ¬ 2 * i + 1 < l.length) := by
  have hs : Seg ((r, .cells #[plV l.length (rowP row)] 45 (0, 0)) :: rowL 9 (chC l) row) l.length (chC l) (rowP row) := (rowP_seg hrow (by decide)).mono fun q hq => List.mem_cons_of_mem _ hq
  rw [← rowP_V _ _ hrow.zero]; refine iterB_of_HC Tryz.func175 rfl rfl fun q xids w2 XI XF hY => ?_; refine HC_seq fun K1 hK1 => HC_region ?_; refine HLm rfl ?_; refine HL_nil (hK1 _ _ _ _ ?_); refine HC_block (HC_loop (σ := Nat) (fun i => 2 * i ≤ l.length + 1) (fun i => [(0, .func (.yield q) #[] #[]), (1, pt0 r), (3, .int .i64 ((2 * i : Nat) : Int))]) (fun _ => []) (fun i => XI i) (fun i => l.length + 1 - 2 * i) 0 (by omega) (.cons rfl (.cons rfl (.cons rfl .nil))) (List.Sublist.refl _) (fun _ _ h => h) ?_); intro i hi1; refine HC_seq fun K2 hK2 => ?_; refine HC_seq fun K3 hK3 => HC_region ?_; refine HLm rfl ?_
  refine HLp rfl ?_; refine HL_as (show _ = Value.int .i64 ((2 * i + 1 : Nat) : Int) from by rw [wrap_i64 (by omega) (by omega)]; congr 1 <;> omega) ?_; refine HL_r rfl rfl rfl rfl (R_load rfl (known_R (k := 0) rfl) rfl rfl) ?_; refine HL_r rfl rfl rfl rfl (R_lenPl rfl hs rfl) ?_; refine HLp rfl ?_; refine HL_nil (hK3 _ _ _ _ ?_); refine HC_cond rfl (fun h4 => ?_) (fun h4 => ?_)
  · try exact Bool.noConfusion h4
    try simp only [ZZ] at h4
    refine HC_skip (hK2 _ _ _ _ ?_); refine HC_seq fun K5 hK5 => HC_block ?_; refine HC_seq fun K6 hK6 => ?_; refine HC_draw 10 (by kernel_rfl) (by kernel_rfl) ?_; refine HD_r rfl rfl rfl (R_move rfl) ?_; refine HD_r rfl rfl rfl (R_load rfl (known_R (k := 0) rfl) rfl rfl) ?_; refine HD_r rfl rfl rfl (R_move rfl) ?_
    refine HD_r rfl rfl rfl (R_indexPl (j := (2 * i)) rfl hs rfl rfl rfl (by first | rfl | omega) (by omega)) ?_; refine HD_r rfl rfl rfl (R_loadPl1 (fun q hq => Or.inr hq) rfl hs (by omega) rfl (chC_get (getD_get (i := 2 * i) (by omega)))) ?_; refine HD_r rfl rfl rfl (R_load rfl (known_R (k := 0) rfl) rfl rfl) ?_; refine HD_r rfl rfl rfl (R_move rfl) ?_
    refine HD_r rfl rfl rfl (R_pure rfl rfl rfl) ?_; refine HD_as (show _ = Value.int .i64 ((2 * i + 1 : Nat) : Int) from by rw [wrap_i64 (by omega) (by omega)]; congr 1 <;> omega) ?_
    refine HD_r rfl rfl rfl (R_indexPl (j := (2 * i + 1)) rfl hs rfl rfl rfl (by first | rfl | omega) (by omega)) ?_; refine HD_r rfl rfl rfl (R_loadPl1 (fun q hq => Or.inr hq) rfl hs (by omega) rfl (chC_get (getD_get (i := 2 * i + 1) (by omega)))) ?_; refine HD_end ?_; refine HL_yieldB (B := []) (XT := XI (i + 1)) (XF := XF) rfl rfl rfl rfl (hY i [strV (l.getD (2 * i) []), strV (l.getD (2 * i + 1) [])] [] (i + 1) ⟨by omega, rfl, rfl, rfl⟩) (fun q hq => nomatch hq) ?_ ?_
    all_goals refine HLp rfl ?_
    all_goals refine HL_nil ?_
    all_goals (
     refine hK6 _ _ _ _ ?_; refine HC_cond rfl (fun h7 => ?_) (fun h7 => ?_)
     · try exact Bool.noConfusion h7
       all_goals try simp only [ZZ] at h7
       all_goals (
        refine HC_ret (HQ_blockR (HQ_thenR ?_)); refine HQ_thenR (HQ_blockR ?_); refine HQ_post rfl rfl .nil (fun w1 hs1 => ?_)
        obtain ⟨xs1, hx1⟩ := hs1.now
        exact ⟨⟨_, rfl⟩, hs1.keep, .inr ⟨_, hx1⟩⟩
        skip)
     · try exact Bool.noConfusion h7
       all_goals try simp only [ZZ] at h7
       all_goals (
        refine HC_skip (HQ_blockN (hK5 _ _ _ _ ?_)); refine HC_region (HLm rfl ?_)
        refine HLp rfl ?_; refine HL_as (show _ = Value.int .i64 ((2 * (i + 1) : Nat) : Int) from by rw [wrap_i64 (by omega) (by omega)]; congr 1 <;> omega) ?_; refine HLm rfl (HL_nil (HQ_then ?_)); exact HQ_again (i + 1) (by omega) (by omega) (.cons rfl (.cons rfl (.cons rfl .nil))) (List.Sublist.refl _) (fun _ _ h => h)
        skip)
     skip)
  · try exact Bool.noConfusion h4
    try simp only [ZZ] at h4
    refine HC_exit (HQ_thenE ?_); refine HQ_thenE (HQ_blockE ?_); refine HQ_postN rfl rfl .nil (fun w1 hs1 => ?_)
    obtain ⟨xs1, hx1⟩ := hs1.now
    exact ⟨⟨_, rfl⟩, hs1.keep, .inl ⟨i, _, by omega, hx1⟩⟩
end Go.Proofs.YtlcbfphioeppaaaGreatDoor
/-! ### Loops in which loops over functions stand: each one leaves a mark -/
namespace Go.SL
set_option linter.all false
open Go Go.RowKit Go.Shelf
open Go.Proofs (Enters enters_of)
section
variable {c : Cx} {l : List (Nat × Value)} {L : List (Nat × Obj)} {X : XP} {Q : Exit → Act → World → Prop} {d : List Deferred}
theorem HC_subL {L' : List (Nat × Obj)} {code : Code} (hL : L'.Sublist L) (h : HC c d l L' X code Q) : HC c d l L X code Q := fun a w hf hs => h a w hf (hs.weakL hL)
theorem HQ_subL {L' : List (Nat × Obj)} {K : Act → World → Prop} (hL : L'.Sublist L) (h : HQ c d l L' X K) : HQ c d l L X K := fun a w hf hs => h a w hf (hs.weakL hL)
def AgainD {σ : Type} (c : Cx) (DD : σ → List Deferred) (I : σ → Prop) (lI : σ → List (Nat × Value)) (LI : σ → List (Nat × Obj)) (XI : σ → XP) (μ : σ → Nat) (s : σ) : Act → World → Prop := fun a w =>
  ∃ s', I s' ∧ μ s' < μ s ∧ Fr c.n (DD s') (lI s') a ∧ St c (LI s') (XI s') w
theorem HC_loopD {σ : Type} {body : Code} (DD : σ → List Deferred) (I : σ → Prop) (lI : σ → List (Nat × Value)) (LI : σ → List (Nat × Obj)) (XI : σ → XP) (μ : σ → Nat) (s0 : σ) (hd : DD s0 = d) (h0 : I s0) (hl : LookAll l (lI s0)) (hL : (LI s0).Sublist L) (hX : ∀ xs w, X xs w → XI s0 xs w)
    (hr : ∀ s, I s → HC c (DD s) (lI s) (LI s) (XI s) body (Exit.then (AgainD c DD I lI LI XI μ s) Q)) : HC c d l L X (.loop body) Q := fun a w hf hs => by
  have least : ∀ p : Nat → Prop, (∃ m, p m) → ∃ m, p m ∧ ∀ k, p k → m ≤ k := by
    intro p ⟨m, hm⟩
    induction m using Nat.strongRecOn with
    | _ m ih =>
      by_cases hx : ∃ k, k < m ∧ p k
      · obtain ⟨k, hk, hp⟩ := hx; exact ih k hk hp
      · exact ⟨m, hm, fun k hp => Nat.le_of_not_lt fun hlt => hx ⟨k, hlt, hp⟩⟩
  let p : Act → World → Nat → Prop := fun a w m => ∃ s, I s ∧ Fr c.n (DD s) (lI s) a ∧ St c (LI s) (XI s) w ∧ μ s = m
  have meas : ∃ f : Act → World → Nat, ∀ a w, (∃ m, p a w m) → p a w (f a w) ∧ ∀ k, p a w k → f a w ≤ k := by
    have h1 : ∀ a w, ∃ m, (∃ m, p a w m) → p a w m ∧ ∀ k, p a w k → m ≤ k := fun a w => by
      by_cases hx : ∃ m, p a w m
      · obtain ⟨m, hm⟩ := least _ hx; exact ⟨m, fun _ => hm⟩
      · exact ⟨0, fun hy => absurd hy hx⟩
    exact ⟨fun a w => Classical.choose (h1 a w), fun a w => Classical.choose_spec (h1 a w)⟩
  obtain ⟨f, hfm⟩ := meas
  refine wpIn_loop (fun a w => ∃ m, p a w m) f ⟨μ s0, s0, h0, hd ▸ hf.weak hl.get, (hs.weakL hL).weakX hX, rfl⟩ ?_
  intro a w hp
  obtain ⟨⟨s, h1, h2, h3, h4⟩, _⟩ := hfm a w hp
  refine wpIn_mono (hr s h1 a w h2 h3) ?_
  intro e a' w' hq
  cases e with
  | normal =>
    obtain ⟨s', g1, g2, g3, g4⟩ := hq
    have hp' : p a' w' (μ s') := ⟨s', g1, g3, g4, rfl⟩
    refine ⟨⟨_, hp'⟩, ?_⟩
    have := (hfm a' w' ⟨_, hp'⟩).2 _ hp'
    omega
  | _ => exact hq
theorem HQ_againD {σ : Type} {DD : σ → List Deferred} {I : σ → Prop} {lI : σ → List (Nat × Value)} {LI : σ → List (Nat × Obj)} {XI : σ → XP} {μ : σ → Nat} {s : σ} (s' : σ) (hd : DD s' = d) (h1 : I s') (h2 : μ s' < μ s) (h3 : LookAll l (lI s')) (h4 : (LI s').Sublist L) (h5 : ∀ xs w, X xs w → XI s' xs w) :
    HQ c d l L X (AgainD c DD I lI LI XI μ s) := fun _ _ hf hs => ⟨s', h1, h2, hd ▸ hf.weak h3.get, (hs.weakL h4).weakX h5⟩
def marksL (Ds : List Nat) : List (Nat × Obj) := Ds.map fun D => (D, .deferred (some []))
theorem HQ_marks {fn : Func} {R : Ending → World → Prop} {P : Program} : ∀ (Ds : List Nat) (h : HQ c d l L X (bodyPostM (FW none) 0 P fn R .ret)), HQ c (Ds.map markOf ++ d) l (marksL Ds ++ L) X (bodyPostM (FW none) 0 P fn R .ret)
  | [], h => h
  | D :: Ds, h => HQ_mark (k := 0) rfl rfl (HQ_subL (List.sublist_cons_self _ _) (HQ_marks Ds h))
end
end Go.SL
namespace Go.Proofs.YtlcbfphioeppaaaGreatDoor
set_option linter.all false
open Go.SL Go.RowKit Go.Shelf
/-! ### tree -/
theorem pow_lg {k m : Nat} : 2 ^ k < m ↔ k < lg m := by
  constructor
  · intro h
    rcases Nat.lt_or_ge k (lg m) with h1 | h1
    · exact h1
    · have h2 := lg_up m
      have h3 : 2 ^ lg m ≤ 2 ^ k := Nat.pow_le_pow_right (by decide) h1
      omega
  · exact lg_lo
theorem pair_take (l : List BS) : ∀ {i : Nat}, 2 * i + 1 < l.length → (SL.pairUp l).take (i + 1) = (SL.pairUp l).take i ++ [kec (l.getD (2 * i) [] ++ l.getD (2 * i + 1) [])] := by
  induction l using SL.pairUp.induct with
  | case1 a b l ih =>
    intro i hi
    cases i with
    | zero => rw [SL.pairUp]; rfl
    | succ i =>
      rw [SL.pairUp, List.take_succ_cons, List.take_succ_cons, ih (by simp only [List.length_cons] at hi; omega), show 2 * (i + 1) = 2 * i + 1 + 1 by omega, show 2 * i + 1 + 1 + 1 = 2 * i + 1 + 1 + 1 by rfl]
      rfl
  | case2 l h =>
    intro i hi
    match l, h with
    | [], _ => simp at hi
    | [a], _ => simp at hi
    | a :: b :: l, h => exact absurd rfl (h a b l)
theorem padOdd_even (l : List BS) (z : BS) : (padOdd l z).length % 2 = 0 := by rw [padOdd_len]; omega
theorem padOdd_mem {l : List BS} {z : BS} (h : ∀ x ∈ l, x.length = 32) (hz : z.length = 32) : ∀ x ∈ padOdd l z, x.length = 32 := by
  intro x hx
  unfold padOdd at hx
  split at hx
  · rcases List.mem_append.1 hx with hx | hx
    · exact h x hx
    · rw [List.mem_singleton.1 hx]; exact hz
  · exact h x hx
theorem getD_len {l : List BS} (h : ∀ x ∈ l, x.length = 32) {i : Nat} (hi : i < l.length) : (l.getD i []).length = 32 := h _ (List.mem_of_getElem? (getD_get hi))
theorem wrap_two {n : Nat} (h : n ≤ 65536) : IntKind.i64.wrap ((n : Int) * 2) = ((n * 2 : Nat) : Int) := by
  rw [wrap_i64 (by omega) (by omega)]; omega
/-- Where the loop of tree stands. -/
structure TreeI (l0 : List BS) (m : Nat) (k : Nat) (ls : List BS) (row : Row) (z : BS) : Prop where
  le : k ≤ lg m
  ok : rowOk 1 ls.length (chC ls) row
  eq : treeP (lg m - k) ls z = rootC l0 m
  len : ls.length ≤ 2 ^ (lg m - k)
  mem : ∀ x ∈ ls, x.length = 32
  zl : z.length = 32
set_option maxHeartbeats 1000000 in
set_option maxRecDepth 10000 in
theorem S_mtree {R : List (Nat × Obj)} {l : List BS} {p : Pl} {m : Nat} (hl : l.length ≤ m) (hm2 : m ≤ 65536) (hs : Seg R l.length (chC l) p) (h32 : ∀ s ∈ l, s.length = 32) :
    PureR Tryz.prog 54 [plV l.length p, .int .i64 (m : Int)].toArray (strV (rootC l m)) R := by
  have hlg : lg m ≤ 16 := lg_le (by simpa using hm2)
  have h0 := rootC_P hl
  refine pureR_of_HC Tryz.func54 rfl rfl fun w => ?_; refine HC_seq fun K1 hK1 => HC_region ?_; refine HLm rfl ?_; refine HL_nil (hK1 _ _ _ _ ?_); refine HC_seq fun K2 hK2 => HC_region ?_; refine HLm rfl (HL_callRE rfl rfl rfl (enters_of Tryz.func98 (by kernel_rfl) rfl) (S_cloneC (by omega) hs) (fun q hq => Or.inr hq) fun x => ?_)
  obtain ⟨row, hrow⟩ := x
  refine HL_perm (List.perm_append_comm (l₂ := [])) ?_; change HL _ _ ((11, rowV l.length row) :: _) (rowL 9 (chC l) row) _ _ _ _; refine HLm rfl ?_; refine HL_nil (hK2 _ _ _ _ ?_); refine HC_seq fun K3 hK3 => HC_region ?_; refine HL_callP rfl rfl rfl (enters_of Tryz.func57 (by kernel_rfl) rfl) (P_full (s := []) (by decide)) ?_; refine HL_as (show _ = strV z32 from rfl) ?_; refine HLm rfl ?_; refine HL_nil (hK3 _ _ _ _ ?_); refine HC_seq fun K4 hK4 => ?_; refine HC_seq fun K5 hK5 => HC_region ?_; refine HLm rfl ?_; refine HL_nil (hK5 _ _ _ _ ?_); refine HC_block (HC_loopD (σ := Nat × List BS × Row × BS × List Nat) (fun q => q.2.2.2.2.map markOf ++ []) (fun q => TreeI l m q.1 q.2.1 q.2.2.1 q.2.2.2.1) (fun q => [(0, rowV q.2.1.length q.2.2.1), (1, .int .i64 (m : Int)), (5, strV q.2.2.2.1), (6, .int .i64 ((2 ^ q.1 : Nat) : Int))]) (fun q => marksL q.2.2.2.2 ++ rowL 9 (chC q.2.1) q.2.2.1) (fun _ _ _ => True) (fun q => lg m - q.1) (0, l, row, z32, []) rfl ⟨Nat.zero_le _, hrow, h0, Nat.le_trans hl (lg_up m), h32, rfl⟩ (.cons rfl (.cons rfl (.cons rfl (.cons rfl .nil)))) (List.Sublist.refl _) (fun _ _ h => h) ?_); rintro ⟨k, ls, row, z, Ds⟩ hi; simp only at hi; change HC _ (Ds.map markOf ++ []) [(0, rowV ls.length row), (1, _), (5, strV z), (6, .int .i64 ((2 ^ k : Nat) : Int))] (marksL Ds ++ rowL _ (chC ls) row) _ _ _; refine HC_seq fun K6 hK6 => ?_; refine HC_seq fun K7 hK7 => HC_region ?_; refine HLm rfl (HLm rfl (HLp rfl ?_)); refine HL_nil (hK7 _ _ _ _ ?_); refine HC_cond rfl (fun h8 => ?_) (fun h8 => ?_)
  · try exact Bool.noConfusion h8
    try simp only [ZZ] at h8
    refine HC_skip (hK6 _ _ _ _ ?_); refine HC_seq fun K9 hK9 => HC_block ?_; refine HC_seq fun K10 hK10 => ?_; refine HC_seq fun K11 hK11 => ?_
    have hk : k < lg m := pow_lg.1 (by omega)
    obtain ⟨K, hK⟩ : ∃ K, lg m - k = K + 1 := ⟨lg m - k - 1, by omega⟩
    have heq := hi.eq
    have hlen := hi.len
    rw [hK, treeP] at heq; rw [hK, Nat.pow_succ] at hlen
    have hK16 : 2 ^ K ≤ 65536 := by have := Nat.pow_le_pow_right (n := 2) (i := K) (j := 16) (by decide) (by omega); simpa using this
    have hzl := hi.zl
    have hk16 : 2 ^ k ≤ 65536 := by have := Nat.pow_le_pow_right (n := 2) (i := k) (j := 16) (by decide) (by omega); simpa using this
    refine HC_region (HLm rfl (HL_r rfl rfl rfl rfl (R_lenRow rfl hi.ok.zero rfl) ?_)); refine HLp rfl (HL_as (show _ = Value.int .i64 ((ls.length % 2 : Nat) : Int) from congrArg (Value.int .i64) (rem_nat _ 2)) (HLp rfl ?_)); refine HL_nil (hK11 _ _ _ _ ?_); refine HC_cond rfl (fun h12 => ?_) (fun h12 => ?_)
    · try exact Bool.noConfusion h12
      try simp only [ZZ] at h12
      refine HC_region (HLm rfl (HLm rfl ?_)); refine HL_buildSlice (vs := [_]) (zs := [_]) (r := [_]) rfl rfl rfl rfl rfl rfl rfl rfl rfl (by show (madeCells #[_] _).toList = _; rw [made_one]; exact rfl) rfl fun r1 => ?_; refine HL_appendRow (L0 := _ :: marksL Ds) (xs := chC ls) (row := row) (n := ls.length) (sz := 1) (b := 16) (news := [_]) (List.perm_append_comm (l₁ := _ :: marksL Ds)) rfl rfl rfl rfl (known_L (k := 0) rfl) rfl rfl rfl rfl rfl (by decide) rfl rfl rfl (by decide) hi.ok (by omega) (by omega) fun ra cap sp hra => ?_; refine HLm rfl ?_; refine HL_nil (hK10 _ _ _ _ ?_); refine HC_seq fun K13 hK13 => ?_
      (have e : padOdd ls z = ls ++ [z] := by unfold padOdd; rw [if_pos (by omega)]
       refine HC_perm (List.perm_append_comm (l₁ := [_])) ?_; refine HC_subL (L' := marksL Ds ++ rowL 9 (chC ls ++ [strV z]) (some (ra, cap, sp))) (.cons _ (List.Sublist.refl _)) ?_; change HC _ _ ((0, rowV (ls.length + 1) (some (ra, cap, sp))) :: _) _ _ _ _
       generalize hn2 : ls.length + 1 = n2 at hra ⊢
       generalize hc2 : chC ls ++ [strV z] = xs2 at hra ⊢
       generalize (some (ra, cap, sp) : Row) = row2 at hra ⊢
       obtain rfl : n2 = (padOdd ls z).length := by rw [e, ← hn2, List.length_append]; rfl
       obtain rfl : xs2 = chC (padOdd ls z) := by rw [e, ← hc2]; unfold chC; rw [List.map_append]; rfl)
      have hm2e := padOdd_mem hi.mem hi.zl
      have hev := padOdd_even ls z
      have hl2 := padOdd_len ls z
      obtain ⟨ls2, hls2⟩ : ∃ x, x = padOdd ls z := ⟨_, rfl⟩
      rw [← hls2] at hm2e hev hl2 hra heq ⊢
      have hl2b : ls2.length ≤ 2 ^ K * 2 := by omega
      refine HC_region (HL_alloc (cs := #[_]) rfl rfl rfl rfl fun r1 => ?_); refine HL_nil (hK13 _ _ _ _ ?_); refine HC_seq fun K14 hK14 => ?_; refine HC_seq fun K15 hK15 => HC_region ?_; refine HLm rfl (HL_callPE rfl rfl rfl (enters_of Tryz.func99 (by kernel_rfl) rfl) (E_mpairs ls2.length row2) fun rb => (HL_perm ((List.Perm.swap _ _ _).trans (List.Perm.cons _ List.perm_middle.symm)) ?_)); change HL _ _ _ ((r1, .cells #[.slice none 0 0] 45 (0, 0)) :: (marksL Ds ++ ((rb, .cells #[rowV ls2.length row2] 45 (0, 0)) :: rowL 9 (chC ls2) row2))) _ _ _ _; refine HL_nil (hK15 _ _ _ _ ?_); refine HC_block ?_; refine HC_rangeB (τ := Unit) (fun i (s : Nat × List Value × Row) => 2 * i ≤ ls2.length ∧ s.1 = i ∧ s.2.1 = chC ((SL.pairUp ls2).take i) ∧ rowOk 1 i s.2.1 s.2.2) (fun s => (r1, .cells #[rowV s.1 s.2.2] 45 (0, 0)) :: rowL 9 s.2.1 s.2.2) (fun _ _ => False) (fun _ => []) (marksL Ds ++ ((rb, .cells #[rowV ls2.length row2] 45 (0, 0)) :: rowL 9 (chC ls2) row2)) (0, [], none) rfl rfl (enters_of Tryz.func175 (by kernel_rfl) rfl) (I_mpairs (by omega) hra rb) pairN_len rfl (fun q hq => .inl (List.mem_append_right _ hq)) rfl ⟨Nat.zero_le _, rfl, rfl, rfl, rfl⟩ ?_ ?_ ?_
      · rintro q Xr Xb w3 i _ _ _ ⟨n, xs, row3⟩ ⟨hii, rfl, rfl, rfl⟩ ⟨h2i, hn, hxs, hr3⟩ Kr hKr
        simp only at hn hxs hr3; rw [← hn] at hr3; refine HC_seq fun K16 hK16 => HC_region ?_; refine HLm rfl ?_; refine HL_nil (hK16 _ _ _ _ ?_); refine HC_region (HLm rfl (HL_nil ?_)); refine hKr _ _ ?_; clear hKr; refine HC_block ?_
        have hg1 := getD_len hm2e (i := 2 * i) (by omega)
        have hg2 := getD_len hm2e (i := 2 * i + 1) (by omega)
        have hkc := P_kec (s := ls2.getD (2 * i) [] ++ ls2.getD (2 * i + 1) []) (by rw [List.length_append]; omega)
        obtain ⟨sv, hsv⟩ : ∃ x, x = kec (ls2.getD (2 * i) [] ++ ls2.getD (2 * i + 1) []) := ⟨_, rfl⟩
        rw [← hsv] at hkc; refine HC_drawA [(r1, .cells #[rowV n row3] 45 (0, 0))] [(0, .pure), (1, .pure), (2, .pure), (3, .pure), (4, .pure), (5, .act (aeNew (slV 1) (.cells #[strV sv] 9 (0, 0))))] 6 (by kernel_rfl) (by kernel_rfl) (fun p hp => List.mem_singleton.1 hp ▸ List.mem_cons_self) ?_; refine HA_p rfl rfl rfl rfl (fun _ hS => (R_load rfl (.inl (hS _ (mem_nth (n := 0) rfl))) rfl rfl)) ?_; refine HA_p rfl rfl rfl rfl (fun _ hS => (R_move rfl)) ?_; refine HA_p rfl rfl rfl rfl (fun _ hS => (R_move rfl)) ?_; refine HA_p rfl rfl rfl rfl (fun _ hS => (R_concat (a := ls2.getD (2 * i) []) (b := ls2.getD (2 * i + 1) []) rfl rfl (by omega))) ?_; refine HA_callP rfl rfl rfl rfl (enters_of Tryz.func34 (by kernel_rfl) rfl) hkc ?_; refine HA_buildSlice (n := 1) (sz := 1) (vs := [_]) (zs := [_]) (r := [strV sv]) rfl rfl rfl rfl rfl rfl rfl rfl rfl rfl (by show (madeCells #[_] _).toList = _; rw [made_one]; exact rfl) rfl (fun p hp => List.mem_singleton.1 hp ▸ List.mem_cons_self) fun rv => ?_; refine HA_end ?_; refine HL_appendRow (L0 := [_, _]) (xs := xs) (row := row3) (n := n) (sz := 1) (b := 16) (news := [strV sv]) (List.perm_append_comm (l₁ := [_, _])) rfl rfl rfl rfl (known_L (k := 0) rfl) rfl rfl rfl rfl rfl (by decide) rfl rfl rfl (by decide) hr3 (by omega) (by omega) fun ra cap sp hra => ?_; refine HL_store (k := 2) (cs' := #[rowV (n + 1) (some (ra, cap, sp))]) rfl rfl rfl rfl rfl rfl rfl rfl rfl rfl ?_; refine HL_nil ?_; refine HQ_blockN (HQ_sel [2, 0] (L' := [_, _]) (by decide) rfl ?_); exact HQ_round (n + 1, xs ++ [strV sv], some (ra, cap, sp)) ⟨by omega, by simp only; omega, by simp only; rw [pair_take ls2 hii, ← hsv, hxs]; unfold chC; rw [List.map_append]; rfl, by rw [← hn]; exact hra⟩ rfl
      · rintro D i ⟨n, xs, row3⟩ hfi ⟨h2i, hn, hxs, hr3⟩
        simp only at hn hxs hr3
        have hi2 : 2 * i = ls2.length := by omega
        have hpl := pairUp_len ls2
        rw [List.take_of_length_le (by omega)] at hxs
        obtain rfl : n = (SL.pairUp ls2).length := by omega
        subst hxs; rw [← hn] at hr3; refine HQ_blockN (hK14 _ _ _ _ ?_)
        have hkz := P_kec (s := z ++ z) (by rw [List.length_append]; omega)
        obtain ⟨z2, hz2⟩ : ∃ x, x = kec (z ++ z) := ⟨_, rfl⟩
        rw [← hz2] at hkz heq; refine HC_draw 7 (by kernel_rfl) (by kernel_rfl) ?_; refine HD_r rfl rfl rfl (R_load (v := rowV (SL.pairUp ls2).length row3) rfl (known_L (k := 1) rfl) rfl rfl) ?_; refine HD_r rfl rfl rfl (R_move rfl) ?_; refine HD_r rfl rfl rfl (R_move rfl) ?_; refine HD_r rfl rfl rfl (R_concat (a := z) (b := z) rfl rfl (by omega)) ?_; refine HD_callP rfl rfl rfl (enters_of Tryz.func34 (by kernel_rfl) rfl) hkz ?_; refine HD_r rfl rfl rfl (R_assign rfl) ?_; refine HD_r rfl rfl rfl (R_assign rfl) ?_; refine HD_end ?_; refine HL_nil ?_; refine HQ_blockN (hK9 _ _ _ _ ?_); refine HC_region (HLm rfl ?_); refine HLp rfl (HL_as (show _ = Value.int .i64 ((2 ^ (k + 1) : Nat) : Int) from congrArg (Value.int .i64) ((wrap_two hk16).trans (by rw [Nat.pow_succ]))) ?_); refine HLm rfl (HL_nil (HQ_then ?_)); refine HQ_perm (List.Perm.cons _ (perm_mid (_ :: rowL 9 (chC (SL.pairUp ls2)) row3) (marksL Ds) _)) ?_; exact HQ_againD (k + 1, SL.pairUp ls2, row3, z2, D :: Ds) rfl ⟨hk, hr3, by rw [show lg m - (k + 1) = K by omega]; exact heq, by rw [show lg m - (k + 1) = K by omega]; simp only; omega, pairUp_mem ls2, by rw [hz2]; exact kec_len _⟩ (by simp only; omega) (.cons rfl (.cons rfl (.cons rfl (.cons rfl .nil)))) (.cons_cons _ ((List.Sublist.refl _).append (.cons _ (List.sublist_append_left _ _)))) (fun _ _ h => h)
      · exact fun _ _ _ h => h.elim
    · try exact Bool.noConfusion h12
      try simp only [ZZ] at h12
      refine HC_skip (hK10 _ _ _ _ ?_); refine HC_seq fun K17 hK17 => ?_
      (have e : padOdd ls z = ls := by unfold padOdd; rw [if_neg (by omega)]
       have hra := hi.ok
       generalize row = row2 at hra ⊢
       generalize hn2 : ls.length = n2 at hra ⊢
       generalize hc2 : chC ls = xs2 at hra ⊢
       obtain rfl : n2 = (padOdd ls z).length := by rw [e, ← hn2]
       obtain rfl : xs2 = chC (padOdd ls z) := by rw [e, ← hc2])
      have hm2e := padOdd_mem hi.mem hi.zl
      have hev := padOdd_even ls z
      have hl2 := padOdd_len ls z
      obtain ⟨ls2, hls2⟩ : ∃ x, x = padOdd ls z := ⟨_, rfl⟩
      rw [← hls2] at hm2e hev hl2 hra heq ⊢
      have hl2b : ls2.length ≤ 2 ^ K * 2 := by omega
      refine HC_region (HL_alloc (cs := #[_]) rfl rfl rfl rfl fun r1 => ?_); refine HL_nil (hK17 _ _ _ _ ?_); refine HC_seq fun K18 hK18 => ?_; refine HC_seq fun K19 hK19 => HC_region ?_; refine HLm rfl (HL_callPE rfl rfl rfl (enters_of Tryz.func99 (by kernel_rfl) rfl) (E_mpairs ls2.length row2) fun rb => (HL_perm ((List.Perm.swap _ _ _).trans (List.Perm.cons _ List.perm_middle.symm)) ?_)); change HL _ _ _ ((r1, .cells #[.slice none 0 0] 45 (0, 0)) :: (marksL Ds ++ ((rb, .cells #[rowV ls2.length row2] 45 (0, 0)) :: rowL 9 (chC ls2) row2))) _ _ _ _; refine HL_nil (hK19 _ _ _ _ ?_); refine HC_block ?_; refine HC_rangeB (τ := Unit) (fun i (s : Nat × List Value × Row) => 2 * i ≤ ls2.length ∧ s.1 = i ∧ s.2.1 = chC ((SL.pairUp ls2).take i) ∧ rowOk 1 i s.2.1 s.2.2) (fun s => (r1, .cells #[rowV s.1 s.2.2] 45 (0, 0)) :: rowL 9 s.2.1 s.2.2) (fun _ _ => False) (fun _ => []) (marksL Ds ++ ((rb, .cells #[rowV ls2.length row2] 45 (0, 0)) :: rowL 9 (chC ls2) row2)) (0, [], none) rfl rfl (enters_of Tryz.func175 (by kernel_rfl) rfl) (I_mpairs (by omega) hra rb) pairN_len rfl (fun q hq => .inl (List.mem_append_right _ hq)) rfl ⟨Nat.zero_le _, rfl, rfl, rfl, rfl⟩ ?_ ?_ ?_
      · rintro q Xr Xb w3 i _ _ _ ⟨n, xs, row3⟩ ⟨hii, rfl, rfl, rfl⟩ ⟨h2i, hn, hxs, hr3⟩ Kr hKr
        simp only at hn hxs hr3; rw [← hn] at hr3; refine HC_seq fun K20 hK20 => HC_region ?_; refine HLm rfl ?_; refine HL_nil (hK20 _ _ _ _ ?_); refine HC_region (HLm rfl (HL_nil ?_)); refine hKr _ _ ?_; clear hKr; refine HC_block ?_
        have hg1 := getD_len hm2e (i := 2 * i) (by omega)
        have hg2 := getD_len hm2e (i := 2 * i + 1) (by omega)
        have hkc := P_kec (s := ls2.getD (2 * i) [] ++ ls2.getD (2 * i + 1) []) (by rw [List.length_append]; omega)
        obtain ⟨sv, hsv⟩ : ∃ x, x = kec (ls2.getD (2 * i) [] ++ ls2.getD (2 * i + 1) []) := ⟨_, rfl⟩
        rw [← hsv] at hkc; refine HC_drawA [(r1, .cells #[rowV n row3] 45 (0, 0))] [(0, .pure), (1, .pure), (2, .pure), (3, .pure), (4, .pure), (5, .act (aeNew (slV 1) (.cells #[strV sv] 9 (0, 0))))] 6 (by kernel_rfl) (by kernel_rfl) (fun p hp => List.mem_singleton.1 hp ▸ List.mem_cons_self) ?_; refine HA_p rfl rfl rfl rfl (fun _ hS => (R_load rfl (.inl (hS _ (mem_nth (n := 0) rfl))) rfl rfl)) ?_; refine HA_p rfl rfl rfl rfl (fun _ hS => (R_move rfl)) ?_; refine HA_p rfl rfl rfl rfl (fun _ hS => (R_move rfl)) ?_; refine HA_p rfl rfl rfl rfl (fun _ hS => (R_concat (a := ls2.getD (2 * i) []) (b := ls2.getD (2 * i + 1) []) rfl rfl (by omega))) ?_; refine HA_callP rfl rfl rfl rfl (enters_of Tryz.func34 (by kernel_rfl) rfl) hkc ?_; refine HA_buildSlice (n := 1) (sz := 1) (vs := [_]) (zs := [_]) (r := [strV sv]) rfl rfl rfl rfl rfl rfl rfl rfl rfl rfl (by show (madeCells #[_] _).toList = _; rw [made_one]; exact rfl) rfl (fun p hp => List.mem_singleton.1 hp ▸ List.mem_cons_self) fun rv => ?_; refine HA_end ?_; refine HL_appendRow (L0 := [_, _]) (xs := xs) (row := row3) (n := n) (sz := 1) (b := 16) (news := [strV sv]) (List.perm_append_comm (l₁ := [_, _])) rfl rfl rfl rfl (known_L (k := 0) rfl) rfl rfl rfl rfl rfl (by decide) rfl rfl rfl (by decide) hr3 (by omega) (by omega) fun ra cap sp hra => ?_; refine HL_store (k := 2) (cs' := #[rowV (n + 1) (some (ra, cap, sp))]) rfl rfl rfl rfl rfl rfl rfl rfl rfl rfl ?_; refine HL_nil ?_; refine HQ_blockN (HQ_sel [2, 0] (L' := [_, _]) (by decide) rfl ?_); exact HQ_round (n + 1, xs ++ [strV sv], some (ra, cap, sp)) ⟨by omega, by simp only; omega, by simp only; rw [pair_take ls2 hii, ← hsv, hxs]; unfold chC; rw [List.map_append]; rfl, by rw [← hn]; exact hra⟩ rfl
      · rintro D i ⟨n, xs, row3⟩ hfi ⟨h2i, hn, hxs, hr3⟩
        simp only at hn hxs hr3
        have hi2 : 2 * i = ls2.length := by omega
        have hpl := pairUp_len ls2
        rw [List.take_of_length_le (by omega)] at hxs
        obtain rfl : n = (SL.pairUp ls2).length := by omega
        subst hxs; rw [← hn] at hr3; refine HQ_blockN (hK18 _ _ _ _ ?_)
        have hkz := P_kec (s := z ++ z) (by rw [List.length_append]; omega)
        obtain ⟨z2, hz2⟩ : ∃ x, x = kec (z ++ z) := ⟨_, rfl⟩
        rw [← hz2] at hkz heq; refine HC_draw 7 (by kernel_rfl) (by kernel_rfl) ?_; refine HD_r rfl rfl rfl (R_load (v := rowV (SL.pairUp ls2).length row3) rfl (known_L (k := 1) rfl) rfl rfl) ?_; refine HD_r rfl rfl rfl (R_move rfl) ?_; refine HD_r rfl rfl rfl (R_move rfl) ?_; refine HD_r rfl rfl rfl (R_concat (a := z) (b := z) rfl rfl (by omega)) ?_; refine HD_callP rfl rfl rfl (enters_of Tryz.func34 (by kernel_rfl) rfl) hkz ?_; refine HD_r rfl rfl rfl (R_assign rfl) ?_; refine HD_r rfl rfl rfl (R_assign rfl) ?_; refine HD_end ?_; refine HL_nil ?_; refine HQ_blockN (hK9 _ _ _ _ ?_); refine HC_region (HLm rfl ?_); refine HLp rfl (HL_as (show _ = Value.int .i64 ((2 ^ (k + 1) : Nat) : Int) from congrArg (Value.int .i64) ((wrap_two hk16).trans (by rw [Nat.pow_succ]))) ?_); refine HLm rfl (HL_nil (HQ_then ?_)); refine HQ_perm (List.Perm.cons _ (perm_mid (_ :: rowL 9 (chC (SL.pairUp ls2)) row3) (marksL Ds) _)) ?_; exact HQ_againD (k + 1, SL.pairUp ls2, row3, z2, D :: Ds) rfl ⟨hk, hr3, by rw [show lg m - (k + 1) = K by omega]; exact heq, by rw [show lg m - (k + 1) = K by omega]; simp only; omega, pairUp_mem ls2, by rw [hz2]; exact kec_len _⟩ (by simp only; omega) (.cons rfl (.cons rfl (.cons rfl (.cons rfl .nil)))) (.cons_cons _ ((List.Sublist.refl _).append (.cons _ (List.sublist_append_left _ _)))) (fun _ _ h => h)
      · exact fun _ _ _ h => h.elim
  · try exact Bool.noConfusion h8
    try simp only [ZZ] at h8
    refine HC_exit (HQ_thenE ?_); refine HQ_thenE (HQ_blockE (hK4 _ _ _ _ ?_)); refine HC_seq fun K21 hK21 => ?_; refine HC_seq fun K22 hK22 => ?_
    have hkl : ¬ k < lg m := fun h => by have := pow_lg.2 h; omega
    obtain rfl : k = lg m := by have := hi.le; omega
    have heq := hi.eq
    have hlen := hi.len
    rw [Nat.sub_self] at heq hlen; refine HC_region (HLm rfl (HL_r rfl rfl rfl rfl (R_lenRow rfl hi.ok.zero rfl) ?_)); refine HLp rfl ?_; refine HL_nil (hK22 _ _ _ _ ?_); refine HC_cond rfl (fun h23 => ?_) (fun h23 => ?_)
    · try exact Bool.noConfusion h23
      try simp only [ZZ] at h23
      refine HC_seq fun K24 hK24 => HC_region ?_; refine HLm rfl (HLm rfl ?_); refine HL_nil (hK24 _ _ _ _ ?_); refine HC_ret (HQ_thenR ?_); refine HQ_marks Ds ?_; refine HQ_post rfl rfl (.cons (res_tmp rfl) .nil) (fun w1 hs1 => ?_); refine ⟨?_, hs1.keep⟩
      (obtain rfl : ls = [] := List.eq_nil_of_length_eq_zero (by omega)
       rw [← heq]; rfl)
    · try exact Bool.noConfusion h23
      try simp only [ZZ] at h23
      refine HC_skip (hK21 _ _ _ _ ?_); refine HC_seq fun K25 hK25 => ?_
      obtain ⟨s0, hls1⟩ : ∃ s0, ls = [s0] := by
        match ls, hlen with
        | [a], _ => exact ⟨a, rfl⟩
        | [], _ => exact absurd rfl (by assumption)
        | _ :: _ :: _, h => simp at h
      refine HC_region (HLm rfl ?_); refine HL_r rfl rfl rfl rfl (R_indexPl (p := rowP row) (j := 0) (show _ = some (plV ls.length (rowP row)) from by rw [rowP_V _ _ hi.ok.zero]; rfl) (rowP_seg (e := 9) hi.ok (by decide)) rfl rfl rfl rfl (by omega)) ?_; refine HL_r rfl rfl rfl rfl (R_loadPl1 (p := rowP row) (fun q hq => Or.inl (List.mem_append_right _ hq)) rfl (rowP_seg (e := 9) hi.ok (by decide)) (by omega) rfl (chC_get (show ls[0]? = some s0 from by rw [hls1]; rfl))) ?_; refine HLm rfl ?_; refine HL_nil (hK25 _ _ _ _ ?_); refine HC_ret (HQ_marks Ds ?_); refine HQ_post rfl rfl (.cons (res_tmp rfl) .nil) (fun w1 hs1 => ?_); refine ⟨?_, hs1.keep⟩; rw [← heq, hls1]; rfl
end Go.Proofs.YtlcbfphioeppaaaGreatDoor
namespace Go.Proofs.YtlcbfphioeppaaaGreatDoor
set_option linter.all false
open Go.SL Go.RowKit Go.Shelf
/-! ### Tree, mix, Mix; Low -/
def idxG {α : Type} (b : α → Bool) : List α → Int → Int
  | [], _ => -1
  | x :: xs, i => if b x = true then i else idxG b xs (i + 1)
theorem idxG_any {α : Type} {b : α → Bool} : ∀ {l : List α} {i : Int}, 0 ≤ i → decide (idxG b l i ≥ 0) = l.any b
  | [], _, _ => rfl
  | x :: xs, i, h => by
    rw [idxG, List.any_cons]
    split
    · rename_i hb; rw [hb]; simp [h]
    · rename_i hb; rw [idxG_any (by omega)]; simp [hb]
abbrev fV1 (f : FuncId) : Value := .func (.func f) #[] #[]
set_option maxRecDepth 10000 in
theorem S_IndexC {R : List (Nat × Obj)} {l : List BS} {p : Pl} {g : FuncId} {b : BS → Bool} (eg : Enters Tryz.prog g) (hg : ∀ x ∈ l, PureR Tryz.prog g [strV x].toArray (.bool (b x)) R) (hl : l.length ≤ 9223372036854775807) (hs : Seg R l.length (chC l) p) :
    PureR Tryz.prog 97 [plV l.length p, fV1 g].toArray (.int .i64 (idxG b l 0)) R := by
  refine pureR_of_HC Tryz.func97 rfl rfl fun w => ?_; refine HC_seq fun K1 hK1 => HC_region ?_; refine HLm rfl ?_; refine HL_nil (hK1 _ _ _ _ ?_); clear hK1 K1; refine HC_seq fun K2 hK2 => ?_; refine HC_seq fun K3 hK3 => HC_region ?_; refine HLm rfl (HL_r rfl rfl rfl rfl (R_lenPl rfl hs rfl) (HLm rfl ?_)); refine HL_nil (hK3 _ _ _ _ ?_); clear hK3 K3; refine HC_block (HC_loop (σ := Nat) (fun i => i ≤ l.length ∧ idxG b (l.drop i) (i : Int) = idxG b l 0) (fun i => [(0, plV l.length p), (1, fV1 g), (7, .int .i64 (l.length : Int)), (8, .int .i64 (i : Int))]) (fun _ => []) (fun _ _ _ => True) (fun i => l.length - i) 0 ⟨by omega, rfl⟩ (.cons rfl (.cons rfl (.cons rfl (.cons rfl .nil)))) (List.nil_sublist _) (fun _ _ h => h) ?_); rintro i ⟨hi1, hinv⟩; refine HC_seq fun K4 hK4 => HC_region ?_; refine HLp rfl ?_; refine HL_nil (hK4 _ _ _ _ ?_); clear hK4 K4; refine HC_seq fun K5 hK5 => ?_; refine HC_cond rfl (fun h6 => ?_) (fun h6 => ?_)
  · try exact Bool.noConfusion h6
    try simp only [ZZ] at h6
    refine HC_skip (hK5 _ _ _ _ ?_); clear hK5 K5; refine HC_seq fun K7 hK7 => HC_block ?_; refine HC_seq fun K8 hK8 => HC_region ?_; refine HLm rfl (HLm rfl ?_); refine HL_nil (hK8 _ _ _ _ ?_); clear hK8 K8; refine HC_seq fun K9 hK9 => ?_
    obtain ⟨y, hy, hmem⟩ := getI (show i < l.length by omega)
    rw [dropI hy, idxG] at hinv; refine HC_region (HLm rfl ?_); refine HLm rfl (HLm rfl ?_)
    refine HL_r rfl rfl rfl rfl (R_indexPl (j := i) rfl hs rfl rfl rfl (by first | rfl | omega) (by omega)) ?_; refine HL_r rfl rfl rfl rfl (R_loadPl1 (fun q hq => Or.inr hq) rfl hs (by omega) rfl (chC_get hy)) ?_; refine HL_callR rfl rfl rfl eg (hg y hmem) (fun q hq => Or.inr hq) ?_; refine HL_nil (hK9 _ _ _ _ ?_); clear hK9 K9; refine HC_cond rfl (fun h10 => ?_) (fun h10 => ?_)
    · try exact Bool.noConfusion h10
      try simp only [ZZ] at h10
      refine HC_seq fun K11 hK11 => HC_region ?_; refine HLm rfl (HLm rfl ?_); refine HL_nil (hK11 _ _ _ _ ?_); clear hK11 K11; refine HC_ret (HQ_blockR (HQ_thenR ?_)); clear hK7 K7; refine HQ_thenR (HQ_blockR (HQ_thenR ?_)); clear hK2 K2; refine HQ_post rfl rfl (.cons (res_tmp rfl) .nil) (fun w1 hs1 => ?_); refine ⟨?_, hs1.keep⟩; rw [← hinv, if_pos (by assumption)]; rfl
    · try exact Bool.noConfusion h10
      try simp only [ZZ] at h10
      refine HC_skip (HQ_blockN (hK7 _ _ _ _ ?_)); clear hK7 K7; refine HC_region (HLp rfl (HL_wrap_i64 (by omega) (by omega) ?_)); refine HLm rfl (HL_nil (HQ_then ?_)); exact HQ_again (i + 1) ⟨by omega, by rw [if_neg (by simp_all)] at hinv; exact hinv⟩ (by omega) (.cons rfl (.cons rfl (.cons rfl (.cons rfl .nil)))) (List.nil_sublist _) (fun _ _ h => h)
  · try exact Bool.noConfusion h6
    try simp only [ZZ] at h6
    refine HC_exit (HQ_thenE ?_); clear hK5 K5; refine HQ_thenE (HQ_blockE (hK2 _ _ _ _ ?_)); clear hK2 K2; refine HC_seq fun K12 hK12 => HC_region ?_; refine HLm rfl ?_; refine HL_nil (hK12 _ _ _ _ ?_); clear hK12 K12; refine HC_ret ?_; refine HQ_post rfl rfl (.cons (res_tmp rfl) .nil) (fun w1 hs1 => ?_); refine ⟨?_, hs1.keep⟩; rw [← hinv, List.drop_of_length_le (by omega), idxG]; rfl
set_option maxRecDepth 10000 in
theorem S_ContainsC {R : List (Nat × Obj)} {l : List BS} {p : Pl} {g : FuncId} {b : BS → Bool} (eg : Enters Tryz.prog g) (hg : ∀ x ∈ l, PureR Tryz.prog g [strV x].toArray (.bool (b x)) R) (hl : l.length ≤ 9223372036854775807) (hs : Seg R l.length (chC l) p) :
    PureR Tryz.prog 53 [plV l.length p, fV1 g].toArray (.bool (l.any b)) R := by
  have h := S_IndexC (b := b) eg hg hl hs
  rw [← idxG_any (b := b) (l := l) (Int.le_refl 0)]; refine pureR_of_HC Tryz.func53 rfl rfl fun w => ?_; refine HC_seq fun K1 hK1 => HC_region ?_; refine HLm rfl ?_; refine HL_nil (hK1 _ _ _ _ ?_); refine HC_seq fun K2 hK2 => HC_region ?_; refine HLm rfl (HLm rfl (HL_callR rfl rfl rfl (enters_of Tryz.func97 (by kernel_rfl) rfl) h (fun q hq => Or.inr hq) ?_)); refine HLp rfl (HLm rfl ?_); refine HL_nil (hK2 _ _ _ _ ?_); refine HC_ret ?_; refine HQ_post rfl rfl (.cons (res_tmp rfl) .nil) (fun w1 hs1 => ?_); exact ⟨rfl, hs1.keep⟩
def oddC (s : BS) : Bool := decide (s.length ≠ 32)
set_option maxRecDepth 10000 in
theorem P_odd32 (s : BS) : Pure Tryz.prog 52 [strV s].toArray (.bool (oddC s)) := by
  refine pure_of_HC Tryz.func52 rfl rfl fun w => ?_; refine HC_seq fun K1 hK1 => HC_region ?_; refine HLm rfl ?_; refine HL_nil (hK1 _ _ _ _ ?_); refine HC_seq fun K2 hK2 => HC_region ?_; refine HLm rfl (HL_r rfl rfl rfl rfl (R_lenBs rfl rfl) ?_); refine HLp rfl (HLm rfl ?_); refine HL_nil (hK2 _ _ _ _ ?_); refine HC_ret ?_; refine HQ_post rfl rfl (.cons (res_tmp rfl) .nil) (fun w1 hs1 => ?_); refine ⟨?_, hs1.keep⟩
  unfold oddC
  by_cases h : s.length = 32
  · rw [h]; rfl
  · rw [decide_eq_true h, show ((s.length : Int) != 32) = true from by simp; omega]; rfl
def treeT (l : List BS) (m : Int) : BS × Int := if (m < 1 ∨ 512 < m) ∨ m < l.length ∨ l.any oddC = true then ([], 1) else (rootC l m.toNat, 0)
theorem any_odd {l : List BS} (h : ¬ l.any oddC = true) : ∀ s ∈ l, s.length = 32 := by
  intro s hs; rw [List.any_eq_true] at h; exact Decidable.byContradiction fun h2 => h ⟨s, hs, by unfold oddC; exact decide_eq_true h2⟩
set_option maxRecDepth 10000 in
theorem S_Tree {R : List (Nat × Obj)} {l : List BS} {p : Pl} (hl : l.length ≤ 9223372036854775807) (hs : Seg R l.length (chC l) p) (m : Int) :
    PureR Tryz.prog 27 [plV l.length p, .int .i64 m].toArray (.tuple #[strV (treeT l m).1, .int .i64 (treeT l m).2]) R := by
  have hcf := S_ContainsC (R := R) (p := p) (b := oddC) (enters_of Tryz.func52 (by kernel_rfl) rfl) (fun x _ => (P_odd32 x).toR) hl hs
  obtain ⟨bb, hbb⟩ : ∃ b, b = l.any oddC := ⟨_, rfl⟩
  have hT : treeT l m = if (m < 1 ∨ 512 < m) ∨ m < l.length ∨ bb = true then ([], 1) else (rootC l m.toNat, 0) := by rw [hbb]; rfl
  have h32 : bb = false → ∀ s ∈ l, s.length = 32 := fun h => any_odd (by rw [← hbb, h]; simp)
  rw [← hbb] at hcf; rw [hT]; refine pureR_of_HC Tryz.func27 rfl rfl fun w => ?_; refine HC_seq fun K1 hK1 => HC_region ?_; refine HLm rfl (HLm rfl ?_); refine HL_nil (hK1 _ _ _ _ ?_); clear hK1 K1; refine HC_seq fun K2 hK2 => HC_region ?_; refine HLm rfl ?_; refine HL_nil (hK2 _ _ _ _ ?_); clear hK2 K2; refine HC_seq fun K3 hK3 => ?_; refine HC_seq fun K4 hK4 => HC_region ?_; refine HLm rfl (HLp rfl (HLm rfl ?_))
  refine HL_case 9 rfl (fun hb5 => ?_) (fun hb5 => ?_) <;> (try simp only [ZZ] at hb5) <;> first | (refine HLm rfl ?_) | (refine HL_skip rfl rfl rfl ?_)
  all_goals first
    | (refine HLp rfl ?_)
    | (refine HL_skip rfl rfl rfl ?_)
  all_goals first
    | (refine HL_r rfl rfl rfl rfl (R_pickT rfl rfl) ?_)
    | (refine HL_r rfl rfl rfl rfl (R_pickF rfl rfl) ?_)
  all_goals refine HLm rfl ?_
  all_goals first
    | (refine HL_skip rfl rfl rfl ?_)
    | (refine HL_case 13 rfl (fun hb7 => ?_) (fun hb7 => ?_) <;> (try simp only [ZZ] at hb7) <;> first | (refine HLm rfl ?_) | (refine HL_skip rfl rfl rfl ?_))
  all_goals first
    | (refine HL_r rfl rfl rfl rfl (R_lenPl rfl hs rfl) ?_)
    | (refine HL_skip rfl rfl rfl ?_)
  all_goals first
    | (refine HLm rfl ?_)
    | (refine HL_skip rfl rfl rfl ?_)
  all_goals first
    | (refine HLp rfl ?_)
    | (refine HL_skip rfl rfl rfl ?_)
  all_goals first
    | (refine HL_r rfl rfl rfl rfl (R_pickT rfl rfl) ?_)
    | (refine HL_r rfl rfl rfl rfl (R_pickF rfl rfl) ?_)
  all_goals refine HLm rfl ?_
  all_goals first
    | (refine HL_skip rfl rfl rfl ?_)
    | (refine HL_case 19 rfl (fun hb11 => ?_) (fun hb11 => ?_) <;> (try simp only [ZZ] at hb11) <;> first | (refine HLm rfl ?_) | (refine HL_skip rfl rfl rfl ?_))
  all_goals first
    | (refine HLm rfl ?_)
    | (refine HL_skip rfl rfl rfl ?_)
  all_goals first
    | (refine HL_callR rfl rfl rfl (enters_of Tryz.func53 (by kernel_rfl) rfl) hcf (fun q hq => Or.inr hq) ?_)
    | (refine HL_skip rfl rfl rfl ?_)
  all_goals first
    | (refine HL_r rfl rfl rfl rfl (R_pickT rfl rfl) ?_)
    | (refine HL_r rfl rfl rfl rfl (R_pickF rfl rfl) ?_)
  all_goals refine HL_nil ?_
  all_goals (
   refine hK4 _ _ _ _ ?_; clear hK4 K4; refine HC_cond rfl (fun h14 => ?_) (fun h14 => ?_)
   · try exact Bool.noConfusion h14
     try simp only [ZZ] at h14
     refine HC_seq fun K15 hK15 => HC_region ?_; refine HLm rfl (HLm rfl ?_); refine HL_nil (hK15 _ _ _ _ ?_); clear hK15 K15; refine HC_ret (HQ_thenR ?_); clear hK3 K3; refine HQ_post rfl rfl (.cons (res_tmp rfl) (.cons (res_tmp rfl) .nil)) (fun w1 hs1 => ?_); refine ⟨?_, hs1.keep⟩
     first
       | (rw [if_pos (.inl (by omega))]; rfl)
       | (rw [if_pos (.inr (.inl (by omega)))]; rfl)
       | (rw [if_pos (.inr (.inr (by assumption)))]; rfl)
   · try exact Bool.noConfusion h14
     all_goals try simp only [ZZ] at h14
     all_goals (
      refine HC_skip (hK3 _ _ _ _ ?_); clear hK3 K3; refine HC_seq fun K16 hK16 => HC_region ?_; refine HLm rfl (HLm rfl ?_)
      have h3 := h32 (by simp_all)
      have hmm : m = (m.toNat : Int) := by omega
      have htr := S_mtree (R := R) (m := m.toNat) (p := p) (by omega) (by omega) hs h3
      rw [← hmm] at htr; refine HL_callR rfl rfl rfl (enters_of Tryz.func54 (by kernel_rfl) rfl) htr (fun q hq => Or.inr hq) ?_; refine HLm rfl (HLm rfl ?_); refine HL_nil (hK16 _ _ _ _ ?_); clear hK16 K16; refine HC_ret ?_; refine HQ_post rfl rfl (.cons (res_tmp rfl) (.cons (res_tmp rfl) .nil)) (fun w1 hs1 => ?_); refine ⟨?_, hs1.keep⟩
      (have hbf : bb = false := by assumption
       rw [if_neg (by rw [hbf]; rintro (h | h | h)
                      · omega
                      · omega
                      · cases h)]; rfl)
      skip)
   skip)
def mixE (root : BS) (n : Nat) : BS := kec (root ++ padZ (leN n 8))
theorem le8 {n : Nat} (h : n < 18446744073709551616) : leR n 8 = (leN n 8, 0) := by
  unfold leR
  rw [if_neg]
  · rfl
  · have := (beN_len (n := n) (k := 8) h (by decide)).2 (by simpa using h)
    omega
theorem pad8 {n : Nat} : padZ (leN n 8) = leW [n, 0, 0, 0] 32 := by
  unfold padZ leW
  rw [List.take_of_length_le (by rw [List.length_reverse, beD_len]; exact Nat.le_refl _), leN_len]
  apply List.ext_getElem?
  intro i
  by_cases hi : i < 32
  · rw [List.getElem?_reverse (by rw [beD_len]; exact hi), beD_len, beD_get _ (by omega), show 32 - 1 - (32 - 1 - i) = i by omega]
    by_cases h8 : i < 8
    · rw [List.getElem?_append_left (by rw [leN_len]; exact h8), leN_get h8, dgN_lo h8]
    · rw [List.getElem?_append_right (by rw [leN_len]; omega), leN_len, List.getElem?_replicate, if_pos (by omega), dgN_hi (by omega) hi]; rfl
  · rw [List.getElem?_eq_none (by simp [leN_len]; omega), List.getElem?_eq_none (by rw [List.length_reverse, beD_len]; omega)]
set_option maxRecDepth 10000 in
theorem P_mix {root : BS} (hr : root.length ≤ 1000) {n : Nat} (hn : n ≤ 9223372036854775807) : Pure Tryz.prog 107 [strV root, .int .i64 (n : Int)].toArray (strV (mixE root n)) := by
  have hk := P_kec (s := root ++ padZ (leN n 8)) (by rw [List.length_append, padZ_len (by rw [leN_len]; decide)]; omega)
  change Pure _ _ _ (strV (mixE root n)) at hk
  have hp := padZ_len (s := leN n 8) (by rw [leN_len]; decide)
  generalize mixE root n = z at hk
  refine pure_of_HC Tryz.func107 rfl rfl fun w => ?_; refine HC_seq fun K1 hK1 => HC_region ?_; refine HLm rfl ?_; refine HL_nil (hK1 _ _ _ _ ?_); refine HC_seq fun K2 hK2 => HC_region ?_; refine HLm rfl (HLp rfl (HL_as (show _ = uV n from congrArg (Value.int .u64) (wrap_u64 (z := (n : Int)) (by omega) (by omega))) ?_)); refine HL_callP rfl rfl rfl (enters_of Tryz.func56 (by kernel_rfl) rfl) (P_num_Le (n := n) (by omega) 8) ?_; refine HL_as (show _ = Value.tuple #[strV (leN n 8), .int .i64 0] from by rw [le8 (by omega)]; rfl) ?_; refine HLm rfl (HL_r rfl rfl rfl rfl (R_extract rfl rfl) (HL_r rfl rfl rfl rfl (R_extract rfl rfl) ?_)); refine HLm rfl (HLm rfl ?_); refine HL_nil (hK2 _ _ _ _ ?_); refine HC_seq fun K3 hK3 => HC_region ?_; refine HLm rfl (HLm rfl ?_); refine HL_callP rfl rfl rfl (enters_of Tryz.func57 (by kernel_rfl) rfl) (P_full (s := leN n 8) (by rw [leN_len]; decide)) ?_; refine HL_r rfl rfl rfl rfl (R_concat (a := root) (b := padZ (leN n 8)) rfl rfl (by omega)) ?_; refine HL_callP rfl rfl rfl (enters_of Tryz.func34 (by kernel_rfl) rfl) hk ?_; refine HLm rfl ?_; refine HL_nil (hK3 _ _ _ _ ?_); refine HC_ret ?_; refine HQ_post rfl rfl (.cons (res_tmp rfl) .nil) (fun w1 hs1 => ?_); exact ⟨rfl, hs1.keep⟩
def mixR (root : BS) (n : Nat) : BS × Int := if root.length ≠ 32 then ([], 1) else (mixE root n, 0)
set_option maxRecDepth 10000 in
theorem P_Mix (root : BS) {n : Nat} (hn : U64 n) : Pure Tryz.prog 29 [strV root, uV n].toArray (.tuple #[strV (mixR root n).1, .int .i64 (mixR root n).2]) := by
  have hn2 : n < 18446744073709551616 := hn
  by_cases hr : root.length = 32
  · have hk := P_kec (s := root ++ padZ (leN n 8)) (by rw [List.length_append, padZ_len (by rw [leN_len]; decide)]; omega)
    change Pure _ _ _ (strV (mixE root n)) at hk
    have hp := padZ_len (s := leN n 8) (by rw [leN_len]; decide)
    have e : mixR root n = (mixE root n, 0) := by unfold mixR; rw [if_neg (by simpa using hr)]
    rw [e]
    generalize mixE root n = z at hk
    refine pure_of_HC Tryz.func29 rfl rfl fun w => ?_; refine HC_seq fun K1 hK1 => HC_region ?_; refine HLm rfl (HLm rfl ?_); refine HL_nil (hK1 _ _ _ _ ?_); refine HC_seq fun K2 hK2 => ?_; refine HC_seq fun K3 hK3 => HC_region ?_; refine HLm rfl (HL_r rfl rfl rfl rfl (R_lenBs rfl rfl) (HLp rfl ?_)); refine HL_nil (hK3 _ _ _ _ ?_); refine HC_cond rfl (fun h4 => ?_) (fun h4 => ?_)
    · try exact Bool.noConfusion h4
      try simp only [ZZ] at h4
      refine HC_seq fun K5 hK5 => HC_region ?_
      exfalso; omega
    · try exact Bool.noConfusion h4
      try simp only [ZZ] at h4
      refine HC_skip (hK2 _ _ _ _ ?_); refine HC_seq fun K6 hK6 => HC_region ?_; refine HLm rfl (HL_callP rfl rfl rfl (enters_of Tryz.func56 (by kernel_rfl) rfl) (P_num_Le (n := n) (by omega) 8) ?_); refine HL_as (show _ = Value.tuple #[strV (leN n 8), .int .i64 0] from by rw [le8 (by omega)]; rfl) ?_; refine HLm rfl (HL_r rfl rfl rfl rfl (R_extract rfl rfl) (HL_r rfl rfl rfl rfl (R_extract rfl rfl) ?_)); refine HLm rfl (HLm rfl ?_); refine HL_nil (hK6 _ _ _ _ ?_); refine HC_seq fun K7 hK7 => HC_region ?_; refine HLm rfl (HLm rfl ?_); refine HL_callP rfl rfl rfl (enters_of Tryz.func57 (by kernel_rfl) rfl) (P_full (s := leN n 8) (by rw [leN_len]; decide)) ?_; refine HL_r rfl rfl rfl rfl (R_concat (a := root) (b := padZ (leN n 8)) rfl rfl (by omega)) ?_; refine HL_callP rfl rfl rfl (enters_of Tryz.func34 (by kernel_rfl) rfl) hk ?_; refine HLm rfl (HLm rfl ?_); refine HL_nil (hK7 _ _ _ _ ?_); refine HC_ret ?_; refine HQ_post rfl rfl (.cons (res_tmp rfl) (.cons (res_tmp rfl) .nil)) (fun w1 hs1 => ?_); exact ⟨rfl, hs1.keep⟩
  · have e : mixR root n = ([], 1) := by unfold mixR; rw [if_pos hr]
    rw [e]; refine pure_of_HC Tryz.func29 rfl rfl fun w => ?_; refine HC_seq fun K1 hK1 => HC_region ?_; refine HLm rfl (HLm rfl ?_); refine HL_nil (hK1 _ _ _ _ ?_); refine HC_seq fun K2 hK2 => ?_; refine HC_seq fun K3 hK3 => HC_region ?_; refine HLm rfl (HL_r rfl rfl rfl rfl (R_lenBs rfl rfl) (HLp rfl ?_)); refine HL_nil (hK3 _ _ _ _ ?_); refine HC_cond rfl (fun h4 => ?_) (fun h4 => ?_)
    · try exact Bool.noConfusion h4
      try simp only [ZZ] at h4
      refine HC_seq fun K5 hK5 => HC_region ?_; refine HLm rfl (HLm rfl ?_); refine HL_nil (hK5 _ _ _ _ ?_); refine HC_ret (HQ_thenR ?_); refine HQ_post rfl rfl (.cons (res_tmp rfl) (.cons (res_tmp rfl) .nil)) (fun w1 hs1 => ?_); exact ⟨rfl, hs1.keep⟩
    · try exact Bool.noConfusion h4
      try simp only [ZZ] at h4
      refine HC_skip (hK2 _ _ _ _ ?_); refine HC_seq fun K6 hK6 => HC_region ?_; refine HLm rfl ?_
      exfalso; omega
theorem leW_succ {w : List Nat} {i : Nat} (hi : i < 32) : leW w (i + 1) = leW w i ++ [(beD w 32).getD (31 - i) 0] := by
  unfold leW
  have hl : i < (beD w 32).reverse.length := by rw [List.length_reverse, beD_len]; exact hi
  rw [List.take_succ_eq_append_getElem hl]
  congr 2
  have h1 := List.getElem?_eq_getElem hl
  rw [List.getElem?_reverse (by rw [beD_len]; exact hi), beD_len] at h1; rw [List.getD_eq_getElem?_getD, show 31 - i = 32 - 1 - i by omega, h1]; rfl
set_option maxRecDepth 10000 in
theorem P_Low {v : List Nat} (hv : WOk v) {n : Nat} (hn : n ≤ 32) : Pure Tryz.prog 74 [Go.SL.wV v, .int .i64 (n : Int)].toArray (strV (leW v n)) := by
  obtain ⟨a, b, c, d, rfl⟩ : ∃ a b c d, v = [a, b, c, d] := by
    match v, hv.1 with
    | [a, b, c, d], _ => exact ⟨a, b, c, d, rfl⟩
  have hlen := beD_len [a, b, c, d] 32
  have hsu := fun i hi => leW_succ (w := [a, b, c, d]) (i := i) hi
  have hll := fun k hk => leW_len [a, b, c, d] (n := k) hk
  have hl0 : leW [a, b, c, d] 0 = [] := rfl
  have hfx := P_ref_Fixed hv
  refine pure_of_HC Tryz.func74 rfl rfl fun w => ?_
  generalize hB : beD [a, b, c, d] 32 = B at hlen hsu hfx
  generalize leW [a, b, c, d] = F at hsu hll hl0
  refine HC_seq fun K1 hK1 => HC_region ?_; refine HL_box (cs := #[_, _, _, _]) rfl rfl rfl rfl fun r1 => ?_; refine HLm rfl ?_; refine HL_nil (hK1 _ _ _ _ ?_); refine HC_seq fun K2 hK2 => HC_region ?_; refine HL_r rfl rfl rfl rfl (R_loadA (vs := [_, _, _, _]) rfl (known_L (k := 0) rfl) rfl rfl rfl rfl) ?_; refine HL_callP rfl rfl rfl (enters_of Tryz.func127 (by kernel_rfl) rfl) hfx ?_; refine HLm rfl ?_; refine HL_nil (hK2 _ _ _ _ ?_); refine HC_seq fun K3 hK3 => HC_region ?_; refine HLm rfl ?_; refine HL_nil (hK3 _ _ _ _ ?_); refine HC_seq fun K4 hK4 => ?_; refine HC_seq fun K5 hK5 => HC_region ?_; refine HLm rfl ?_; refine HL_nil (hK5 _ _ _ _ ?_); refine HC_block ?_; refine HC_loop (σ := Nat × List Value × Row) (fun q => q.1 ≤ n ∧ q.2.1 = (F q.1).map bV ∧ rowOk 1 q.1 q.2.1 q.2.2) (fun q => [(1, .int .i64 (n : Int)), (5, strV B), (6, rowV q.1 q.2.2), (7, .int .i64 (q.1 : Int))]) (fun q => (r1, .cells #[uV a, uV b, uV c, uV d] 27 (0, 0)) :: rowL 5 q.2.1 q.2.2) (fun _ _ _ => True) (fun q => n - q.1) (0, [], none) ⟨Nat.zero_le _, by rw [hl0]; rfl, rfl, rfl⟩ (.cons rfl (.cons rfl (.cons rfl (.cons rfl .nil)))) (List.Sublist.refl _) (fun _ _ h => h) ?_; rintro ⟨i, xs, row⟩ ⟨hi, hxs, hrow⟩; simp only at hi hxs hrow; change HC _ _ [(1, _), (5, _), (6, rowV i row), (7, .int .i64 (i : Int))] ((r1, _) :: rowL _ xs row) _ _ _; refine HC_seq fun K6 hK6 => ?_; refine HC_seq fun K7 hK7 => HC_region ?_; refine HLm rfl (HLm rfl (HLp rfl ?_)); refine HL_nil (hK7 _ _ _ _ ?_); refine HC_cond rfl (fun h8 => ?_) (fun h8 => ?_)
  · try exact Bool.noConfusion h8
    try simp only [ZZ] at h8
    refine HC_skip (hK6 _ _ _ _ ?_); refine HC_seq fun K9 hK9 => HC_block ?_; refine HC_region (HLm rfl ?_); refine HLm rfl (HLm rfl ?_)
    refine HLp rfl ?_; refine HL_as (show _ = Value.int .i64 ((31 - i : Nat) : Int) from by rw [wrap_i64 (by omega) (by omega)]; congr 1 <;> omega) ?_; refine HL_r rfl rfl rfl rfl (R_indexBs (j := 31 - i) (n := ((B.getD (31 - i) 0).toNat : Int)) rfl rfl rfl rfl (by omega) rfl) ?_; refine HL_as (show _ = bV (B.getD (31 - i) 0) from rfl) ?_; refine HL_buildSlice (vs := [_]) (zs := [_]) (r := [_]) rfl rfl rfl rfl rfl rfl rfl rfl rfl (by show (madeCells #[_] _).toList = _; rw [made_one]; exact rfl) rfl fun r2 => ?_; refine HL_appendRow (L0 := [_, _]) (xs := xs) (row := row) (n := i) (sz := 1) (b := 1) (news := [_]) (List.perm_append_comm (l₁ := [_, _])) rfl rfl rfl rfl (known_L (k := 0) rfl) rfl rfl rfl rfl rfl (by decide) rfl rfl rfl (by decide) hrow (by omega) (by omega) fun ra cap sp hra => ?_; refine HLm rfl (HL_nil ?_); refine HQ_blockN (hK9 _ _ _ _ ?_); refine HC_region (HLm rfl ?_); refine HLp rfl (HL_wrap_i64 (by omega) (by omega) ?_); refine HLm rfl (HL_nil (HQ_then ?_)); refine HQ_sel [2, 0] (L' := [_, _]) (by decide) rfl ?_; exact HQ_again (i + 1, xs ++ [bV (B.getD (31 - i) 0)], some (ra, cap, sp)) ⟨by simp only; omega, by simp only; rw [hsu i (by omega), hxs, List.map_append]; rfl, hra⟩ (by simp only; omega) (.cons rfl (.cons rfl (.cons rfl (.cons rfl .nil)))) (List.Sublist.refl _) (fun _ _ h => h)
  · try exact Bool.noConfusion h8
    try simp only [ZZ] at h8
    refine HC_exit (HQ_thenE ?_); refine HQ_thenE (HQ_blockE (hK4 _ _ _ _ ?_)); refine HC_seq fun K10 hK10 => ?_
    obtain rfl : i = n := by omega
    refine HC_region (HLm rfl ?_); refine HL_r rfl rfl rfl rfl (R_bytesStr (b := F i) (row := row) (e := 5) (show _ = some (rowV (F i).length row) from by rw [hll i hn]; rfl) (by rw [hll i hn, ← hxs]; exact hrow) (fun p hp => .inl (by rw [hxs]; exact List.mem_cons_of_mem _ hp)) rfl rfl rfl) ?_; refine HLm rfl ?_; refine HL_nil (hK10 _ _ _ _ ?_); refine HC_ret ?_; refine HQ_post rfl rfl (.cons (res_tmp rfl) .nil) (fun w1 hs1 => ?_); exact ⟨rfl, hs1.keep⟩
set_option maxRecDepth 10000 in
theorem P_rmix {root : BS} (hr : root.length ≤ 1000) {n : Nat} (hn : U64 n) : Pure Tryz.prog 58 [strV root, uV n].toArray (strV (mixE root n)) := by
  have hp := padZ_len (s := leN n 8) (by rw [leN_len]; decide)
  have hk := P_ref3_kec (s := root ++ padZ (leN n 8)) (by rw [List.length_append]; omega)
  change Pure _ _ _ (strV (mixE root n)) at hk
  have hlow := P_Low (v := [n, 0, 0, 0]) (wokN hn) (n := 32) (Nat.le_refl _)
  rw [← pad8] at hlow
  generalize mixE root n = z at hk
  generalize padZ (leN n 8) = q at hp hk hlow
  refine pure_of_HC Tryz.func58 rfl rfl fun w => ?_; refine HC_seq fun K1 hK1 => HC_region ?_; refine HLm rfl ?_; refine HL_nil (hK1 _ _ _ _ ?_); refine HC_seq fun K2 hK2 => HC_region ?_; refine HLm rfl (HLm rfl (HL_r rfl rfl rfl rfl (R_build (r := [_, _, _, _]) rfl rfl) ?_)); refine HL_callP rfl rfl rfl (enters_of Tryz.func74 (by kernel_rfl) rfl) hlow ?_; refine HL_r rfl rfl rfl rfl (R_concat (a := root) (b := q) rfl rfl (by omega)) ?_; refine HL_callP rfl rfl rfl (enters_of Tryz.func100 (by kernel_rfl) rfl) hk ?_; refine HLm rfl ?_; refine HL_nil (hK2 _ _ _ _ ?_); refine HC_ret ?_; refine HQ_post rfl rfl (.cons (res_tmp rfl) .nil) (fun w1 hs1 => ?_); exact ⟨rfl, hs1.keep⟩
end Go.Proofs.YtlcbfphioeppaaaGreatDoor
namespace Go.Proofs.YtlcbfphioeppaaaGreatDoor
set_option linter.all false
open Go.SL Go.RowKit Go.Shelf
/-! ### the reference of trees -/
theorem padC_take {W : Nat} {l : List BS} {i : Nat} (hi : i < W) (hl : l.length ≤ W) : (padC W l).take (i + 1) = (padC W l).take i ++ [if i < l.length then l.getD i [] else z32] := by
  have hlen := padC_len hl
  rw [List.take_succ_eq_append_getElem (by omega)]
  congr 2
  have h1 := List.getElem?_eq_getElem (l := padC W l) (i := i) (by omega)
  have h2 : (padC W l)[i]? = some (if i < l.length then l.getD i [] else z32) := by
    unfold padC
    by_cases h : i < l.length
    · rw [if_pos h, List.getElem?_append_left h, getD_get h]
    · rw [if_neg h, List.getElem?_append_right (by omega), List.getElem?_replicate, if_pos (by omega)]
  rw [h1] at h2; exact Option.some.inj h2
theorem chC_snoc (l : List BS) (s : BS) : chC (l ++ [s]) = chC l ++ [strV s] := by unfold chC; rw [List.map_append]; rfl
set_option maxHeartbeats 1000000 in
set_option maxRecDepth 10000 in
theorem S_rtree {R : List (Nat × Obj)} {l : List BS} {p : Pl} {m : Nat} (hl : l.length ≤ m) (hm2 : m ≤ 65536) (hs : Seg R l.length (chC l) p) (h32 : ∀ s ∈ l, s.length = 32) :
    PureR Tryz.prog 55 [plV l.length p, .int .i64 (m : Int)].toArray (strV (rootC l m)) R := by
  have hlg : lg m ≤ 16 := lg_le (by simpa using hm2)
  have hW16 : 2 ^ lg m ≤ 65536 := by have := Nat.pow_le_pow_right (n := 2) (i := lg m) (j := 16) (by decide) (by omega); simpa using this
  have hup := lg_up m
  obtain ⟨res, hres⟩ : ∃ x, x = rootC l m := ⟨_, rfl⟩
  rw [← hres]
  have hroot : treeR (lg m) (padC (2 ^ lg m) l) = res := by rw [hres]; rfl
  have hpl : (padC (2 ^ lg m) l).length = 2 ^ lg m := padC_len (by omega)
  have hpm := padC_mem (n := 2 ^ lg m) h32
  refine pureR_of_HC Tryz.func55 rfl rfl fun w => ?_; refine HC_seq fun K1 hK1 => HC_region ?_; refine HLm rfl ?_; refine HL_nil (hK1 _ _ _ _ ?_); refine HC_seq fun K2 hK2 => HC_region ?_; refine HLm rfl ?_; refine HL_nil (hK2 _ _ _ _ ?_); refine HC_seq fun K3 hK3 => HC_block ?_; refine HC_loop (σ := Nat) (fun k => k ≤ lg m) (fun k => [(0, plV l.length p), (1, .int .i64 (m : Int)), (5, .int .i64 ((2 ^ k : Nat) : Int))]) (fun _ => []) (fun _ _ _ => True) (fun k => lg m - k) 0 (Nat.zero_le _) (.cons rfl (.cons rfl (.cons rfl .nil))) (List.Sublist.refl _) (fun _ _ h => h) ?_; intro k hk0; refine HC_seq fun K4 hK4 => ?_; refine HC_seq fun K5 hK5 => HC_region ?_; refine HLm rfl (HLm rfl (HLp rfl ?_)); refine HL_nil (hK5 _ _ _ _ ?_); refine HC_cond rfl (fun h6 => ?_) (fun h6 => ?_)
  · try exact Bool.noConfusion h6
    try simp only [ZZ] at h6
    refine HC_skip (hK4 _ _ _ _ ?_); refine HC_block ?_
    have hk : k < lg m := pow_lg.1 (by omega)
    have hk16 : 2 ^ k ≤ 65536 := by have := Nat.pow_le_pow_right (n := 2) (i := k) (j := 16) (by decide) (by omega); simpa using this
    refine HC_region (HLm rfl ?_); refine HLp rfl (HL_as (show _ = Value.int .i64 ((2 ^ (k + 1) : Nat) : Int) from congrArg (Value.int .i64) ((wrap_two hk16).trans (by rw [Nat.pow_succ]))) ?_); refine HLm rfl (HL_nil ?_); refine HQ_blockN (HQ_then ?_); exact HQ_again (k + 1) (by omega) (by omega) (.cons rfl (.cons rfl (.cons rfl .nil))) (List.Sublist.refl _) (fun _ _ h => h)
  · try exact Bool.noConfusion h6
    try simp only [ZZ] at h6
    refine HC_exit (HQ_thenE ?_); refine HQ_thenE (HQ_blockE (hK3 _ _ _ _ ?_)); refine HC_seq fun K7 hK7 => ?_
    have hkl : ¬ k < lg m := fun h => by have := pow_lg.2 h; omega
    obtain rfl : k = lg m := by omega
    obtain ⟨W, hW⟩ : ∃ W, W = 2 ^ lg m := ⟨_, rfl⟩
    rw [← hW] at hup hroot hpl hpm hW16 ⊢; refine HC_region (HLm rfl ?_); refine HL_nil (hK7 _ _ _ _ ?_); refine HC_seq fun K8 hK8 => ?_; refine HC_seq fun K9 hK9 => HC_region ?_; refine HLm rfl ?_; refine HL_nil (hK9 _ _ _ _ ?_); refine HC_block (HC_loop (σ := Nat × List Value × Row) (fun q => q.1 ≤ W ∧ q.2.1 = chC ((padC W l).take q.1) ∧ rowOk 1 q.1 q.2.1 q.2.2) (fun q => [(0, plV l.length p), (5, .int .i64 (W : Int)), (6, rowV q.1 q.2.2), (7, .int .i64 (q.1 : Int))]) (fun q => rowL 9 q.2.1 q.2.2) (fun _ _ _ => True) (fun q => W - q.1) (0, [], none) ⟨Nat.zero_le _, rfl, rfl, rfl⟩ (.cons rfl (.cons rfl (.cons rfl (.cons rfl .nil)))) (List.Sublist.refl _) (fun _ _ h => h) ?_); rintro ⟨i, xs, row⟩ ⟨hi, hxs, hrow⟩; simp only at hi hxs hrow; change HC _ _ [(0, _), (5, _), (6, rowV i row), (7, .int .i64 (i : Int))] (rowL _ xs row) _ _ _; refine HC_seq fun K10 hK10 => ?_; refine HC_seq fun K11 hK11 => HC_region ?_; refine HLm rfl (HLm rfl (HLp rfl ?_)); refine HL_nil (hK11 _ _ _ _ ?_); refine HC_cond rfl (fun h12 => ?_) (fun h12 => ?_)
    · try exact Bool.noConfusion h12
      try simp only [ZZ] at h12
      refine HC_skip (hK10 _ _ _ _ ?_); refine HC_seq fun K13 hK13 => HC_block ?_; refine HC_seq fun K14 hK14 => HC_region ?_; refine HLm rfl (HLm rfl (HL_r rfl rfl rfl rfl (R_lenPl rfl hs rfl) ?_)); refine HLp rfl ?_; refine HL_nil (hK14 _ _ _ _ ?_); refine HC_cond rfl (fun h15 => ?_) (fun h15 => ?_)
      · try exact Bool.noConfusion h15
        try simp only [ZZ] at h15
        refine HC_region (HLm rfl ?_); refine HLm rfl (HLm rfl ?_)
        refine HL_r rfl rfl rfl rfl (R_indexPl (j := i) rfl hs rfl rfl rfl (by first | rfl | omega) (by omega)) ?_; refine HL_r rfl rfl rfl rfl (R_loadPl1 (fun q hq => Or.inr hq) rfl hs (by omega) rfl (chC_get (getD_get (i := i) (by omega)))) ?_; refine HL_buildSlice (vs := [_]) (zs := [_]) (r := [_]) rfl rfl rfl rfl rfl rfl rfl rfl rfl (by show (madeCells #[_] _).toList = _; rw [made_one]; exact rfl) rfl fun r1 => ?_; refine HL_appendRow (L0 := [_]) (xs := xs) (row := row) (n := i) (sz := 1) (b := 16) (news := [_]) (List.perm_append_comm (l₁ := [_])) rfl rfl rfl rfl (known_L (k := 0) rfl) rfl rfl rfl rfl rfl (by decide) rfl rfl rfl (by decide) hrow (by omega) (by omega) fun ra cap sp hra => ?_; refine HLm rfl (HL_nil ?_); refine HQ_blockN (hK13 _ _ _ _ ?_); refine HC_region (HLm rfl ?_); refine HLp rfl (HL_wrap_i64 (by omega) (by omega) ?_); refine HLm rfl (HL_nil (HQ_then ?_))
        (refine HQ_sel [0] (L' := [_]) (by decide) rfl ?_
         exact HQ_again (i + 1, xs ++ [strV (l.getD i [])], some (ra, cap, sp)) ⟨by simp only; omega, by simp only; rw [padC_take (by omega) (by omega), if_pos (by omega), chC_snoc, hxs], hra⟩ (by simp only; omega) (.cons rfl (.cons rfl (.cons rfl (.cons rfl .nil)))) (List.Sublist.refl _) (fun _ _ h => h))
      · try exact Bool.noConfusion h15
        try simp only [ZZ] at h15
        refine HC_region (HLm rfl (HL_make (n := 32) (b := 1) rfl rfl rfl rfl rfl rfl rfl rfl rfl (by decide) (by decide) fun rm => ?_)); refine HL_r rfl rfl rfl rfl (R_bytesStr (b := z32) (row := some (rm, 32, [])) (e := 5) rfl ⟨rfl, rfl⟩ (fun p hp => .inl (by rw [List.mem_singleton.1 hp]; exact List.mem_cons_self)) rfl rfl rfl) ?_; refine HL_buildSlice (vs := [_]) (zs := [_]) (r := [_]) rfl rfl rfl rfl rfl rfl rfl rfl rfl (by show (madeCells #[_] _).toList = _; rw [made_one]; exact rfl) rfl fun r2 => ?_; refine HL_appendRow (L0 := [_, _]) (xs := xs) (row := row) (n := i) (sz := 1) (b := 16) (news := [_]) (List.perm_append_comm (l₁ := [_, _])) rfl rfl rfl rfl (known_L (k := 0) rfl) rfl rfl rfl rfl rfl (by decide) rfl rfl rfl (by decide) hrow (by omega) (by omega) fun ra cap sp hra => ?_; refine HLm rfl (HL_nil ?_); refine HQ_blockN (hK13 _ _ _ _ ?_); refine HC_region (HLm rfl ?_); refine HLp rfl (HL_wrap_i64 (by omega) (by omega) ?_); refine HLm rfl (HL_nil (HQ_then ?_))
        (refine HQ_sel [0] (L' := [_]) (by decide) rfl ?_
         exact HQ_again (i + 1, xs ++ [strV z32], some (ra, cap, sp)) ⟨by simp only; omega, by simp only; rw [padC_take (by omega) (by omega), if_neg (by omega), chC_snoc, hxs], hra⟩ (by simp only; omega) (.cons rfl (.cons rfl (.cons rfl (.cons rfl .nil)))) (List.Sublist.refl _) (fun _ _ h => h))
    · try exact Bool.noConfusion h12
      try simp only [ZZ] at h12
      refine HC_exit (HQ_thenE ?_); refine HQ_thenE (HQ_blockE (hK8 _ _ _ _ ?_)); refine HC_seq fun K16 hK16 => HC_block ?_
      obtain rfl : i = W := by omega
      rw [List.take_of_length_le (by omega)] at hxs; subst hxs; refine HC_loop (σ := Nat × List BS × Row) (fun q => q.2.1.length = 2 ^ q.1 ∧ q.1 ≤ 16 ∧ treeR q.1 q.2.1 = res ∧ rowOk 1 q.2.1.length (chC q.2.1) q.2.2 ∧ ∀ x ∈ q.2.1, x.length = 32) (fun q => [(6, rowV q.2.1.length q.2.2)]) (fun q => rowL 9 (chC q.2.1) q.2.2) (fun _ _ _ => True) (fun q => q.1) (lg m, padC i l, row) ⟨hpl.trans hW, hlg, hroot, by simp only; rw [hpl]; exact hrow, hpm⟩ (.cons (by simp only; rw [hpl]; rfl) .nil) (List.Sublist.refl _) (fun _ _ h => h) ?_; rintro ⟨k, ls, row⟩ ⟨hlen, hk16, heq, hok, hmem⟩; simp only at hlen hk16 heq hok hmem; change HC _ _ [(6, rowV ls.length row)] (rowL _ (chC ls) row) _ _ _
      have hp16 : 2 ^ k ≤ 65536 := by have := Nat.pow_le_pow_right (n := 2) (i := k) (j := 16) (by decide) hk16; simpa using this
      refine HC_seq fun K17 hK17 => ?_; refine HC_seq fun K18 hK18 => HC_region ?_; refine HLm rfl (HL_r rfl rfl rfl rfl (R_lenRow rfl hok.zero rfl) (HLp rfl ?_)); refine HL_nil (hK18 _ _ _ _ ?_); refine HC_cond rfl (fun h19 => ?_) (fun h19 => ?_)
      · try exact Bool.noConfusion h19
        try simp only [ZZ] at h19
        refine HC_skip (hK17 _ _ _ _ ?_); refine HC_block (HC_seq fun K20 hK20 => ?_)
        obtain ⟨K, rfl⟩ : ∃ K, k = K + 1 := by
          cases k with
          | zero => simp at hlen; omega
          | succ K => exact ⟨K, rfl⟩
        rw [treeR] at heq; rw [Nat.pow_succ] at hlen; refine HC_region (HLm rfl ?_); refine HL_nil (hK20 _ _ _ _ ?_); refine HC_seq fun K21 hK21 => ?_; refine HC_seq fun K22 hK22 => HC_region ?_; refine HLm rfl ?_; refine HL_nil (hK22 _ _ _ _ ?_); refine HC_block ?_; refine HC_loop (σ := Nat × List Value × Row) (fun q => 2 * q.1 ≤ ls.length ∧ q.2.1 = chC ((SL.pairUp ls).take q.1) ∧ rowOk 1 q.1 q.2.1 q.2.2) (fun q => [(6, rowV ls.length row), (8, rowV q.1 q.2.2), (9, .int .i64 ((2 * q.1 : Nat) : Int))]) (fun q => rowL 9 (chC ls) row ++ rowL 9 q.2.1 q.2.2) (fun _ _ _ => True) (fun q => ls.length - 2 * q.1) (0, [], none) ⟨Nat.zero_le _, rfl, rfl, rfl⟩ (.cons rfl (.cons rfl (.cons rfl .nil))) (by rw [show rowL 9 [] none = [] from rfl, List.append_nil]; exact List.Sublist.refl _) (fun _ _ h => h) ?_; rintro ⟨i, xs, row3⟩ ⟨h2i, hxs, hr3⟩; simp only at h2i hxs hr3; change HC _ _ [(6, rowV ls.length row), (8, rowV i row3), (9, .int .i64 ((2 * i : Nat) : Int))] (rowL _ (chC ls) row ++ rowL _ xs row3) _ _ _; refine HC_seq fun K23 hK23 => ?_; refine HC_seq fun K24 hK24 => HC_region ?_; refine HLm rfl (HLm rfl (HL_r rfl rfl rfl rfl (R_lenRow rfl hok.zero rfl) ?_)); refine HLp rfl ?_; refine HL_nil (hK24 _ _ _ _ ?_); refine HC_cond rfl (fun h25 => ?_) (fun h25 => ?_)
        · try exact Bool.noConfusion h25
          try simp only [ZZ] at h25
          refine HC_skip (hK23 _ _ _ _ ?_); refine HC_seq fun K26 hK26 => HC_block ?_
          have hg1 := getD_len hmem (i := 2 * i) (by omega)
          have hg2 := getD_len hmem (i := 2 * i + 1) (by omega)
          have hkc := P_ref3_kec (s := ls.getD (2 * i) [] ++ ls.getD (2 * i + 1) []) (by rw [List.length_append]; omega)
          obtain ⟨sv, hsv⟩ : ∃ x, x = kec (ls.getD (2 * i) [] ++ ls.getD (2 * i + 1) []) := ⟨_, rfl⟩
          rw [← hsv] at hkc
          refine HC_drawA [] [(0, .pure), (1, .pure), (2, .pure), (3, .pure), (5, .pure), (6, .pure), (7, .pure), (8, .pure), (10, .pure), (11, .pure), (12, .act (aeNew (slV 1) (.cells #[strV sv] 9 (0, 0))))] 13 (by kernel_rfl) (by kernel_rfl) (by first | exact (fun _ h => nomatch h) | simp [SubS] | (intro p hp; simp [hp])) ?_; refine HA_p rfl rfl rfl rfl (fun _ hS => (R_move rfl)) ?_; refine HA_p rfl rfl rfl rfl (fun _ hS => (R_move rfl)) ?_; refine HA_p rfl rfl rfl rfl (fun _ hS => (R_move rfl)) ?_; refine HA_p rfl rfl rfl rfl (fun _ hS => (R_indexPl (p := rowP row) (j := 2 * i) (show _ = some (plV ls.length (rowP row)) from by rw [rowP_V _ _ hok.zero]; rfl) (rowP_seg (e := 9) hok (by decide)) rfl rfl rfl rfl (by omega))) ?_; refine HA_r rfl rfl rfl rfl (R_loadPl1 (p := rowP row) (fun q hq => Or.inl (List.mem_append_left _ hq)) rfl (rowP_seg (e := 9) hok (by decide)) (by omega) rfl (chC_get (getD_get (i := 2 * i) (by omega)))) ?_; refine HA_p rfl rfl rfl rfl (fun _ hS => (R_move rfl)) ?_; refine HA_p rfl rfl rfl rfl (fun _ hS => (R_move rfl)) ?_
          refine HA_p rfl rfl rfl rfl (fun _ hS => (R_pure rfl rfl rfl)) ?_; refine HA_as (show _ = Value.int .i64 ((2 * i + 1 : Nat) : Int) from by rw [wrap_i64 (by omega) (by omega)]; congr 1 <;> omega) ?_; refine HA_p rfl rfl rfl rfl (fun _ hS => (R_indexPl (p := rowP row) (j := 2 * i + 1) (show _ = some (plV ls.length (rowP row)) from by rw [rowP_V _ _ hok.zero]; rfl) (rowP_seg (e := 9) hok (by decide)) rfl rfl rfl rfl (by omega))) ?_; refine HA_r rfl rfl rfl rfl (R_loadPl1 (p := rowP row) (fun q hq => Or.inl (List.mem_append_left _ hq)) rfl (rowP_seg (e := 9) hok (by decide)) (by omega) rfl (chC_get (getD_get (i := 2 * i + 1) (by omega)))) ?_; refine HA_p rfl rfl rfl rfl (fun _ hS => (R_concat (a := ls.getD (2 * i) []) (b := ls.getD (2 * i + 1) []) rfl rfl (by omega))) ?_; refine HA_callP rfl rfl rfl rfl (enters_of Tryz.func100 (by kernel_rfl) rfl) hkc ?_; refine HA_buildSlice (n := 1) (sz := 1) (vs := [_]) (zs := [_]) (r := [strV sv]) rfl rfl rfl rfl rfl rfl rfl rfl rfl rfl (by show (madeCells #[_] _).toList = _; rw [made_one]; exact rfl) rfl (fun _ h => nomatch h) fun rv => ?_; refine HA_end ?_; refine HL_appendRow (L0 := _ :: rowL 9 (chC ls) row) (xs := xs) (row := row3) (n := i) (sz := 1) (b := 16) (news := [strV sv]) (by rw [← List.cons_append]; exact List.perm_append_comm) rfl rfl rfl rfl (known_L (k := 0) rfl) rfl rfl rfl rfl rfl (by decide) rfl rfl rfl (by decide) hr3 (by omega) (by omega) fun ra cap sp hra => ?_; refine HLm rfl (HL_nil ?_); refine HQ_blockN (hK26 _ _ _ _ ?_); refine HC_region (HLm rfl ?_)
          refine HLp rfl ?_; refine HL_as (show _ = Value.int .i64 ((2 * (i + 1) : Nat) : Int) from by rw [wrap_i64 (by omega) (by omega)]; congr 1 <;> omega) ?_; refine HLm rfl (HL_nil (HQ_then ?_))
          refine HQ_perm (L' := _ :: (rowL 9 (chC ls) row ++ rowL 9 (xs ++ [strV sv]) (some (ra, cap, sp)))) (by
            refine (List.Perm.swap _ _ _).trans (List.Perm.cons _ ?_)
            exact (List.perm_append_comm (l₁ := [_]))) ?_
          exact HQ_again (i + 1, xs ++ [strV sv], some (ra, cap, sp)) ⟨by simp only; omega, by simp only; rw [pair_take ls (by omega), ← hsv, chC_snoc, hxs], hra⟩ (by simp only; omega) (.cons rfl (.cons rfl (.cons rfl .nil))) (.cons _ (List.Sublist.refl _)) (fun _ _ h => h)
        · try exact Bool.noConfusion h25
          try simp only [ZZ] at h25
          refine HC_exit (HQ_thenE ?_); refine HQ_thenE (HQ_blockE (hK21 _ _ _ _ ?_))
          have hi2 : 2 * i = ls.length := by omega
          have hpl2 := pairUp_len ls
          rw [List.take_of_length_le (by omega)] at hxs
          obtain rfl : i = (SL.pairUp ls).length := by omega
          subst hxs; refine HC_region (HLm rfl ?_); refine HLm rfl (HL_nil ?_); refine HQ_blockN (HQ_then (HQ_subL (L' := rowL 9 (chC (SL.pairUp ls)) row3) (List.sublist_append_right _ _) ?_)); exact HQ_again (K, SL.pairUp ls, row3) ⟨by simp only; omega, by simp only; omega, heq, hr3, pairUp_mem ls⟩ (by simp only; omega) (.cons rfl .nil) (List.Sublist.refl _) (fun _ _ h => h)
      · try exact Bool.noConfusion h19
        try simp only [ZZ] at h19
        refine HC_exit (HQ_thenE ?_); refine HQ_thenE (HQ_blockE (hK16 _ _ _ _ ?_)); refine HC_seq fun K27 hK27 => ?_
        obtain rfl : k = 0 := by
          cases k with
          | zero => rfl
          | succ K => have := Nat.two_pow_pos K; rw [Nat.pow_succ] at hlen; omega
        obtain ⟨s0, hls1⟩ : ∃ s0, ls = [s0] := by
          match ls, hlen with
          | [a], _ => exact ⟨a, rfl⟩
          | [], h => simp at h
          | _ :: _ :: _, h => simp at h
        have hlen1 : ls.length = 1 := by rw [hls1]; rfl
        refine HC_region (HLm rfl ?_); refine HL_r rfl rfl rfl rfl (R_indexPl (p := rowP row) (j := 0) (show _ = some (plV ls.length (rowP row)) from by rw [rowP_V _ _ hok.zero]; rfl) (rowP_seg (e := 9) hok (by decide)) rfl rfl rfl rfl (by omega)) ?_; refine HL_r rfl rfl rfl rfl (R_loadPl1 (p := rowP row) (fun q hq => Or.inl hq) rfl (rowP_seg (e := 9) hok (by decide)) (by omega) rfl (chC_get (show ls[0]? = some s0 from by rw [hls1]; rfl))) ?_; refine HLm rfl ?_; refine HL_nil (hK27 _ _ _ _ ?_); refine HC_ret ?_; refine HQ_post rfl rfl (.cons (res_tmp rfl) .nil) (fun w1 hs1 => ?_); refine ⟨?_, hs1.keep⟩; rw [← heq, hls1]; rfl
end Go.Proofs.YtlcbfphioeppaaaGreatDoor
namespace Go.Proofs.YtlcbfphioeppaaaGreatDoor
set_option linter.all false
open Go.SL Go.RowKit Go.Shelf
/-! ### Reverse, number, root of a number -/
theorem mapV_get {Y : BS} {i : Nat} (h : i < Y.length) : (Y.map bV)[i]? = some (bV (Y.getD i 0)) := by
  rw [List.getElem?_map, List.getD_eq_getElem?_getD, List.getElem?_eq_getElem h]; rfl
def revS (xs : BS) : Nat → BS
  | 0 => xs
  | i + 1 => ((revS xs i).set i ((revS xs i).getD (xs.length - 1 - i) 0)).set (xs.length - 1 - i) ((revS xs i).getD i 0)
theorem revS_len (xs : BS) : ∀ i, (revS xs i).length = xs.length
  | 0 => rfl
  | i + 1 => by rw [revS, List.length_set, List.length_set, revS_len xs i]
theorem getD_set {Y : BS} {i j : Nat} {b : UInt8} (hi : i < Y.length) : (Y.set i b).getD j 0 = if i = j then b else Y.getD j 0 := by
  rw [List.getD_eq_getElem?_getD, List.getElem?_set, List.getD_eq_getElem?_getD]
  split
  · first | rfl | (rw [if_pos hi]; rfl) | simp [hi]
  · rfl
theorem revS_get (xs : BS) : ∀ {i j : Nat}, 2 * i ≤ xs.length → j < xs.length → (revS xs i).getD j 0 = if j < i ∨ xs.length - 1 - j < i then xs.getD (xs.length - 1 - j) 0 else xs.getD j 0
  | 0, j, _, hj => by rw [revS, if_neg (by omega)]
  | i + 1, j, hi, hj => by
    have h1 := revS_len xs i
    have ga := revS_get xs (i := i) (j := xs.length - 1 - i) (by omega) (by omega)
    have gb := revS_get xs (i := i) (j := i) (by omega) (by omega)
    have gj := revS_get xs (i := i) (j := j) (by omega) hj
    rw [if_neg (by omega)] at ga gb; rw [revS, getD_set (by rw [List.length_set, h1]; omega), getD_set (by rw [h1]; omega), ga, gb, gj]
    by_cases e1 : xs.length - 1 - i = j
    · rw [if_pos e1, if_pos (by omega)]
      congr 1; omega
    · rw [if_neg e1]
      by_cases e2 : i = j
      · rw [if_pos e2, if_pos (by omega)]
        congr 1; omega
      · rw [if_neg e2]
        by_cases e3 : j < i ∨ xs.length - 1 - j < i
        · rw [if_pos e3, if_pos (by omega)]
        · rw [if_neg e3, if_neg (by omega)]
theorem revS_rev {xs : BS} {i : Nat} (h1 : 2 * i ≤ xs.length) (h2 : xs.length ≤ 2 * i + 1) : revS xs i = xs.reverse := by
  apply List.ext_getElem?
  intro j
  by_cases hj : j < xs.length
  · have e1 : (revS xs i)[j]? = some ((revS xs i).getD j 0) := by rw [List.getD_eq_getElem?_getD, List.getElem?_eq_getElem (by rw [revS_len]; exact hj)]; rfl
    rw [e1, revS_get xs h1 hj, List.getElem?_reverse hj]
    have e2 : xs[xs.length - 1 - j]? = some (xs.getD (xs.length - 1 - j) 0) := by rw [List.getD_eq_getElem?_getD, List.getElem?_eq_getElem (by omega)]; rfl
    rw [e2]
    by_cases e3 : j < i ∨ xs.length - 1 - j < i
    · rw [if_pos e3]
    · rw [if_neg e3, show xs.length - 1 - j = j by omega]
  · rw [List.getElem?_eq_none (by rw [revS_len]; omega), List.getElem?_eq_none (by rw [List.length_reverse]; omega)]
theorem set_mapV {Y : BS} {sp : List Value} {i : Nat} {b : UInt8} (h : i < Y.length) : (Y.map bV ++ sp).toArray.setIfInBounds i (bV b) = ((Y.set i b).map bV ++ sp).toArray := by
  rw [List.setIfInBounds_toArray, List.set_append_left _ _ (by rw [List.length_map]; exact h), List.map_set]
section
variable {c : Cx} {l : List (Nat × Value)} {L E : List (Nat × Obj)} {X : XP} {Q : Exit → Act → World → Prop} {d : List Deferred}
variable {ops : Array Oper} {rest : List Nat} {i k : Nat} {v : Value} {o : Oper} {tb : Kbs} {S : List (Nat × Obj)} {T : List (Nat × Obj) → Act → Prop}
theorem HB_storeF {t ty : TypeId} {ps : String} {af : Array Edge} {gd : Option (Nat × Bool)} {x y : Operand} {q r off : Nat} {cs cs' : Array Value} {e : TypeId} {fr : Nat × Nat} {E' : List (Nat × Obj)} (hko : nth ops.toList k = some ⟨none, .store t x y, ty, ps, af, gd⟩) (hg : goes l ops ⟨none, .store t x y, ty, ps, af, gd⟩ = some true) (hA : tb k = .turn)
    (hx : evl l x = some (.pointer (some ⟨r, off, none⟩))) (hk : E[q]? = some (r, .cells cs e fr)) (hy : evl l y = some v) (ht : szOf c.P t = some 1) (ho : oneB v = true) (hfr : frB fr off = false) (hc : (cs[off]?).isSome = true)
    (hcs : cs.setIfInBounds off v = cs') (hL : E.set q (r, .cells cs' e fr) = E') (hS : SubS S E')
    (h : HB c d l E' X S ops tb rest T) : HB c d l E X S ops tb (k :: rest) T :=
  HB_turn0 hko hg rfl hA (fun a w hf hs => ⟨w.setCell ⟨r, off, none⟩ v, by
    simp only [execOp]; rw [hf.eval hx, hf.eval hy]
    obtain ⟨old, hold⟩ := Option.isSome_iff_exists.1 hc
    have h1 := run_store c.P w ⟨r, off, none⟩ v .plain (by rw [oneB_eq]; exact ho)
    rw [cell_at (hs.get hk), hold, frozen_at (hs.get hk) hfr] at h1
    have hcell : v.cells = #[v] := by cases v <;> first | rfl | cases ho
    simp [Instr.storeAt, Instr.sureAddr, Sem.run_bind, Result.andThen, storeVar, run_sz ht, hcell, storeCells, Addr.add, h1], by
    subst hL; subst hcs
    exact hs.set hk (Keep.setCell r off v) (Go.SL.heap_setCell_same v (hs.get hk))⟩) hS h
end
section
variable {c : Cx} {l : List (Nat × Value)} {L : List (Nat × Obj)} {X : XP} {d : List Deferred} {i : Nat} {ps : String} {af : Array Edge} {gd : Option (Nat × Bool)} {ty : TypeId}
theorem R_bytesStrG {x : Operand} {b : List UInt8} {r n cap : Nat} {cs : Array Value} {e src dst : TypeId} {fr : Nat × Nat} (hx : evl l x = some (.slice (some ⟨r, 0, none⟩) n cap)) (hk : known c L r (.cells cs e fr)) (hn : n = b.length) (ht : cs.toList.take b.length = b.map bV)
    (hs : sliceOf c.P src = some e) (he : c.P.underlying e = some (.int .u8)) (hd : strB c.P dst = true) :
    RunsTo c d l L X ⟨some i, .convert src dst x, ty, ps, af, gd⟩ (.string (bs b)) := fun a' w hf hst => by
  subst hn; simp only [execOp]; rw [hf.eval hx]
  have hget := hst.known hk
  have hl := run_loadRow (P := c.P) (xs := b.map bV) hget (by rw [List.length_map]; exact ht)
  rw [List.length_map] at hl; simp only [Sem.run_bind]; rw [run_convert_bytes_string w src dst e _ _ _ (und_slice hs) he (und_str hd)]; rw [run_bytesToString w _ _ _ (b.map fun x => ((x.toNat : Nat) : Int)) (by rw [hl]; simp [bV, Function.comp_def])]
  have := fold_push b []
  rw [show (bs [] : ByteArray) = ByteArray.empty from rfl] at this; rw [this]
  rfl
end
set_option maxRecDepth 10000 in
theorem T_Reverse {xs : BS} {sp : List Value} {r cap : Nat} {fr : Nat × Nat} (hfr : ∀ q, q < xs.length → frB fr q = false) (hc : xs.length ≤ cap) (hx : xs.length ≤ 9223372036854775807) : PureT (α := Unit) Tryz.prog 181 [.slice (some ⟨r, 0, none⟩) xs.length cap].toArray (fun _ => .tuple #[])
    [(r, .cells (xs.map bV ++ sp).toArray 5 fr)] (fun _ => [(r, .cells (xs.reverse.map bV ++ sp).toArray 5 fr)]) [] := by
  refine pureT_of_HC Tryz.func181 rfl rfl fun w => ?_; refine HC_seq fun K1 hK1 => HC_region ?_; refine HLm rfl (HL_r rfl rfl rfl rfl (R_lenSl rfl rfl) ?_); refine HLp rfl (HL_as (show _ = Value.int .i64 ((xs.length : Int) - 1) from congrArg (Value.int .i64) (wrap_i64 (by omega) (by omega))) ?_); refine HLm rfl (HLm rfl ?_); refine HL_nil (hK1 _ _ _ _ ?_); refine HC_block ?_; refine HC_loop (σ := Nat) (fun i => 2 * i ≤ xs.length + 1 ∧ 2 * i ≤ xs.length) (fun i => [(0, .slice (some ⟨r, 0, none⟩) xs.length cap), (2, .int .i64 (i : Int)), (3, .int .i64 ((xs.length : Int) - 1 - (i : Int)))]) (fun i => [(r, .cells ((revS xs i).map bV ++ sp).toArray 5 fr)]) (fun _ _ _ => True) (fun i => xs.length - i) 0 ⟨by omega, by omega⟩ (.cons rfl (.cons rfl (.cons (by rw [show ((0 : Nat) : Int) = 0 from rfl, Int.sub_zero]; rfl) .nil))) (List.Sublist.refl _) (fun _ _ h => h) ?_; rintro i ⟨hi1, hi2⟩; refine HC_seq fun K2 hK2 => ?_; refine HC_seq fun K3 hK3 => HC_region ?_; refine HLm rfl (HLm rfl (HLp rfl ?_)); refine HL_nil (hK3 _ _ _ _ ?_); refine HC_cond rfl (fun h4 => ?_) (fun h4 => ?_)
  · try exact Bool.noConfusion h4
    try simp only [ZZ] at h4
    refine HC_skip (hK2 _ _ _ _ ?_); refine HC_seq fun K5 hK5 => HC_block ?_
    have hii : i + 1 ≤ xs.length - i := by omega
    obtain ⟨Y, hY⟩ : ∃ Y, Y = revS xs i := ⟨_, rfl⟩
    have hYl : Y.length = xs.length := by rw [hY]; exact revS_len xs i
    rw [← hY]
    refine HC_drawB [] [(0, .pure), (1, .pure), (2, .pure), (3, .pure), (4, .pure), (5, .pure), (6, .pure), (8, .pure), (9, .pure), (10, .pure), (12, .pure), (13, .turn), (14, .pure), (15, .turn)] 16 [0, 1, 2, 3, 4, 5, 6, 7, 8, 9, 10, 11, 12, 13, 14, 15] (by kernel_rfl) (by kernel_rfl) (by first | exact (fun _ h => nomatch h) | simp [SubS] | (intro p hp; simp [hp])) ?_; refine HB_p (k := 0) rfl rfl rfl rfl rfl (fun _ hS => (R_move rfl)) ?_; refine HB_p (k := 1) rfl rfl rfl rfl rfl (fun _ hS => (R_move rfl)) ?_; refine HB_p (k := 2) rfl rfl rfl rfl rfl (fun _ hS => (R_move rfl)) ?_; refine HB_p (k := 3) rfl rfl rfl rfl rfl (fun _ hS => (R_move rfl)) ?_; refine HB_p (k := 4) rfl rfl rfl rfl rfl (fun _ hS => (R_move rfl)) ?_; refine HB_p (k := 5) rfl rfl rfl rfl rfl (fun _ hS => (R_move rfl)) ?_; refine HB_p (k := 6) rfl rfl rfl rfl rfl (fun _ _ => R_indexS (j := (xs.length - 1 - i)) (m := 1) (off' := (xs.length - 1 - i)) rfl rfl rfl rfl (by omega) (by omega) (by omega)) ?_; refine HB_r (k := 7) rfl rfl rfl rfl rfl (R_load rfl (known_L (k := 0) rfl) rfl (nth_row (xs := Y.map bV) (v := bV (Y.getD (xs.length - 1 - i) 0)) (mapV_get (by omega)))) ?_; refine HB_p (k := 8) rfl rfl rfl rfl rfl (fun _ hS => (R_move rfl)) ?_; refine HB_p (k := 9) rfl rfl rfl rfl rfl (fun _ hS => (R_move rfl)) ?_; refine HB_p (k := 10) rfl rfl rfl rfl rfl (fun _ _ => R_indexS (j := i) (m := 1) (off' := i) rfl rfl rfl rfl (by omega) (by omega) (by omega)) ?_; refine HB_r (k := 11) rfl rfl rfl rfl rfl (R_load rfl (known_L (k := 0) rfl) rfl (nth_row (xs := Y.map bV) (v := bV (Y.getD (i) 0)) (mapV_get (by omega)))) ?_; refine HB_p (k := 12) rfl rfl rfl rfl rfl (fun _ _ => R_indexS (j := i) (m := 1) (off' := i) rfl rfl rfl rfl (by omega) (by omega) (by omega)) ?_; refine HB_storeF (k := 13) (q := 0) (cs' := ((Y.set i (Y.getD (xs.length - 1 - i) 0)).map bV ++ sp).toArray) rfl rfl rfl rfl rfl rfl rfl rfl (hfr _ (by omega)) (by simp; omega) (set_mapV (by omega)) rfl (fun _ h => nomatch h) ?_; refine HB_p (k := 14) rfl rfl rfl rfl rfl (fun _ _ => R_indexS (j := (xs.length - 1 - i)) (m := 1) (off' := (xs.length - 1 - i)) rfl rfl rfl rfl (by omega) (by omega) (by omega)) ?_; refine HB_storeF (k := 15) (q := 0) (cs' := ((revS xs (i + 1)).map bV ++ sp).toArray) rfl rfl rfl rfl rfl rfl rfl rfl (hfr _ (by omega)) (by simp; omega) (by rw [set_mapV (by rw [List.length_set]; omega), revS, ← hY]) rfl (fun _ h => nomatch h) ?_; refine HB_end ?_; refine HL_nil ?_; refine HQ_blockN (hK5 _ _ _ _ ?_); refine HC_region (HLm rfl ?_); refine HLp rfl (HL_wrap_i64 (by omega) (by omega) (HLm rfl ?_))
    refine HLp rfl ?_; refine HL_as (show _ = Value.int .i64 ((xs.length : Int) - 1 - ((i + 1 : Nat) : Int)) from by rw [wrap_i64 (by omega) (by omega)]; congr 1 <;> omega) ?_; refine HLm rfl (HLm rfl (HL_nil ?_)); refine HQ_then ?_; exact HQ_again (i + 1) ⟨by omega, by omega⟩ (by omega) (.cons rfl (.cons rfl (.cons rfl .nil))) (List.Sublist.refl _) (fun _ _ h => h)
  · try exact Bool.noConfusion h4
    try simp only [ZZ] at h4
    refine HC_exit (HQ_thenE ?_); refine HQ_thenE (HQ_blockE ?_); refine HQ_postN rfl rfl .nil (fun w1 hs1 => ?_); exact ⟨(), rfl, by rw [← revS_rev (xs := xs) (i := i) (by omega) (by omega)]; exact hs1⟩
theorem leW32 (w : List Nat) : leW w 32 = (beD w 32).reverse := by unfold leW; rw [List.take_of_length_le (by rw [List.length_reverse, beD_len]; exact Nat.le_refl _)]
set_option maxRecDepth 10000 in
theorem P_number (t : Ty) {R : List (Nat × Obj)} {v : Vl} (hv : v.In R) : Pure Tryz.prog 103 [t.val, v.val].toArray (strV (leW v.num 32)) := by
  obtain ⟨k, n, p, ins⟩ := t
  cases hv with
  | @mk a b c d bits pb items pi pick ha hb hc hd hlb hsb hl hs hp hi =>
  have hw : WOk [a, b, c, d] := ⟨rfl, fun x hx => by simp at hx; rcases hx with rfl | rfl | rfl | rfl <;> assumption⟩
  show Pure _ _ _ (strV (leW [a, b, c, d] 32))
  rw [leW32]
  have hfx := P_word_Fixed hw
  have hlen := beD_len [a, b, c, d] 32
  generalize beD [a, b, c, d] 32 = B at hfx hlen
  refine pure_of_HC Tryz.func103 rfl rfl fun w => ?_; refine HC_seq fun K1 hK1 => HC_region ?_; refine HL_box (cs := #[_, _, _]) rfl rfl rfl rfl fun r1 => ?_; refine HL_box (cs := #[_, _, _, _, _, _, _]) rfl rfl rfl rfl fun r2 => ?_; refine HLm rfl ?_; refine HL_nil (hK1 _ _ _ _ ?_); refine HC_seq fun K2 hK2 => HC_region ?_
  refine HL_r rfl rfl rfl rfl (R_fieldAddr rfl rfl (by first | (simp only [Nat.zero_add, Nat.reduceAdd, Nat.reduceMul, Nat.zero_mul, Nat.mul_one, Nat.add_zero]; exact rfl) | exact rfl)) ?_; refine HL_r rfl rfl rfl rfl (R_loadA (vs := [_, _, _, _]) rfl (known_L (k := 0) rfl) rfl rfl rfl rfl) ?_; refine HL_callP rfl rfl rfl (enters_of Tryz.func68 (by kernel_rfl) rfl) hfx ?_; refine HL_strBytes rfl rfl rfl rfl rfl rfl fun rb kb => ?_; refine HLm rfl ?_; refine HL_nil (hK2 _ _ _ _ ?_); refine HC_seq fun K3 hK3 => HC_region ?_; refine HLm rfl ?_; refine HL_callT (T := [(rb, .cells (B.map bV ++ List.replicate kb (Value.int .u8 0)).toArray 5 (B.length + kb, B.length + kb + 1))]) (L0 := [(r2, _), (r1, _)]) (Rl := []) (List.Perm.refl _) rfl rfl rfl (enters_of Tryz.func181 (by kernel_rfl) rfl) (T_Reverse (fun q hq => by simp [frB, Nat.blt, Nat.ble]; omega) (by omega) (by omega)) (fun q hq => nomatch hq) fun u => ?_; change HL _ _ _ ((rb, _) :: (r2, _) :: (r1, _) :: []) _ _ _ _; refine HL_nil (hK3 _ _ _ _ ?_); refine HC_seq fun K4 hK4 => HC_region ?_; refine HLm rfl ?_; refine HL_r rfl rfl rfl rfl (R_bytesStrG (b := B.reverse) rfl (known_L (k := 0) rfl) (by rw [List.length_reverse]) (by simp only [List.toList_toArray]; rw [List.take_left' (by rw [List.length_map])]) rfl rfl rfl) ?_; refine HLm rfl ?_; refine HL_nil (hK4 _ _ _ _ ?_); refine HC_ret ?_; refine HQ_post rfl rfl (.cons (res_tmp rfl) .nil) (fun w1 hs1 => ?_); exact ⟨rfl, hs1.keep⟩
def rootM : Array MapEntry := #[⟨.int .i64 1, .func (.func 103) #[] #[], 0⟩, ⟨.int .i64 2, .func (.func 103) #[] #[], 1⟩, ⟨.int .i64 3, .func (.func 104) #[] #[], 2⟩, ⟨.int .i64 4, .func (.func 106) #[] #[], 3⟩,
  ⟨.int .i64 5, .func (.func 108) #[] #[], 4⟩, ⟨.int .i64 6, .func (.func 110) #[] #[], 5⟩, ⟨.int .i64 7, .func (.func 111) #[] #[], 6⟩, ⟨.int .i64 8, .func (.func 113) #[] #[], 7⟩]
theorem rootM_dom : ∀ e ∈ rootM.toList, isI e.key := by
  intro e he
  unfold rootM at he
  simp at he
  rcases he with rfl | rfl | rfl | rfl | rfl | rfl | rfl | rfl <;> exact ⟨_, rfl⟩
set_option maxRecDepth 10000 in
theorem P_root1 {R : List (Nat × Obj)} {n : Int} {p : Pl} {ins : List Ty} {v : Vl} (hv : v.In R) : Pure Tryz.prog 60 [Ty.val (.mk 1 n p ins), v.val].toArray (strV (leW v.num 32)) := by
  have hnum := P_number (.mk 1 n p ins) hv
  obtain ⟨a, b, c, d, bits, pb, items, pi, pick⟩ := v
  generalize leW (Vl.num (.mk a b c d bits pb items pi pick)) 32 = z at hnum
  refine pure_of_HC Tryz.func60 rfl rfl fun w => ?_; refine HC_seq fun K1 hK1 => HC_region ?_; refine HL_box (cs := #[_, _, _]) rfl rfl rfl rfl fun r1 => ?_; refine HL_box (cs := #[_, _, _, _, _, _, _]) rfl rfl rfl rfl fun r2 => ?_; refine HLm rfl ?_; refine HL_nil (hK1 _ _ _ _ ?_); refine HC_seq fun K2 hK2 => HC_region ?_; refine HL_makeMap rfl rfl fun rm => ?_; refine HL_insert (q := 0) (key := .int .i64 1) (val := .func (.func 103) #[] #[]) (keyI (t := 3) (by kernel_rfl)) rfl rfl rfl rfl rfl rfl ⟨_, rfl⟩ (by intro e he; simp at he) rfl rfl ?_
  refine HL_insert (q := 0) (key := .int .i64 2) (val := .func (.func 103) #[] #[]) (keyI (t := 3) (by kernel_rfl)) rfl rfl rfl rfl rfl rfl ⟨_, rfl⟩ (by intro e he; simp at he; rcases he with rfl <;> exact ⟨_, rfl⟩) rfl rfl ?_
  refine HL_insert (q := 0) (key := .int .i64 3) (val := .func (.func 104) #[] #[]) (keyI (t := 3) (by kernel_rfl)) rfl rfl rfl rfl rfl rfl ⟨_, rfl⟩ (by intro e he; simp at he; rcases he with rfl | rfl <;> exact ⟨_, rfl⟩) rfl rfl ?_
  refine HL_insert (q := 0) (key := .int .i64 4) (val := .func (.func 106) #[] #[]) (keyI (t := 3) (by kernel_rfl)) rfl rfl rfl rfl rfl rfl ⟨_, rfl⟩ (by intro e he; simp at he; rcases he with rfl | rfl | rfl <;> exact ⟨_, rfl⟩) rfl rfl ?_
  refine HL_insert (q := 0) (key := .int .i64 5) (val := .func (.func 108) #[] #[]) (keyI (t := 3) (by kernel_rfl)) rfl rfl rfl rfl rfl rfl ⟨_, rfl⟩ (by intro e he; simp at he; rcases he with rfl | rfl | rfl | rfl <;> exact ⟨_, rfl⟩) rfl rfl ?_
  refine HL_insert (q := 0) (key := .int .i64 6) (val := .func (.func 110) #[] #[]) (keyI (t := 3) (by kernel_rfl)) rfl rfl rfl rfl rfl rfl ⟨_, rfl⟩ (by intro e he; simp at he; rcases he with rfl | rfl | rfl | rfl | rfl <;> exact ⟨_, rfl⟩) rfl rfl ?_
  refine HL_insert (q := 0) (key := .int .i64 7) (val := .func (.func 111) #[] #[]) (keyI (t := 3) (by kernel_rfl)) rfl rfl rfl rfl rfl rfl ⟨_, rfl⟩ (by intro e he; simp at he; rcases he with rfl | rfl | rfl | rfl | rfl | rfl <;> exact ⟨_, rfl⟩) rfl rfl ?_
  refine HL_insert (q := 0) (key := .int .i64 8) (val := .func (.func 113) #[] #[]) (keyI (t := 3) (by kernel_rfl)) rfl rfl rfl rfl rfl rfl ⟨_, rfl⟩ (by intro e he; simp at he; rcases he with rfl | rfl | rfl | rfl | rfl | rfl | rfl <;> exact ⟨_, rfl⟩) rfl rfl ?_; change HL _ _ _ ((rm, .map rootM 8) :: _) _ _ _ _; refine HLm rfl (HLm rfl ?_); refine HL_nil (hK2 _ _ _ _ ?_); refine HC_seq fun K3 hK3 => HC_region ?_; refine HLm rfl ?_
  refine HL_r rfl rfl rfl rfl (R_fieldAddr rfl rfl (by first | (simp only [Nat.zero_add, Nat.reduceAdd, Nat.reduceMul, Nat.zero_mul, Nat.mul_one, Nat.add_zero]; exact rfl) | exact rfl)) ?_; refine HL_r rfl rfl rfl rfl (R_load rfl (known_L (k := 2) rfl) rfl rfl) ?_; refine HL_r rfl rfl rfl rfl (R_lookup (v := .func (.func 103) #[] #[]) (keyI (t := 3) (by kernel_rfl)) rfl rfl (known_L (k := 0) rfl) rfl rfl ⟨_, rfl⟩ rootM_dom (by rfl)) ?_; refine HL_r rfl rfl rfl rfl (R_loadA (vs := [_, _, _]) rfl (known_L (k := 2) rfl) rfl rfl rfl rfl) ?_; refine HL_r rfl rfl rfl rfl (R_loadA (vs := [_, _, _, _, _, _, _]) rfl (known_L (k := 1) rfl) rfl rfl rfl rfl) ?_; refine HL_callP rfl rfl rfl (enters_of Tryz.func103 (by kernel_rfl) rfl) hnum ?_; refine HLm rfl ?_; refine HL_nil (hK3 _ _ _ _ ?_); refine HC_ret ?_; refine HQ_post rfl rfl (.cons (res_tmp rfl) .nil) (fun w1 hs1 => ?_); exact ⟨rfl, hs1.keep⟩
end Go.Proofs.YtlcbfphioeppaaaGreatDoor
namespace Go.Proofs.YtlcbfphioeppaaaGreatDoor
set_option linter.all false
open Go.SL Go.RowKit Go.Shelf
/-! ### Root of small things, and the facts that stand ahead of the laws -/
theorem seg1 {r n : Nat} {e : TypeId} {cs : List Value} (h : cs.length = n) : Seg [(r, .cells cs.toArray e (0, 0))] n cs (some (⟨r, 0, none⟩, n)) := by
  refine ⟨Nat.le_refl _, fun _ => ⟨rfl, cs.toArray, e, (0, 0), List.mem_cons_self, ?_⟩⟩
  show (cs.toArray.toList.drop 0).take _ = cs
  rw [List.toList_toArray, List.drop_zero, List.take_of_length_le (by omega)]
theorem bool_eq' {a b : Bool} (h : a = b) : Value.bool a = Value.bool b := by rw [h]
theorem lg1 : lg 1 = 0 := by decide
theorem lg3 : lg 3 = 2 := by decide +kernel
theorem any32 {l : List BS} (h : ∀ s ∈ l, s.length = 32) : l.any oddC = false := by
  rw [List.any_eq_false]; intro s hs
  unfold oddC
  rw [h s hs]
  simp
theorem root_one (s : BS) : rootC [s] 1 = s := by unfold rootC; rw [lg1]; rfl
theorem tree4 (a b c d : BS) : treeR 2 [a, b, c, d] = kec (kec (a ++ b) ++ kec (c ++ d)) := by
  simp only [treeR, SL.pairUp, List.head?, List.headD, List.head!, List.getD]
theorem pad4 (s : BS) : padC 4 [s] = [s, z32, z32, z32] := by
  unfold padC
  generalize z32 = z
  rfl
theorem root_three (s : BS) : rootC [s] 3 = kec (kec (s ++ z32) ++ kec (z32 ++ z32)) := by
  unfold rootC
  rw [lg3]
  show treeR 2 (padC 4 [s]) = _
  rw [pad4, tree4]
theorem treeT_ok {l : List BS} {m : Nat} (h32 : ∀ s ∈ l, s.length = 32) (h1 : 1 ≤ m) (h2 : m ≤ 512) (hl : l.length ≤ m) : treeT l (m : Int) = (rootC l m, 0) := by
  unfold treeT
  rw [if_neg (by rw [any32 h32]; rintro (h | h | h); (· omega); (· omega); · cases h), Int.toNat_natCast]
set_option maxRecDepth 10000 in
theorem P_Root1 : Pure Tryz.prog 32 [Ty.val (.mk 1 2 none []), (vNum 1).val].toArray (resS (leW [1, 0, 0, 0] 32, 0)) := by
  have hf : PureR Tryz.prog 22 [Ty.val (.mk 1 2 none []), (vNum 1).val].toArray (.int .i64 (fitsT tTwo (vNum 1))) [] := S_Fits in_two (in_num 1 (by decide))
  have hf0 : fitsT tTwo (vNum 1) = 0 := by kernel_rfl
  rw [hf0] at hf
  have hr := P_root1 (n := 2) (p := none) (ins := []) (v := vNum 1) (R := []) (in_num 1 (by decide))
  rw [show (vNum 1).num = [1, 0, 0, 0] from rfl] at hr
  generalize leW [1, 0, 0, 0] 32 = z at hr
  refine pure_of_HC Tryz.func32 rfl rfl fun w => ?_; refine HC_seq fun K1 hK1 => HC_region ?_; refine HL_box (cs := #[_, _, _]) rfl rfl rfl rfl fun r1 => ?_; refine HL_box (cs := #[_, _, _, _, _, _, _]) rfl rfl rfl rfl fun r2 => ?_; refine HLm rfl (HLm rfl ?_); refine HL_nil (hK1 _ _ _ _ ?_); refine HC_seq fun K2 hK2 => ?_; refine HC_seq fun K3 hK3 => HC_region ?_; refine HL_r rfl rfl rfl rfl (R_loadA (vs := [_, _, _]) rfl (known_L (k := 1) rfl) rfl rfl rfl rfl) ?_; refine HL_r rfl rfl rfl rfl (R_loadA (vs := [_, _, _, _, _, _, _]) rfl (known_L (k := 0) rfl) rfl rfl rfl rfl) ?_; refine HL_callR rfl rfl rfl (enters_of Tryz.func22 (by kernel_rfl) rfl) hf (fun q hq => nomatch hq) ?_; refine HLm rfl ?_; refine HL_nil (hK3 _ _ _ _ ?_); refine HC_seq fun K4 hK4 => HC_region ?_; refine HLm rfl (HLp rfl ?_); refine HL_nil (hK4 _ _ _ _ ?_); refine HC_cond rfl (fun h5 => ?_) (fun h5 => ?_)
  · try exact Bool.noConfusion h5
  · try exact Bool.noConfusion h5
    try simp only [ZZ] at h5
    refine HC_skip (hK2 _ _ _ _ ?_); refine HC_seq fun K7 hK7 => HC_region ?_; refine HL_r rfl rfl rfl rfl (R_loadA (vs := [_, _, _]) rfl (known_L (k := 1) rfl) rfl rfl rfl rfl) ?_; refine HL_r rfl rfl rfl rfl (R_loadA (vs := [_, _, _, _, _, _, _]) rfl (known_L (k := 0) rfl) rfl rfl rfl rfl) ?_; refine HL_callP rfl rfl rfl (enters_of Tryz.func60 (by kernel_rfl) rfl) hr ?_; refine HLm rfl (HLm rfl ?_); refine HL_nil (hK7 _ _ _ _ ?_); refine HC_ret ?_; refine HQ_post rfl rfl (.cons (res_tmp rfl) (.cons (res_tmp rfl) .nil)) (fun w1 hs1 => ?_); exact ⟨rfl, hs1.keep⟩
set_option maxRecDepth 10000 in
theorem P_Root0 : Pure Tryz.prog 32 [Ty.val (.mk 0 0 none []), (vNum 0).val].toArray (resS ([], 9)) := by
  have hf : PureR Tryz.prog 22 [Ty.val (.mk 0 0 none []), (vNum 0).val].toArray (.int .i64 (fitsT (.mk 0 0 none []) (vNum 0))) [] := S_Fits (in_ty0 (iz 0) (iz 0)) (in_num 0 (by decide))
  have hf0 : fitsT (.mk 0 0 none []) (vNum 0) = 9 := by kernel_rfl
  rw [hf0] at hf; refine pure_of_HC Tryz.func32 rfl rfl fun w => ?_; refine HC_seq fun K1 hK1 => HC_region ?_; refine HL_box (cs := #[_, _, _]) rfl rfl rfl rfl fun r1 => ?_; refine HL_box (cs := #[_, _, _, _, _, _, _]) rfl rfl rfl rfl fun r2 => ?_; refine HLm rfl (HLm rfl ?_); refine HL_nil (hK1 _ _ _ _ ?_); refine HC_seq fun K2 hK2 => ?_; refine HC_seq fun K3 hK3 => HC_region ?_; refine HL_r rfl rfl rfl rfl (R_loadA (vs := [_, _, _]) rfl (known_L (k := 1) rfl) rfl rfl rfl rfl) ?_; refine HL_r rfl rfl rfl rfl (R_loadA (vs := [_, _, _, _, _, _, _]) rfl (known_L (k := 0) rfl) rfl rfl rfl rfl) ?_; refine HL_callR rfl rfl rfl (enters_of Tryz.func22 (by kernel_rfl) rfl) hf (fun q hq => nomatch hq) ?_; refine HLm rfl ?_; refine HL_nil (hK3 _ _ _ _ ?_); refine HC_seq fun K4 hK4 => HC_region ?_; refine HLm rfl (HLp rfl ?_); refine HL_nil (hK4 _ _ _ _ ?_); refine HC_cond rfl (fun h5 => ?_) (fun h5 => ?_)
  · try exact Bool.noConfusion h5
    try simp only [ZZ] at h5
    refine HC_seq fun K6 hK6 => HC_region ?_; refine HLm rfl (HLm rfl (HLm rfl ?_)); refine HL_nil (hK6 _ _ _ _ ?_); refine HC_ret (HQ_thenR ?_); refine HQ_post rfl rfl (.cons (res_tmp rfl) (.cons (res_tmp rfl) .nil)) (fun w1 hs1 => ?_); exact ⟨rfl, hs1.keep⟩
  · try exact Bool.noConfusion h5
theorem le_one : leW [1, 0, 0, 0] 32 = (1 : UInt8) :: List.replicate 31 0 := by decide +kernel
theorem pad_two : padZ (leN 2 8) = (2 : UInt8) :: List.replicate 31 0 := by decide +kernel
set_option maxHeartbeats 1000000 in
set_option maxRecDepth 10000 in
theorem P_works09 : Pure Tryz.prog 26 [].toArray (.bool true) := by
  have hR1 := P_Root1
  rw [le_one] at hR1
  obtain ⟨z31, hz31⟩ : ∃ x : BS, x = List.replicate 31 0 := ⟨_, rfl⟩
  have hl31 : z31.length = 31 := by rw [hz31]; rfl
  rw [← hz31] at hR1
  obtain ⟨one, hone⟩ : ∃ x : BS, x = 1 :: z31 := ⟨_, rfl⟩
  rw [← hone] at hR1
  obtain ⟨z, hz⟩ : ∃ x : BS, x = z32 := ⟨_, rfl⟩
  have hz1 : z = 0 :: z31 := by rw [hz, hz31]; rfl
  have hzd : z.drop 1 = z31 := by rw [hz1]; rfl
  have hlz : z.length = 32 := by rw [hz]; rfl
  have hlo : one.length = 32 := by rw [hone, List.length_cons, hl31]
  have hlz2 := kec_len (z ++ z)
  have hlz3 := kec_len (one ++ z)
  obtain ⟨zz, hzz⟩ : ∃ x, x = kec (z ++ z) := ⟨_, rfl⟩
  obtain ⟨oz, hoz⟩ : ∃ x, x = kec (one ++ z) := ⟨_, rfl⟩
  obtain ⟨b, hb⟩ : ∃ x, x = kec (oz ++ zz) := ⟨_, rfl⟩
  obtain ⟨c, hc⟩ : ∃ x, x = kec ((one ++ ([2] : BS)) ++ z31) := ⟨_, rfl⟩
  rw [← hzz] at hlz2; rw [← hoz] at hlz3
  have hm1 : ∀ s ∈ [one], s.length = 32 := by simp [hlo]
  have e1 : treeT [one] 1 = (one, 0) := by rw [show (1 : Int) = ((1 : Nat) : Int) from rfl, treeT_ok hm1 (by decide) (by decide) (by simp), root_one]
  have e2 : treeT [one] 3 = (b, 0) := by rw [show (3 : Int) = ((3 : Nat) : Int) from rfl, treeT_ok hm1 (by decide) (by decide) (by simp), root_three, ← hz, ← hzz, ← hoz, ← hb]
  have e3 : treeT [one, one] 1 = ([], 1) := by unfold treeT; rw [if_pos (.inr (.inl (by simp)))]
  have e4 : mixR one 2 = (c, 0) := by unfold mixR mixE; rw [if_neg (by rw [hlo]; simp), pad_two, ← hz31, hc, List.append_assoc]; rfl
  have e5 : mixR [120] 1 = ([], 1) := by unfold mixR; rw [if_pos (by decide)]
  have k1 := P_kec (s := z ++ z) (by rw [List.length_append]; omega)
  rw [← hzz] at k1
  have k2 := P_kec (s := one ++ z) (by rw [List.length_append]; omega)
  rw [← hoz] at k2
  have k3 := P_kec (s := oz ++ zz) (by rw [List.length_append]; omega)
  rw [← hb] at k3
  have k4 := P_kec (s := (one ++ ([2] : BS)) ++ z31) (by rw [List.length_append, List.length_append]; simp; omega)
  rw [← hc] at k4
  have hzb : List.replicate 32 (Value.int .u8 0) = z.map bV := by rw [hz]; rfl
  clear hzz hoz hb hc; refine pure_of_HC Tryz.func26 rfl rfl fun w => ?_; refine HC_seq fun K1 hK1 => HC_region ?_; refine HLm rfl ?_; refine HL_nil (hK1 _ _ _ _ ?_); refine HC_seq fun K2 hK2 => HC_region ?_; refine HL_r rfl rfl rfl rfl (R_build (r := [_, _, _]) rfl rfl) ?_; refine HL_alloc (cs := #[_, _, _]) rfl rfl rfl rfl fun r1 => ?_
  refine HL_storeA (k := 0) (n := 3) (cs' := #[_, _, _]) (vs := #[_, _, _]) rfl rfl rfl rfl rfl rfl rfl (by exact Nat.le_of_ble_eq_true rfl) rfl (by first | (simp only [List.set_cons_zero, List.set_cons_succ]; exact rfl) | exact rfl) ?_; refine HL_nil (hK2 _ _ _ _ ?_); refine HC_seq fun K3 hK3 => HC_region ?_; refine HL_r rfl rfl rfl rfl (R_loadA (vs := [_, _, _]) rfl (known_L (k := 0) rfl) rfl rfl rfl rfl) ?_; refine HL_r rfl rfl rfl rfl (R_build (r := [_, _, _, _]) rfl rfl) ?_; refine HL_r rfl rfl rfl rfl (R_build (r := [_, _, _, _, _, _, _]) rfl rfl) ?_; refine HL_callP rfl rfl rfl (enters_of Tryz.func32 (by kernel_rfl) rfl) hR1 ?_; refine HLm rfl (HL_r rfl rfl rfl rfl (R_extract rfl rfl) (HL_r rfl rfl rfl rfl (R_extract rfl rfl) ?_)); refine HLm rfl (HLm rfl ?_); refine HL_nil (hK3 _ _ _ _ ?_); refine HC_seq fun K4 hK4 => HC_region ?_; refine HL_make (n := 32) (b := 1) rfl rfl rfl rfl rfl rfl rfl rfl rfl (by decide) (by decide) fun rm => ?_; rw [hzb]; refine HL_r rfl rfl rfl rfl (R_bytesStr (b := z) (row := some (rm, 32, [])) (e := 5) (show _ = some (rowV z.length (some (rm, 32, []))) from by rw [hlz]; rfl) ⟨by simp, by simp [hlz]⟩ (fun p hp => .inl (by rw [List.mem_singleton.1 hp]; simp)) rfl rfl rfl) ?_; refine HLm rfl ?_; refine HL_nil (hK4 _ _ _ _ ?_); refine HC_seq fun K5 hK5 => HC_region ?_; refine HLm rfl ?_; refine HL_buildSlice (n := 1) (sz := 1) (vs := [_]) (zs := [_]) (r := [strV one]) rfl rfl rfl rfl rfl rfl rfl rfl rfl (by show (madeCells #[_] _).toList = _; rw [made_one]; exact rfl) rfl fun r4 => ?_; refine HL_callR (Rl := [(r4, .cells (chC [one]).toArray 9 (0, 0))]) rfl rfl rfl (enters_of Tryz.func27 (by kernel_rfl) rfl) (S_Tree (p := some (⟨r4, 0, none⟩, 1)) (l := [one]) (by simp) (seg1 (by simp [chC])) 1) (fun q hq => .inl (by rw [List.mem_singleton.1 hq]; exact List.mem_cons_self)) ?_; refine HL_as (congrArg resS e1) ?_; refine HLm rfl (HL_r rfl rfl rfl rfl (R_extract rfl rfl) (HL_r rfl rfl rfl rfl (R_extract rfl rfl) ?_)); refine HLm rfl (HLm rfl ?_); refine HL_nil (hK5 _ _ _ _ ?_); refine HC_seq fun K6 hK6 => HC_region ?_; refine HLm rfl ?_; refine HL_buildSlice (n := 1) (sz := 1) (vs := [_]) (zs := [_]) (r := [strV one]) rfl rfl rfl rfl rfl rfl rfl rfl rfl (by show (madeCells #[_] _).toList = _; rw [made_one]; exact rfl) rfl fun r5 => ?_; refine HL_callR (Rl := [(r5, .cells (chC [one]).toArray 9 (0, 0))]) rfl rfl rfl (enters_of Tryz.func27 (by kernel_rfl) rfl) (S_Tree (p := some (⟨r5, 0, none⟩, 1)) (l := [one]) (by simp) (seg1 (by simp [chC])) 3) (fun q hq => .inl (by rw [List.mem_singleton.1 hq]; exact List.mem_cons_self)) ?_; refine HL_as (congrArg resS e2) ?_; refine HLm rfl (HL_r rfl rfl rfl rfl (R_extract rfl rfl) (HL_r rfl rfl rfl rfl (R_extract rfl rfl) ?_)); refine HLm rfl (HLm rfl ?_); refine HL_nil (hK6 _ _ _ _ ?_); refine HC_seq fun K7 hK7 => HC_region ?_; refine HLm rfl (HL_callP rfl rfl rfl (enters_of Tryz.func29 (by kernel_rfl) rfl) (P_Mix one (n := 2) (uz 2)) (HL_as (congrArg resS e4) ?_)); refine HLm rfl (HL_r rfl rfl rfl rfl (R_extract rfl rfl) (HL_r rfl rfl rfl rfl (R_extract rfl rfl) ?_)); refine HLm rfl (HLm rfl ?_); refine HL_nil (hK7 _ _ _ _ ?_); refine HC_seq fun K8 hK8 => HC_region ?_; refine HLm rfl (HLm rfl ?_); refine HL_buildSlice (n := 2) (sz := 1) (vs := [_, _]) (zs := [_, _]) (r := [strV one, strV one]) rfl rfl rfl rfl rfl rfl rfl rfl rfl (by rw [made_list]; exact rfl) rfl fun r7 => ?_; refine HL_callR (Rl := [(r7, .cells (chC [one, one]).toArray 9 (0, 0))]) rfl rfl rfl (enters_of Tryz.func27 (by kernel_rfl) rfl) (S_Tree (p := some (⟨r7, 0, none⟩, 2)) (l := [one, one]) (by simp) (seg1 (by simp [chC])) 1) (fun q hq => .inl (by rw [List.mem_singleton.1 hq]; exact List.mem_cons_self)) ?_; refine HL_as (congrArg resS e3) ?_; refine HLm rfl (HL_r rfl rfl rfl rfl (R_extract rfl rfl) (HL_r rfl rfl rfl rfl (R_extract rfl rfl) ?_)); refine HLm rfl (HLm rfl ?_); refine HL_nil (hK8 _ _ _ _ ?_); refine HC_seq fun K9 hK9 => HC_region ?_; refine HL_callP rfl rfl rfl (enters_of Tryz.func29 (by kernel_rfl) rfl) (P_Mix [120] (n := 1) (uz 1)) ?_; refine HL_as (congrArg resS e5) ?_; refine HLm rfl (HL_r rfl rfl rfl rfl (R_extract rfl rfl) (HL_r rfl rfl rfl rfl (R_extract rfl rfl) ?_)); refine HLm rfl (HLm rfl ?_); refine HL_nil (hK9 _ _ _ _ ?_); refine HC_seq fun K10 hK10 => HC_region ?_; refine HL_r rfl rfl rfl rfl (R_build (r := [_, _, _]) rfl rfl) ?_; refine HL_r rfl rfl rfl rfl (R_build (r := [_, _, _, _, _, _, _]) rfl rfl) ?_; refine HL_callP rfl rfl rfl (enters_of Tryz.func32 (by kernel_rfl) rfl) P_Root0 ?_; refine HLm rfl (HL_r rfl rfl rfl rfl (R_extract rfl rfl) (HL_r rfl rfl rfl rfl (R_extract rfl rfl) ?_)); refine HLm rfl (HLm rfl ?_); refine HL_nil (hK10 _ _ _ _ ?_); refine HC_seq fun K11 hK11 => HC_region ?_; refine HLm rfl (HLm rfl (HL_r rfl rfl rfl rfl (R_concat (a := z) (b := z) rfl rfl (by omega)) ?_)); refine HL_callP rfl rfl rfl (enters_of Tryz.func34 (by kernel_rfl) rfl) k1 ?_; refine HLm rfl ?_; refine HL_nil (hK11 _ _ _ _ ?_); refine HC_seq fun K12 hK12 => HC_region ?_; refine HLm rfl (HLm rfl (HL_r rfl rfl rfl rfl (R_sliceBs (kl := some (.i64, 1)) (kh := none) (m := 1) (n := z.length) rfl rfl rfl rfl rfl rfl (by omega) (by omega) (by rw [List.take_length, hzd])) ?_)); refine HL_r rfl rfl rfl rfl (R_concat (a := [1]) rfl rfl (by rw [hl31]; decide)) ?_; refine HL_r rfl rfl rfl rfl (R_strEq rfl rfl) ?_; refine HL_as (show _ = Value.bool true from bool_eq' (decide_eq_true hone)) ?_; refine HLm rfl (HLm rfl ?_); refine HLp rfl (HL_as (show _ = Value.bool true from bool_eq' (rfl)) (HL_r rfl rfl rfl rfl (R_pickT rfl rfl) ?_)); refine HLm rfl (HLm rfl ?_); refine HLm rfl (HL_r rfl rfl rfl rfl (R_strEq rfl rfl) (HL_as (show _ = Value.bool true from bool_eq' (decide_eq_true rfl)) ?_)); refine HL_r rfl rfl rfl rfl (R_pickT rfl rfl) ?_; refine HLm rfl (HLm rfl ?_); refine HLp rfl (HL_as (show _ = Value.bool true from bool_eq' (rfl)) (HL_r rfl rfl rfl rfl (R_pickT rfl rfl) ?_)); refine HLm rfl (HLm rfl ?_); refine HLm rfl (HLm rfl (HL_r rfl rfl rfl rfl (R_concat (a := one) (b := z) rfl rfl (by omega)) ?_)); refine HL_callP rfl rfl rfl (enters_of Tryz.func34 (by kernel_rfl) rfl) k2 ?_; refine HLm rfl (HL_r rfl rfl rfl rfl (R_concat (a := oz) (b := zz) rfl rfl (by omega)) (HL_callP rfl rfl rfl (enters_of Tryz.func34 (by kernel_rfl) rfl) k3 ?_)); refine HL_r rfl rfl rfl rfl (R_strEq rfl rfl) ?_; refine HL_as (show _ = Value.bool true from bool_eq' (decide_eq_true rfl)) ?_; refine HL_r rfl rfl rfl rfl (R_pickT rfl rfl) ?_; refine HLm rfl (HLm rfl ?_); refine HLp rfl (HL_as (show _ = Value.bool true from bool_eq' (rfl)) (HL_r rfl rfl rfl rfl (R_pickT rfl rfl) ?_)); refine HLm rfl (HLm rfl (HLm rfl ?_)); refine HL_r rfl rfl rfl rfl (R_concat (a := one) (b := [2]) rfl rfl (by rw [hlo]; decide)) ?_; refine HLm rfl (HL_r rfl rfl rfl rfl (R_sliceBs (kl := some (.i64, 1)) (kh := none) (m := 1) (n := z.length) rfl rfl rfl rfl rfl rfl (by omega) (by omega) (by rw [List.take_length, hzd])) ?_); refine HL_r rfl rfl rfl rfl (R_concat (a := one ++ [2]) (b := z31) rfl rfl (by rw [List.length_append]; simp; omega)) ?_; refine HL_callP rfl rfl rfl (enters_of Tryz.func34 (by kernel_rfl) rfl) k4 ?_; refine HL_r rfl rfl rfl rfl (R_strEq rfl rfl) ?_; refine HL_as (show _ = Value.bool true from bool_eq' (decide_eq_true rfl)) ?_; refine HL_r rfl rfl rfl rfl (R_pickT rfl rfl) ?_; refine HLm rfl (HLm rfl ?_); refine HLp rfl (HL_as (show _ = Value.bool true from bool_eq' (rfl)) (HL_r rfl rfl rfl rfl (R_pickT rfl rfl) ?_)); refine HLm rfl (HLm rfl ?_); refine HLp rfl (HL_as (show _ = Value.bool true from bool_eq' (rfl)) (HL_r rfl rfl rfl rfl (R_pickT rfl rfl) ?_)); refine HLm rfl (HLm rfl ?_); refine HLp rfl (HL_as (show _ = Value.bool true from bool_eq' (rfl)) (HL_r rfl rfl rfl rfl (R_pickT rfl rfl) ?_)); refine HLm rfl (HLm rfl ?_); refine HLp rfl (HL_as (show _ = Value.bool true from bool_eq' (rfl)) (HL_r rfl rfl rfl rfl (R_pickT rfl rfl) ?_)); refine HLm rfl ?_; refine HL_nil (hK12 _ _ _ _ ?_); refine HC_ret ?_; refine HQ_post rfl rfl (.cons (res_tmp rfl) .nil) (fun w1 hs1 => ?_); exact ⟨rfl, hs1.keep⟩
end Go.Proofs.YtlcbfphioeppaaaGreatDoor
namespace Go.Proofs.YtlcbfphioeppaaaGreatDoor
set_option linter.all false
open Go.SL Go.RowKit Go.Shelf
section
variable {c : Cx} {l : List (Nat × Value)} {L : List (Nat × Obj)} {X : XP} {d : List Deferred} {i : Nat} {t : TypeId} {ps : String} {af : Array Edge} {gd : Option (Nat × Bool)} {ty : TypeId}
variable {Q : Exit → Act → World → Prop} {ops : Array Oper} {rest : List Oper}
end
end Go.Proofs.YtlcbfphioeppaaaGreatDoor
/-! ### strings.Builder: a string's bytes onto a row of one's own; unsafe pointers; a row as a string -/
namespace Go.SL
set_option linter.all false
open Go Go.RowKit Go.Shelf
section
variable {c : Cx} {l : List (Nat × Value)} {L : List (Nat × Obj)} {X : XP} {Q : Exit → Act → World → Prop} {d : List Deferred}
variable {ops : Array Oper} {rest : List Oper} {i : Nat} {v : Value} {t u : TypeId} {ps : String} {af : Array Edge} {gd : Option (Nat × Bool)} {ty : TypeId}
theorem bs_sz (s : List UInt8) : (bs s).size = s.length := by simp [bs, ByteArray.size]
theorem strCells_bs (s : List UInt8) : Lib.strCells (bs s) = s.map bV := rfl
theorem HL_appendS {x y : Operand} {e : TypeId} {s s2 : List UInt8} {L0 : List (Nat × Obj)} {row : Row}
    (hp : L.Perm (rowL e (s.map bV) row ++ L0)) (hg : goes l ops ⟨some i, .call ⟨.builtin .append, #[x, y], #[t, u]⟩, ty, ps, af, gd⟩ = some true) (hi : Nat.ble (i + 1) c.n = true)
    (hx : evl l x = some (rowV s.length row)) (hy : evl l y = some (.string (bs s2))) (ht : sliceOf c.P t = some e) (hu : strB c.P u = true) (hz : zeroOf c.P e = some (.int .u8 0)) (hs : szOf c.P e = some 1) (hb : byOf c.P e = some 1)
    (ho : rowOk 1 s.length (s.map bV) row) (ho2 : s = [] → row = none) (hlen : s.length + s2.length ≤ 140737488355328)
    (h : ∀ row', rowOk 1 (s ++ s2).length ((s ++ s2).map bV) row' → (s ++ s2 = [] → row' = none) → HL c d ((i, rowV (s ++ s2).length row') :: l) (rowL e ((s ++ s2).map bV) row' ++ L0) X ops rest Q) :
    HL c d l L X ops (⟨some i, .call ⟨.builtin .append, #[x, y], #[t, u]⟩, ty, ps, af, gd⟩ :: rest) Q := by
  obtain ⟨inf, hinf, hz', hs', hb'⟩ := info_of hz hs hb
  refine HL_perm hp ?_
  refine HL_runE (α := { r' : Row // rowOk 1 (s ++ s2).length ((s ++ s2).map bV) r' ∧ (s ++ s2 = [] → r' = none) }) (V := fun p => rowV (s ++ s2).length p.1) (L' := fun p => rowL e ((s ++ s2).map bV) p.1 ++ L0) (X' := fun _ => X) hg rfl rfl hi (fun a w hf hst => ?_) (fun p => h p.1 p.2.1 p.2.2)
  have exec : ∀ r w', (Builtin.append_ #[t, u] ty #[rowV s.length row, .string (bs s2)]).run c.P w = .ok r w' →
      (execOp a.eval ⟨some i, .call ⟨.builtin .append, #[x, y], #[t, u]⟩, ty, ps, af, gd⟩).run c.P w = .ok (.value r) w' := fun r w' hr => by
    have ex := hf.eval hx
    have ey := hf.eval hy
    simp [execOp, resolve, Sem.run_bind, ex, ey, Result.andThen, invoke, builtin, hr]
  have hsz := bs_sz s2
  have hsl : (s ++ s2).length = s.length + s2.length := List.length_append
  have hml : ((s ++ s2).map bV).length = s.length + s2.length := by rw [List.length_map, hsl]
  have hz1 : (Value.int IntKind.u8 0).cells.size = 1 := rfl
  have zlen : ∀ n, (Builtin.zeroCells (Value.int IntKind.u8 0).cells n).toList.length = n := fun n => by rw [Array.length_toList, size_zeroCells, hz1, Nat.mul_one]
  cases row with
  | none =>
    obtain ⟨h1, h2⟩ := ho
    have hs0 : s = [] := List.eq_nil_of_length_eq_zero h1
    subst hs0
    cases s2 with
    | nil =>
      refine ⟨⟨none, ⟨rfl, rfl⟩, fun _ => rfl⟩, w, exec _ _ ?_, hst⟩
      have hf2 := Lib.run_firstCells_string (P := c.P) w 1 (bs [])
      have h0 : (bs []).size = 0 := rfl
      rw [h0] at hf2
      simp [Builtin.append_, rowV, run_underlying (und_slice ht), run_underlying (und_str hu), sizeOf, typeInfo, hinf, hs', Builtin.lenOf, h0, hf2]
    | cons b s2 =>
      have hr := run_append_nil_string (P := c.P) w t u ty e inf (.int .u8 0) (und_slice ht) (und_str hu) hinf hz' (bs (b :: s2)) (by rw [hsz]; simp) (by rw [hsz]; simp at hlen ⊢; omega) (by rw [hsz, hb']; simp at hlen ⊢; omega)
      rw [hsz] at hr
      have hge := grownCap_ge w (b :: s2).length 0 e
      refine ⟨⟨some (w.heap.size, grownCap w (b :: s2).length 0 e, (Builtin.zeroCells (Value.int IntKind.u8 0).cells (grownCap w (b :: s2).length 0 e - (b :: s2).length)).toList), ⟨?_, ?_⟩, fun h0 => by simp at h0⟩, _, exec _ _ hr, ?_⟩
      · simp
      · rw [zlen]; simp only [List.nil_append]; omega
      · have e1 : ((bs (b :: s2)).data.map (fun b => Value.int .u8 b.toNat) ++ Builtin.zeroCells (Value.int IntKind.u8 0).cells (grownCap w (b :: s2).length 0 e - (b :: s2).length)) = ((([] ++ (b :: s2)).map bV) ++ (Builtin.zeroCells (Value.int IntKind.u8 0).cells (grownCap w (b :: s2).length 0 e - (b :: s2).length)).toList).toArray := by
          apply Array.toList_inj.1; simp [bs, bV]
        rw [e1]
        exact hst.drew.alloc _
  | some q =>
    obtain ⟨r, cap, sp⟩ := q
    obtain ⟨h1, h2⟩ := ho
    have hget : w.heap[r]? = some (.cells (s.map bV ++ sp).toArray e (0, 0)) := hst.get (k := 0) rfl
    have hne : s ++ s2 ≠ [] := fun h0 => by have := ho2 (List.append_eq_nil_iff.1 h0).1; cases this
    by_cases hroom : s.length + s2.length ≤ cap
    · have hr := Lib.run_append_room_string (P := c.P) w t u ty e inf (und_slice ht) (und_str hu) hinf hs' r s.length cap _ hget (bs s2) (by rw [hsz]; exact hroom) (by rw [hsz]; simp only [List.size_toArray, List.length_append, List.length_map]; omega)
      rw [hsz, strCells_bs] at hr
      have e1 : ((s.map bV ++ sp).toArray.toList.take s.length ++ s2.map bV ++ (s.map bV ++ sp).toArray.toList.drop (s.length + s2.length)) = (s ++ s2).map bV ++ sp.drop s2.length := by
        simp only [List.toList_toArray]
        rw [List.take_left' (by simp), List.map_append, ← List.drop_drop, List.drop_left' (by simp)]
      rw [e1] at hr
      have hV : rowV (s ++ s2).length (some (r, cap, sp.drop s2.length)) = .slice (some ⟨r, 0, none⟩) (s.length + s2.length) cap := by rw [rowV, hsl]
      refine ⟨⟨some (r, cap, sp.drop s2.length), ⟨?_, ?_⟩, fun h0 => absurd h0 hne⟩, _, exec _ _ (hr.trans (congrArg (fun v => Result.ok v _) hV.symm)), ?_⟩
      · rw [hml, hsl]; omega
      · rw [List.length_drop, hsl]; omega
      · exact hst.set (k := 0) rfl (Keep.setRow r _) (setRow_heap _ _ _ _ _ _ hget)
    · have holds : ∀ (j : Nat) (x : Value), (s.map bV)[j]? = some x → w.cell? ((⟨r, 0, none⟩ : Addr).add j) = some x := cells_news hget (n := s.length) (by simp)
      have hr := Lib.run_append_grow_string (P := c.P) w t u ty e inf (.int .u8 0) (und_slice ht) (und_str hu) hinf hz' ⟨r, 0, none⟩ s.length cap (s.map bV) (by rw [hs']; simp) holds (bs s2) (by rw [hsz]; omega) (by rw [hsz]; omega) (by rw [hsz, hb']; exact growslice_fits (by omega) (by omega))
      rw [hsz, strCells_bs] at hr
      have hge := grownCap_ge w (s.length + s2.length) cap e
      refine ⟨⟨some (w.heap.size, grownCap w (s.length + s2.length) cap e, (Builtin.zeroCells (Value.int IntKind.u8 0).cells (grownCap w (s.length + s2.length) cap e - (s.length + s2.length))).toList), ⟨?_, ?_⟩, fun h0 => absurd h0 hne⟩, _, exec _ _ (hr.trans (congrArg (fun v => Result.ok v _) (show _ = rowV (s ++ s2).length (some (w.heap.size, grownCap w (s.length + s2.length) cap e, (Builtin.zeroCells (Value.int IntKind.u8 0).cells (grownCap w (s.length + s2.length) cap e - (s.length + s2.length))).toList)) from by rw [rowV, hsl]))), ?_⟩
      · rw [hml, hsl]; omega
      · rw [zlen, hsl]; omega
      · have e1 : ((s.map bV).toArray ++ (s2.map bV).toArray ++ Builtin.zeroCells (Value.int IntKind.u8 0).cells (grownCap w (s.length + s2.length) cap e - (s.length + s2.length))) = ((s ++ s2).map bV ++ (Builtin.zeroCells (Value.int IntKind.u8 0).cells (grownCap w (s.length + s2.length) cap e - (s.length + s2.length))).toList).toArray := by
          apply Array.toList_inj.1; simp
        rw [e1]
        exact (hst.drew.weakL (List.sublist_cons_self _ _)).alloc _
theorem Keep.freeze {w : World} (r n : Nat) : Keep [r] w (w.freeze ⟨r, 0, none⟩ n) := by
  unfold World.freeze
  split
  · exact Keep.refl _ _
  · exact ⟨rfl, rfl, rfl, by simp, fun k _ hn => by
      simp only [Array.getElem?_modify]
      rw [if_neg (by intro e; exact hn (by simp [e]))]⟩
theorem freeze_heap {w : World} {r n : Nat} {cs : Array Value} {e : TypeId} {fr : Nat × Nat} (h : w.heap[r]? = some (.cells cs e fr)) : ∃ fr', (w.freeze ⟨r, 0, none⟩ n).heap[r]? = some (.cells cs e fr') := by
  unfold World.freeze
  split
  · exact ⟨fr, h⟩
  · obtain ⟨lo, hi⟩ := fr
    obtain ⟨hlt, he⟩ := Array.getElem?_eq_some_iff.1 h
    refine ⟨if lo == hi then (0, 0 + n) else (min lo 0, max hi (0 + n)), ?_⟩
    show (w.heap.modify r _)[r]? = _
    rw [Array.getElem?_eq_getElem (by rw [Array.size_modify]; exact hlt), Array.getElem_modify_self, he]
def dataV : Row → Value
  | none => .pointer none
  | some (r, _, _) => .pointer (some ⟨r, 0, none⟩)
theorem R_unsafeData {x : Operand} {row : Row} {n : Nat} (hx : evl l x = some (rowV n row)) (hc : ∀ r cap sp, row = some (r, cap, sp) → cap ≠ 0) :
    RunsTo c d l L X ⟨some i, .call ⟨.builtin .unsafeSliceData, #[x], #[t]⟩, ty, ps, af, gd⟩ (dataV row) := fun a w hf _ => by
  have ex := hf.eval hx
  cases row with
  | none =>
    have hr := Lib.run_unsafeSliceData_nil (P := c.P) w #[t] ty 0 0
    simp only [rowV] at ex
    simp [execOp, resolve, Sem.run_bind, ex, Result.andThen, invoke, builtin, hr, dataV]
  | some q =>
    obtain ⟨r, cap, sp⟩ := q
    have hr := Lib.run_unsafeSliceData_row (P := c.P) w #[t] ty ⟨r, 0, none⟩ n cap (hc r cap sp rfl)
    simp only [rowV] at ex
    simp [execOp, resolve, Sem.run_bind, ex, Result.andThen, invoke, builtin, hr, dataV]
def ptrOf (P : Program) (t : TypeId) : Option TypeId := match P.underlying t with | some (.pointer e) => some e | _ => none
theorem und_ptr {P : Program} {t e : TypeId} (h : ptrOf P t = some e) : P.underlying t = some (.pointer e) := by
  unfold ptrOf at h; split at h <;> simp_all
theorem HL_unsafeString {x y : Operand} {e pt it : TypeId} {s : List UInt8} {L0 : List (Nat × Obj)} {row : Row}
    (hp : L.Perm (rowL e (s.map bV) row ++ L0)) (hg : goes l ops ⟨some i, .call ⟨.builtin .unsafeString, #[x, y], #[pt, it]⟩, ty, ps, af, gd⟩ = some true) (hi : Nat.ble (i + 1) c.n = true)
    (hx : evl l x = some (dataV row)) (hy : evl l y = some (.int .i64 (s.length : Int))) (ht : ptrOf c.P pt = some e) (hc : c.P.cellsOf e = 1)
    (ho : rowOk 1 s.length (s.map bV) row) (ho2 : s = [] → row = none) (hlen : s.length ≤ 9223372036854775807)
    (h : HL c d ((i, .string (bs s)) :: l) L0 X ops rest Q) : HL c d l L X ops (⟨some i, .call ⟨.builtin .unsafeString, #[x, y], #[pt, it]⟩, ty, ps, af, gd⟩ :: rest) Q := by
  refine HL_perm hp ?_
  refine HL_runE (α := Unit) (V := fun _ => .string (bs s)) (L' := fun _ => L0) (X' := fun _ => X) hg rfl rfl hi (fun a w hf hst => ?_) (fun _ => h)
  have exec : ∀ r w', (Builtin.unsafeString_ #[pt, it] ty #[dataV row, .int .i64 s.length]).run c.P w = .ok r w' →
      (execOp a.eval ⟨some i, .call ⟨.builtin .unsafeString, #[x, y], #[pt, it]⟩, ty, ps, af, gd⟩).run c.P w = .ok (.value r) w' := fun r w' hr => by
    have ex := hf.eval hx
    have ey := hf.eval hy
    simp [execOp, resolve, Sem.run_bind, ex, ey, Result.andThen, invoke, builtin, hr]
  cases row with
  | none =>
    obtain ⟨h1, _⟩ := ho
    have hs0 : s = [] := List.eq_nil_of_length_eq_zero h1
    subst hs0
    exact ⟨(), w, exec _ _ (Lib.run_unsafeString_none (P := c.P) w pt it ty none), hst⟩
  | some q =>
    obtain ⟨r, cap, sp⟩ := q
    obtain ⟨h1, h2⟩ := ho
    have hget : w.heap[r]? = some (.cells (s.map bV ++ sp).toArray e (0, 0)) := hst.get (k := 0) rfl
    have hne : s ≠ [] := fun h0 => by have := ho2 h0; cases this
    have hcell : ∀ (j : Nat) (x : UInt8), s[j]? = some x → w.cell? ((⟨r, 0, none⟩ : Addr).add j) = some (.int .u8 x.toNat) := fun j x hx => by
      rw [add_spot, cell_at hget]
      rw [Nat.zero_add, ← Array.getElem?_toList]
      simp only [List.toList_toArray]
      rw [List.getElem?_append_left (by rw [List.length_map]; exact (List.getElem?_eq_some_iff.1 hx).1), List.getElem?_map, hx]; rfl
    have hr := Lib.run_unsafeString_row (P := c.P) w pt it ty e (und_ptr ht) hc r (s.map bV ++ sp).length (by simp [World.shape?, hget]) s hne (by simp) hlen hcell
    obtain ⟨fr', hfr⟩ := freeze_heap (n := s.length) hget
    exact ⟨(), _, exec _ _ hr, (hst.set (k := 0) rfl (Keep.freeze r s.length) hfr).weakL (List.sublist_cons_self _ _)⟩
end
end Go.SL
/-! ### Pointers: to unsafe.Pointer and back; against nil, against itself -/
namespace Go.SL
set_option linter.all false
open Go Go.RowKit Go.Shelf
section
variable {c : Cx} {l : List (Nat × Value)} {L : List (Nat × Obj)} {X : XP} {d : List Deferred}
variable {i : Nat} {v : Value} {t u : TypeId} {ps : String} {af : Array Edge} {gd : Option (Nat × Bool)} {ty t2 : TypeId}
def unsB (P : Program) (t : TypeId) : Bool := match P.underlying t with | some .unsafePointer => true | _ => false
theorem und_uns {P : Program} {t : TypeId} (h : unsB P t = true) : P.underlying t = some .unsafePointer := by
  unfold unsB at h; split at h <;> simp_all
theorem info_sz {P : Program} {t : TypeId} {sz : Nat} (h : szOf P t = some sz) : ∃ inf, P.info? t = some inf ∧ inf.size = sz := by
  unfold szOf at h
  cases hq : P.info? t with
  | none => simp [hq] at h
  | some inf => simp only [hq, Option.some.injEq] at h; exact ⟨inf, rfl, h⟩
theorem R_toUnsafe {x : Operand} {r sz e : Nat} {src dst tt : TypeId} {cs : Array Value} {fr : Nat × Nat} (hx : evl l x = some (.pointer (some ⟨r, 0, none⟩))) (hk : known c L r (.cells cs e fr)) (hs : ptrOf c.P src = some tt) (hd : unsB c.P dst = true) (ht : szOf c.P tt = some sz) (h0 : 0 < sz) (hc : 0 < cs.size) :
    RunsTo c d l L X ⟨some i, .convert src dst x, ty, ps, af, gd⟩ (.pointer (some ⟨r, 0, none⟩)) := fun a w hf hst => by
  obtain ⟨inf, hinf, hsz⟩ := info_sz ht
  have h := hst.known hk
  simp only [execOp]
  rw [hf.eval hx]
  have := Lib.run_to_unsafe (P := c.P) w (e := e) (cells := cs.size) ⟨r, 0, none⟩ (und_ptr hs) (und_uns hd) hinf (by omega) (by simp [World.shape?, h]) hc
  simp only [Sem.run_bind, this]; rfl
theorem R_fromUnsafe {x : Operand} {r sz e : Nat} {src dst tt : TypeId} {cs : Array Value} {fr : Nat × Nat} (hx : evl l x = some (.pointer (some ⟨r, 0, none⟩))) (hk : known c L r (.cells cs e fr)) (hs : unsB c.P src = true) (hd : ptrOf c.P dst = some tt) (ht : szOf c.P tt = some sz) (hl : liesAt c.P c.P.depth e (cs.size / c.P.cellsOf e) 0 tt 1 = true) :
    RunsTo c d l L X ⟨some i, .convert src dst x, ty, ps, af, gd⟩ (.pointer (some ⟨r, 0, none⟩)) := fun a w hf hst => by
  obtain ⟨inf, hinf, hsz⟩ := info_sz ht
  have h := hst.known hk
  simp only [execOp]
  rw [hf.eval hx]
  have := Lib.run_from_unsafe (P := c.P) w (e := e) (cells := cs.size) ⟨r, 0, none⟩ (und_uns hs) (und_ptr hd) hinf (by simp [World.shape?, h]) hl
  simp only [Sem.run_bind, this]; rfl
theorem R_noEscape {x f : Operand} {v : Value} {g : FuncId} {fn : Func} {at_ : Array TypeId} (hf : evl l f = some (.func (.func g) #[] #[])) (hx : evl l x = some v)
    (hF : c.P.funcs[g]? = some fn) (hn1 : (fn.name == "runtime.NumGoroutine") = false) (hb : fn.body.isNone = true) (hn2 : Extern.findNext fn = none) (he : Extern.find fn = some Extern.AbiNoEscape.same) :
    RunsTo c d l L X ⟨some i, .call ⟨.value f, #[x], at_⟩, ty, ps, af, gd⟩ v := fun a w hfr hst => by
  have ef := hfr.eval hf
  have ex := hfr.eval hx
  have hcf : (callFunc g #[v]).run c.P w = .ok (.value v) w := by
    rw [run_callFunc_extern hF hn1 hb hn2 he, Lib.run_noEscape]; rfl
  simp [execOp, resolve, Sem.run_bind, ef, ex, Deferred.ofValue, Result.andThen, invoke, hcf]
theorem R_neSelf {x y : Operand} {q : Addr} {sz : Nat} {tt : TypeId} (hx : evl l x = some (.pointer (some q))) (hy : evl l y = some (.pointer (some q))) (ht : ptrOf c.P t = some tt) (hs : szOf c.P tt = some sz) :
    RunsTo c d l L X ⟨some i, .binOp .neq t x y t2, ty, ps, af, gd⟩ (.bool false) := fun a w hf _ => by
  obtain ⟨inf, hinf, hsz⟩ := info_sz hs
  simp only [execOp]
  rw [hf.eval hx, hf.eval hy]
  have := Lib.run_neq_ptr_same (P := c.P) w q (und_ptr ht) hinf
  simp [eqGuard, Sem.run_bind, this, Result.andThen]
theorem R_eqNilN {x y : Operand} {tt : TypeId} {sz : Nat} (hx : evl l x = some (.pointer none)) (hy : evl l y = some (.pointer none)) (ht : ptrOf c.P t = some tt) (hs : szOf c.P tt = some sz) :
    RunsTo c d l L X ⟨some i, .binOp .eql t x y t2, ty, ps, af, gd⟩ (.bool true) := fun a w hf _ => by
  obtain ⟨inf, hinf, hsz⟩ := info_sz hs
  have h : ∀ d : Nat, (Op.equalIn (d + 1) t (.pointer none) (.pointer none)).run c.P w = .ok true w := fun d => by
    simp [Op.equalIn, run_underlying (und_ptr ht), sizeOf, typeInfo, hinf]
  simp only [execOp]
  rw [hf.eval hx, hf.eval hy]
  simp only [binOp]
  simp [eqGuard, Op.equal, Op.maxDepth, h 9999, Sem.run_bind, Result.andThen]
theorem R_eqNilS {x y : Operand} {q : Addr} {tt : TypeId} {sz : Nat} (hx : evl l x = some (.pointer (some q))) (hy : evl l y = some (.pointer none)) (ht : ptrOf c.P t = some tt) (hs : szOf c.P tt = some sz) :
    RunsTo c d l L X ⟨some i, .binOp .eql t x y t2, ty, ps, af, gd⟩ (.bool false) := fun a w hf _ => by
  obtain ⟨inf, hinf, hsz⟩ := info_sz hs
  have h : ∀ d : Nat, (Op.equalIn (d + 1) t (.pointer (some q)) (.pointer none)).run c.P w = .ok false w := fun d => by
    simp [Op.equalIn, run_underlying (und_ptr ht), sizeOf, typeInfo, hinf]
  simp only [execOp]
  rw [hf.eval hx, hf.eval hy]
  simp only [binOp]
  simp [eqGuard, Op.equal, Op.maxDepth, h 9999, Sem.run_bind, Result.andThen]
end
end Go.SL
namespace Go.Proofs.YtlcbfphioeppaaaGreatDoor
set_option linter.all false
open Go.SL Go.RowKit Go.Shelf
/-! ### strings.Builder -/
abbrev pB (own : Bool) (r : Nat) : Value := .pointer (if own then some ⟨r, 0, none⟩ else none)
def bldB (r : Nat) (s : BS) (row : Row) (own : Bool) : Nat × Obj := (r, .cells #[pB own r, rowV s.length row] 121 (0, 0))
def bldL (r : Nat) (s : BS) (row : Row) (own : Bool) : List (Nat × Obj) := bldB r s row own :: rowL 5 (s.map bV) row
def bOk (s : BS) (row : Row) : Prop := rowOk 1 s.length (s.map bV) row ∧ (s = [] → row = none)
set_option maxRecDepth 10000 in
theorem T_copyCheck (r : Nat) (own : Bool) (v : Value) : PureT (α := Unit) Tryz.prog 191 [pt0 r].toArray (fun _ => .tuple #[]) [(r, .cells #[pB own r, v] 121 (0, 0))] (fun _ => [(r, .cells #[pB true r, v] 121 (0, 0))]) [] := by
  cases own with
  | false =>
    refine pureT_of_HC Tryz.func191 rfl rfl fun w => ?_; refine HC_seq fun K1 hK1 => HC_region ?_; refine HLm rfl (HLp rfl ?_)
    refine HL_r rfl rfl rfl rfl (R_fieldAddr rfl rfl (by first | (simp only [Nat.zero_add, Nat.reduceAdd, Nat.reduceMul, Nat.zero_mul, Nat.mul_one, Nat.add_zero]; exact rfl) | exact rfl)) ?_; refine HL_r rfl rfl rfl rfl (R_load (v := .pointer none) rfl (known_L (k := 0) rfl) rfl rfl) ?_; refine HL_r rfl rfl rfl rfl (R_eqNilN rfl rfl rfl rfl) ?_; refine HL_nil (hK1 _ _ _ _ ?_); refine HC_cond rfl (fun h2 => ?_) (fun h2 => ?_)
    · try exact Bool.noConfusion h2
      try simp only [ZZ] at h2
      refine HC_region (HLm rfl ?_); refine HLm rfl (HL_r rfl rfl rfl rfl (R_toUnsafe (sz := 2) rfl (known_L (k := 0) rfl) rfl rfl rfl (by decide) (by simp)) (HL_r rfl rfl rfl rfl (R_noEscape rfl rfl (Tryz.func216) (by kernel_rfl) rfl rfl rfl) ?_)); refine HL_r rfl rfl rfl rfl (R_fromUnsafe rfl (known_L (k := 0) rfl) rfl rfl rfl (by kernel_rfl)) ?_; refine HLp rfl ?_
      refine HL_r rfl rfl rfl rfl (R_fieldAddr rfl rfl (by first | (simp only [Nat.zero_add, Nat.reduceAdd, Nat.reduceMul, Nat.zero_mul, Nat.mul_one, Nat.add_zero]; exact rfl) | exact rfl)) ?_; refine HL_store (k := 0) (cs' := #[pt0 r, v]) rfl rfl rfl rfl rfl rfl rfl rfl rfl rfl ?_; refine HL_nil ?_; refine HQ_postN rfl rfl .nil (fun w1 hs1 => ?_); exact ⟨(), rfl, hs1⟩
    · try exact Bool.noConfusion h2
  | true =>
    refine pureT_of_HC Tryz.func191 rfl rfl fun w => ?_; refine HC_seq fun K1 hK1 => HC_region ?_; refine HLm rfl (HLp rfl ?_)
    refine HL_r rfl rfl rfl rfl (R_fieldAddr rfl rfl (by first | (simp only [Nat.zero_add, Nat.reduceAdd, Nat.reduceMul, Nat.zero_mul, Nat.mul_one, Nat.add_zero]; exact rfl) | exact rfl)) ?_; refine HL_r rfl rfl rfl rfl (R_load (v := pt0 r) rfl (known_L (k := 0) rfl) rfl rfl) ?_; refine HL_r rfl rfl rfl rfl (R_eqNilS rfl rfl rfl rfl) ?_; refine HL_nil (hK1 _ _ _ _ ?_); refine HC_cond rfl (fun h2 => ?_) (fun h2 => ?_)
    · try exact Bool.noConfusion h2
    · try exact Bool.noConfusion h2
      try simp only [ZZ] at h2
      refine HC_seq fun K3 hK3 => HC_region ?_; refine HLm rfl (HLp rfl ?_)
      refine HL_r rfl rfl rfl rfl (R_fieldAddr rfl rfl (by first | (simp only [Nat.zero_add, Nat.reduceAdd, Nat.reduceMul, Nat.zero_mul, Nat.mul_one, Nat.add_zero]; exact rfl) | exact rfl)) ?_; refine HL_r rfl rfl rfl rfl (R_load (v := pt0 r) rfl (known_L (k := 0) rfl) rfl rfl) ?_; refine HLm rfl (HL_r rfl rfl rfl rfl (R_neSelf rfl rfl rfl rfl) ?_); refine HL_nil (hK3 _ _ _ _ ?_); refine HC_cond rfl (fun h4 => ?_) (fun h4 => ?_)
      · try exact Bool.noConfusion h4
      · try exact Bool.noConfusion h4
        try simp only [ZZ] at h4
        refine HC_skip ?_; refine HQ_postN rfl rfl .nil (fun w1 hs1 => ?_); exact ⟨(), rfl, hs1⟩
theorem T_copyCheckB (r : Nat) (s : BS) (row : Row) (own : Bool) : PureT (α := Unit) Tryz.prog 191 [pt0 r].toArray (fun _ => .tuple #[]) [bldB r s row own] (fun _ => [bldB r s row true]) [] := T_copyCheck r own _
set_option maxRecDepth 10000 in
theorem T_Write {r : Nat} {s s2 : BS} {row : Row} {own : Bool} (hb : bOk s row) (hl : s.length + s2.length ≤ 1000000) :
    PureT (α := { x : Row // bOk (s ++ s2) x }) Tryz.prog 123 [pt0 r, strV s2].toArray (fun _ => .tuple #[.int .i64 (s2.length : Int), .nilIface]) (bldL r s row own) (fun x => bldL r (s ++ s2) x.1 true) [] := by
  refine pureT_of_HC Tryz.func123 rfl rfl fun w => ?_
  unfold bldL
  refine HC_seq fun K1 hK1 => HC_region ?_; refine HLm rfl (HLm rfl ?_); refine HL_nil (hK1 _ _ _ _ ?_); refine HC_seq fun K2 hK2 => HC_region ?_; refine HLm rfl (HL_callT (T := [bldB r s row own]) (L0 := rowL 5 (s.map bV) row) (Rl := []) (List.Perm.refl _) rfl rfl rfl (enters_of Tryz.func191 (by kernel_rfl) rfl) (T_copyCheckB r s row own) (fun q hq => nomatch hq) fun u => ?_); change HL _ _ _ (bldB r s row true :: rowL 5 (s.map bV) row) _ _ _ _; refine HL_nil (hK2 _ _ _ _ ?_); refine HC_seq fun K3 hK3 => HC_region ?_; refine HLm rfl (HLm rfl (HLp rfl ?_))
  refine HL_r rfl rfl rfl rfl (R_fieldAddr rfl rfl (by first | (simp only [Nat.zero_add, Nat.reduceAdd, Nat.reduceMul, Nat.zero_mul, Nat.mul_one, Nat.add_zero]; exact rfl) | exact rfl)) ?_; refine HL_r rfl rfl rfl rfl (R_load (v := rowV s.length row) rfl (known_L (k := 0) rfl) rfl rfl) ?_; refine HLm rfl (HL_appendS (e := 5) (s := s) (s2 := s2) (row := row) (L0 := [bldB r s row true]) (List.perm_append_comm (l₁ := [_])) rfl rfl rfl rfl rfl rfl rfl rfl rfl hb.1 hb.2 (by omega) fun row2 h1 h2 => (HL_perm List.perm_append_comm ?_)); change HL _ _ _ ((r, .cells #[pB true r, rowV s.length row] 121 (0, 0)) :: rowL 5 ((s ++ s2).map bV) row2) _ _ _ _; refine HLp rfl ?_
  refine HL_r rfl rfl rfl rfl (R_fieldAddr rfl rfl (by first | (simp only [Nat.zero_add, Nat.reduceAdd, Nat.reduceMul, Nat.zero_mul, Nat.mul_one, Nat.add_zero]; exact rfl) | exact rfl)) ?_; refine HL_store (k := 0) (cs' := #[pB true r, rowV (s ++ s2).length row2]) rfl rfl rfl rfl rfl (rowV_one1 _ _) rfl rfl rfl rfl ?_; refine HL_nil (hK3 _ _ _ _ ?_); refine HC_seq fun K4 hK4 => HC_region ?_; refine HLm rfl (HL_r rfl rfl rfl rfl (R_lenBs rfl rfl) ?_); refine HLm rfl (HLm rfl ?_); refine HL_nil (hK4 _ _ _ _ ?_); refine HC_ret ?_; refine HQ_post rfl rfl (.cons (res_tmp rfl) (.cons (res_tmp rfl) .nil)) (fun w1 hs1 => ?_); exact ⟨⟨row2, h1, h2⟩, rfl, hs1⟩
set_option maxRecDepth 10000 in
theorem P_bLen (r : Nat) {s : BS} {row : Row} (own : Bool) (hb : bOk s row) : PureR Tryz.prog 124 [pt0 r].toArray (.int .i64 (s.length : Int)) [bldB r s row own] := by
  refine pureR_of_HC Tryz.func124 rfl rfl fun w => ?_; refine HC_seq fun K1 hK1 => HC_region ?_; refine HLm rfl ?_; refine HL_nil (hK1 _ _ _ _ ?_); refine HC_seq fun K2 hK2 => HC_region ?_; refine HLm rfl (HLp rfl ?_)
  refine HL_r rfl rfl rfl rfl (R_fieldAddr rfl rfl (by first | (simp only [Nat.zero_add, Nat.reduceAdd, Nat.reduceMul, Nat.zero_mul, Nat.mul_one, Nat.add_zero]; exact rfl) | exact rfl)) ?_; refine HL_r rfl rfl rfl rfl (R_load (v := rowV s.length row) rfl (known_R (k := 0) rfl) rfl rfl) ?_; refine HL_r rfl rfl rfl rfl (R_lenRow rfl hb.1.zero rfl) ?_; refine HLm rfl ?_; refine HL_nil (hK2 _ _ _ _ ?_); refine HC_ret ?_; refine HQ_post rfl rfl (.cons (res_tmp rfl) .nil) (fun w1 hs1 => ?_); exact ⟨rfl, hs1.keep⟩
set_option maxRecDepth 10000 in
theorem T_bStr {r : Nat} {s : BS} {row : Row} {own : Bool} (hb : bOk s row) (hl : s.length ≤ 1000000) :
    PureT (α := Unit) Tryz.prog 125 [pt0 r].toArray (fun _ => strV s) (bldL r s row own) (fun _ => []) [] := by
  have hcap : ∀ q cap sp, row = some (q, cap, sp) → cap ≠ 0 := by
    rintro q cap sp rfl h0
    obtain ⟨⟨h1, h2⟩, h3⟩ := hb
    have h4 : s.length = 0 := by omega
    have := h3 (List.eq_nil_of_length_eq_zero h4)
    cases this
  refine pureT_of_HC Tryz.func125 rfl rfl fun w => ?_
  unfold bldL
  refine HC_seq fun K1 hK1 => HC_region ?_; refine HLm rfl ?_; refine HL_nil (hK1 _ _ _ _ ?_); refine HC_seq fun K2 hK2 => ?_
  refine HC_drawB [] [(0, .pure), (1, .pure), (2, .pure), (4, .pure), (5, .pure), (6, .pure), (7, .pure), (9, .pure)] 10 [0, 1, 2, 3, 4, 5, 6, 7, 8, 9] (by kernel_rfl) (by kernel_rfl) (by first | exact (fun _ h => nomatch h) | simp [SubS] | (intro p hp; simp [hp])) ?_; refine HB_p (k := 0) rfl rfl rfl rfl rfl (fun _ hS => (R_move rfl)) ?_; refine HB_p (k := 1) rfl rfl rfl rfl rfl (fun _ hS => (R_pure rfl rfl rfl)) ?_
  refine HB_p (k := 2) rfl rfl rfl rfl rfl (fun _ hS => (R_fieldAddr rfl rfl (by first | (simp only [Nat.zero_add, Nat.reduceAdd, Nat.reduceMul, Nat.zero_mul, Nat.mul_one, Nat.add_zero]; exact rfl) | exact rfl))) ?_; refine HB_r (k := 3) rfl rfl rfl rfl rfl (R_load (v := rowV s.length row) rfl (known_L (k := 0) rfl) rfl rfl) ?_; refine HB_p (k := 4) rfl rfl rfl rfl rfl (fun _ _ => R_unsafeData rfl hcap) ?_; refine HB_p (k := 5) rfl rfl rfl rfl rfl (fun _ hS => (R_move rfl)) ?_; refine HB_p (k := 6) rfl rfl rfl rfl rfl (fun _ hS => (R_pure rfl rfl rfl)) ?_
  refine HB_p (k := 7) rfl rfl rfl rfl rfl (fun _ hS => (R_fieldAddr rfl rfl (by first | (simp only [Nat.zero_add, Nat.reduceAdd, Nat.reduceMul, Nat.zero_mul, Nat.mul_one, Nat.add_zero]; exact rfl) | exact rfl))) ?_; refine HB_r (k := 8) rfl rfl rfl rfl rfl (R_load (v := rowV s.length row) rfl (known_L (k := 0) rfl) rfl rfl) ?_; refine HB_p (k := 9) rfl rfl rfl rfl rfl (fun _ _ => R_lenRow rfl hb.1.zero rfl) ?_; refine HB_end ?_; refine HL_unsafeString (e := 5) (s := s) (row := row) (L0 := [bldB r s row own]) (List.perm_append_comm (l₁ := [_])) rfl rfl rfl rfl rfl rfl hb.1 hb.2 (by omega) ?_; refine HLm rfl ?_; refine HL_nil (hK2 _ _ _ _ ?_); refine HC_ret ?_; refine HQ_post rfl rfl (.cons (res_tmp rfl) .nil) (fun w1 hs1 => ?_); exact ⟨(), rfl, hs1.weakL (List.nil_sublist _)⟩
end Go.Proofs.YtlcbfphioeppaaaGreatDoor
