import Derived.Test.YtlcbfphioeppaaaGreatDoorPbc
import Derived.Lib.AppendStr
import Derived.Lib.UnsafeStr
import Derived.Lib.Builder
namespace Go.Proofs.YtlcbfphioeppaaaGreatDoor
set_option linter.all false
open Go.SL Go.RowKit Go.Shelf
/-! ### Root of small things, and the facts that stand ahead of the laws -/
theorem seg1 {r n : Nat} {e : TypeId} {cs : List Value} (h : cs.length = n) : Seg [(r, .cells cs.toArray e (0, 0))] n cs (some (⟨r, 0, none⟩, n)) := by
  refine ⟨Nat.le_refl _, fun _ => ⟨rfl, cs.toArray, e, (0, 0), List.mem_cons_self, ?_⟩⟩
  show (cs.toArray.toList.drop 0).take _ = cs
  rw [List.toList_toArray, List.drop_zero, List.take_of_length_le (by omega)]
theorem bool_eq' {a b : Bool} (h : a = b) : Value.bool a = Value.bool b := by rw [h]
theorem lg1 : lg 1 = 0 := by decide
theorem lg3 : lg 3 = 2 := by decide +kernel
theorem any32 {l : List BS} (h : ∀ s ∈ l, s.length = 32) : l.any oddC = false := by
  rw [List.any_eq_false]; intro s hs
  unfold oddC
  rw [h s hs]
  simp
theorem root_one (s : BS) : rootC [s] 1 = s := by unfold rootC; rw [lg1]; rfl
theorem tree4 (a b c d : BS) : treeR 2 [a, b, c, d] = kec (kec (a ++ b) ++ kec (c ++ d)) := by
  simp only [treeR, SL.pairUp, List.head?, List.headD, List.head!, List.getD]
theorem pad4 (s : BS) : padC 4 [s] = [s, z32, z32, z32] := by
  unfold padC
  generalize z32 = z
  rfl
theorem root_three (s : BS) : rootC [s] 3 = kec (kec (s ++ z32) ++ kec (z32 ++ z32)) := by
  unfold rootC
  rw [lg3]
  show treeR 2 (padC 4 [s]) = _
  rw [pad4, tree4]
theorem treeT_ok {l : List BS} {m : Nat} (h32 : ∀ s ∈ l, s.length = 32) (h1 : 1 ≤ m) (h2 : m ≤ 512) (hl : l.length ≤ m) : treeT l (m : Int) = (rootC l m, 0) := by
  unfold treeT
  rw [if_neg (by rw [any32 h32]; rintro (h | h | h); (· omega); (· omega); · cases h), Int.toNat_natCast]
set_option maxRecDepth 10000 in
theorem P_Root1 : Pure Tryz.prog 32 [Ty.val (.mk 1 2 none []), (vNum 1).val].toArray (resS (leW [1, 0, 0, 0] 32, 0)) := by
  have hf : PureR Tryz.prog 22 [Ty.val (.mk 1 2 none []), (vNum 1).val].toArray (.int .i64 (fitsT tTwo (vNum 1))) [] := S_Fits in_two (in_num 1 (by decide))
  have hf0 : fitsT tTwo (vNum 1) = 0 := by kernel_rfl
  rw [hf0] at hf
  have hr := P_root1 (n := 2) (p := none) (ins := []) (v := vNum 1) (R := []) (in_num 1 (by decide))
  rw [show (vNum 1).num = [1, 0, 0, 0] from rfl] at hr
  generalize leW [1, 0, 0, 0] 32 = z at hr
  refine pure_of_HC Tryz.func32 rfl rfl fun w => ?_; refine HC_seq fun K1 hK1 => ?_; refine HC_region ?_; refine HL_box (cs := #[_, _, _]) rfl rfl rfl rfl fun r1 => ?_; refine HL_box (cs := #[_, _, _, _, _, _, _]) rfl rfl rfl rfl fun r2 => ?_; refine HL_r rfl rfl rfl rfl (R_assign rfl) ?_; refine HL_r rfl rfl rfl rfl (R_assign rfl) ?_; refine HL_nil ?_; refine HQ_then ?_; refine hK1 _ _ _ _ ?_; clear hK1 K1; refine HC_seq fun K2 hK2 => ?_; refine HC_seq fun K3 hK3 => ?_; refine HC_region ?_; refine HL_r rfl rfl rfl rfl (R_loadA (vs := [_, _, _]) rfl (known_L (k := 1) rfl) rfl rfl rfl rfl) ?_; refine HL_r rfl rfl rfl rfl (R_loadA (vs := [_, _, _, _, _, _, _]) rfl (known_L (k := 0) rfl) rfl rfl rfl rfl) ?_; refine HL_callR rfl rfl rfl (enters_of Tryz.func22 (by kernel_rfl) rfl) hf (fun q hq => nomatch hq) ?_; refine HL_r rfl rfl rfl rfl (R_assign rfl) ?_; refine HL_nil ?_; refine HQ_then ?_; refine hK3 _ _ _ _ ?_; clear hK3 K3; refine HC_seq fun K4 hK4 => ?_; refine HC_region ?_; refine HL_r rfl rfl rfl rfl (R_move rfl) ?_; refine HL_r rfl rfl rfl rfl (R_pure rfl rfl rfl) ?_; refine HL_nil ?_; refine HQ_then ?_; refine hK4 _ _ _ _ ?_; clear hK4 K4; refine HC_cond rfl (fun h5 => ?_) (fun h5 => ?_)
  · try exact Bool.noConfusion h5
  · try exact Bool.noConfusion h5
    try simp only [Z1, Z2, Z3, Z4, Z5, Z6, Z7, Z8, Z9, Z10, Z11, Z12, Z13] at h5
    refine HC_skip ?_; refine HQ_then ?_; refine hK2 _ _ _ _ ?_; clear hK2 K2; refine HC_seq fun K7 hK7 => ?_; refine HC_region ?_; refine HL_r rfl rfl rfl rfl (R_loadA (vs := [_, _, _]) rfl (known_L (k := 1) rfl) rfl rfl rfl rfl) ?_; refine HL_r rfl rfl rfl rfl (R_loadA (vs := [_, _, _, _, _, _, _]) rfl (known_L (k := 0) rfl) rfl rfl rfl rfl) ?_; refine HL_callP rfl rfl rfl (enters_of Tryz.func60 (by kernel_rfl) rfl) hr ?_; refine HL_r rfl rfl rfl rfl (R_assign rfl) ?_; refine HL_r rfl rfl rfl rfl (R_assign rfl) ?_; refine HL_nil ?_; refine HQ_then ?_; refine hK7 _ _ _ _ ?_; clear hK7 K7; refine HC_ret ?_; refine HQ_post rfl rfl (.cons (res_tmp rfl) (.cons (res_tmp rfl) .nil)) (fun w1 hs1 => ?_); exact ⟨rfl, hs1.keep⟩
set_option maxRecDepth 10000 in
theorem P_Root0 : Pure Tryz.prog 32 [Ty.val (.mk 0 0 none []), (vNum 0).val].toArray (resS ([], 9)) := by
  have hf : PureR Tryz.prog 22 [Ty.val (.mk 0 0 none []), (vNum 0).val].toArray (.int .i64 (fitsT (.mk 0 0 none []) (vNum 0))) [] := S_Fits (in_ty0 (iz 0) (iz 0)) (in_num 0 (by decide))
  have hf0 : fitsT (.mk 0 0 none []) (vNum 0) = 9 := by kernel_rfl
  rw [hf0] at hf; refine pure_of_HC Tryz.func32 rfl rfl fun w => ?_; refine HC_seq fun K1 hK1 => ?_; refine HC_region ?_; refine HL_box (cs := #[_, _, _]) rfl rfl rfl rfl fun r1 => ?_; refine HL_box (cs := #[_, _, _, _, _, _, _]) rfl rfl rfl rfl fun r2 => ?_; refine HL_r rfl rfl rfl rfl (R_assign rfl) ?_; refine HL_r rfl rfl rfl rfl (R_assign rfl) ?_; refine HL_nil ?_; refine HQ_then ?_; refine hK1 _ _ _ _ ?_; clear hK1 K1; refine HC_seq fun K2 hK2 => ?_; refine HC_seq fun K3 hK3 => ?_; refine HC_region ?_; refine HL_r rfl rfl rfl rfl (R_loadA (vs := [_, _, _]) rfl (known_L (k := 1) rfl) rfl rfl rfl rfl) ?_; refine HL_r rfl rfl rfl rfl (R_loadA (vs := [_, _, _, _, _, _, _]) rfl (known_L (k := 0) rfl) rfl rfl rfl rfl) ?_; refine HL_callR rfl rfl rfl (enters_of Tryz.func22 (by kernel_rfl) rfl) hf (fun q hq => nomatch hq) ?_; refine HL_r rfl rfl rfl rfl (R_assign rfl) ?_; refine HL_nil ?_; refine HQ_then ?_; refine hK3 _ _ _ _ ?_; clear hK3 K3; refine HC_seq fun K4 hK4 => ?_; refine HC_region ?_; refine HL_r rfl rfl rfl rfl (R_move rfl) ?_; refine HL_r rfl rfl rfl rfl (R_pure rfl rfl rfl) ?_; refine HL_nil ?_; refine HQ_then ?_; refine hK4 _ _ _ _ ?_; clear hK4 K4; refine HC_cond rfl (fun h5 => ?_) (fun h5 => ?_)
  · try exact Bool.noConfusion h5
    try simp only [Z1, Z2, Z3, Z4, Z5, Z6, Z7, Z8, Z9, Z10, Z11, Z12, Z13] at h5
    refine HC_seq fun K6 hK6 => ?_; refine HC_region ?_; refine HL_r rfl rfl rfl rfl (R_move rfl) ?_; refine HL_r rfl rfl rfl rfl (R_assign rfl) ?_; refine HL_r rfl rfl rfl rfl (R_assign rfl) ?_; refine HL_nil ?_; refine HQ_then ?_; refine hK6 _ _ _ _ ?_; clear hK6 K6; refine HC_ret ?_; refine HQ_thenR ?_; clear hK2 K2; refine HQ_post rfl rfl (.cons (res_tmp rfl) (.cons (res_tmp rfl) .nil)) (fun w1 hs1 => ?_); exact ⟨rfl, hs1.keep⟩
  · try exact Bool.noConfusion h5
theorem le_one : leW [1, 0, 0, 0] 32 = (1 : UInt8) :: List.replicate 31 0 := by decide +kernel
theorem pad_two : padZ (leN 2 8) = (2 : UInt8) :: List.replicate 31 0 := by decide +kernel
set_option maxHeartbeats 1000000 in
set_option maxRecDepth 10000 in
theorem P_works09 : Pure Tryz.prog 26 [].toArray (.bool true) := by
  have hR1 := P_Root1
  rw [le_one] at hR1
  obtain ⟨z31, hz31⟩ : ∃ x : BS, x = List.replicate 31 0 := ⟨_, rfl⟩
  have hl31 : z31.length = 31 := by rw [hz31]; rfl
  rw [← hz31] at hR1
  obtain ⟨one, hone⟩ : ∃ x : BS, x = 1 :: z31 := ⟨_, rfl⟩
  rw [← hone] at hR1
  obtain ⟨z, hz⟩ : ∃ x : BS, x = z32 := ⟨_, rfl⟩
  have hz1 : z = 0 :: z31 := by rw [hz, hz31]; rfl
  have hzd : z.drop 1 = z31 := by rw [hz1]; rfl
  have hlz : z.length = 32 := by rw [hz]; rfl
  have hlo : one.length = 32 := by rw [hone, List.length_cons, hl31]
  have hlz2 := kec_len (z ++ z)
  have hlz3 := kec_len (one ++ z)
  obtain ⟨zz, hzz⟩ : ∃ x, x = kec (z ++ z) := ⟨_, rfl⟩
  obtain ⟨oz, hoz⟩ : ∃ x, x = kec (one ++ z) := ⟨_, rfl⟩
  obtain ⟨b, hb⟩ : ∃ x, x = kec (oz ++ zz) := ⟨_, rfl⟩
  obtain ⟨c, hc⟩ : ∃ x, x = kec ((one ++ ([2] : BS)) ++ z31) := ⟨_, rfl⟩
  rw [← hzz] at hlz2; rw [← hoz] at hlz3
  have hm1 : ∀ s ∈ [one], s.length = 32 := by simp [hlo]
  have e1 : treeT [one] 1 = (one, 0) := by rw [show (1 : Int) = ((1 : Nat) : Int) from rfl, treeT_ok hm1 (by decide) (by decide) (by simp), root_one]
  have e2 : treeT [one] 3 = (b, 0) := by rw [show (3 : Int) = ((3 : Nat) : Int) from rfl, treeT_ok hm1 (by decide) (by decide) (by simp), root_three, ← hz, ← hzz, ← hoz, ← hb]
  have e3 : treeT [one, one] 1 = ([], 1) := by unfold treeT; rw [if_pos (.inr (.inl (by simp)))]
  have e4 : mixR one 2 = (c, 0) := by unfold mixR mixE; rw [if_neg (by rw [hlo]; simp), pad_two, ← hz31, hc, List.append_assoc]; rfl
  have e5 : mixR [120] 1 = ([], 1) := by unfold mixR; rw [if_pos (by decide)]
  have k1 := P_kec (s := z ++ z) (by rw [List.length_append]; omega)
  rw [← hzz] at k1
  have k2 := P_kec (s := one ++ z) (by rw [List.length_append]; omega)
  rw [← hoz] at k2
  have k3 := P_kec (s := oz ++ zz) (by rw [List.length_append]; omega)
  rw [← hb] at k3
  have k4 := P_kec (s := (one ++ ([2] : BS)) ++ z31) (by rw [List.length_append, List.length_append]; simp; omega)
  rw [← hc] at k4
  have hzb : List.replicate 32 (Value.int .u8 0) = z.map bV := by rw [hz]; rfl
  clear hzz hoz hb hc; refine pure_of_HC Tryz.func26 rfl rfl fun w => ?_; refine HC_seq fun K1 hK1 => ?_; refine HC_region ?_; refine HL_r rfl rfl rfl rfl (R_assign rfl) ?_; refine HL_nil ?_; refine HQ_then ?_; refine hK1 _ _ _ _ ?_; clear hK1 K1; refine HC_seq fun K2 hK2 => ?_; refine HC_region ?_; refine HL_r rfl rfl rfl rfl (R_build (r := [_, _, _]) rfl rfl) ?_; refine HL_alloc (cs := #[_, _, _]) rfl rfl rfl rfl fun r1 => ?_
  refine HL_storeA (k := 0) (n := 3) (cs' := #[_, _, _]) (vs := #[_, _, _]) rfl rfl rfl rfl rfl rfl rfl (by exact Nat.le_of_ble_eq_true rfl) rfl (by first | (simp only [List.set_cons_zero, List.set_cons_succ]; exact rfl) | exact rfl) ?_; refine HL_nil ?_; refine HQ_then ?_; refine hK2 _ _ _ _ ?_; clear hK2 K2; refine HC_seq fun K3 hK3 => ?_; refine HC_region ?_; refine HL_r rfl rfl rfl rfl (R_loadA (vs := [_, _, _]) rfl (known_L (k := 0) rfl) rfl rfl rfl rfl) ?_; refine HL_r rfl rfl rfl rfl (R_build (r := [_, _, _, _]) rfl rfl) ?_; refine HL_r rfl rfl rfl rfl (R_build (r := [_, _, _, _, _, _, _]) rfl rfl) ?_; refine HL_callP rfl rfl rfl (enters_of Tryz.func32 (by kernel_rfl) rfl) hR1 ?_; refine HL_r rfl rfl rfl rfl (R_move rfl) ?_; refine HL_r rfl rfl rfl rfl (R_extract rfl rfl) ?_; refine HL_r rfl rfl rfl rfl (R_extract rfl rfl) ?_; refine HL_r rfl rfl rfl rfl (R_assign rfl) ?_; refine HL_r rfl rfl rfl rfl (R_assign rfl) ?_; refine HL_nil ?_; refine HQ_then ?_; refine hK3 _ _ _ _ ?_; clear hK3 K3; refine HC_seq fun K4 hK4 => ?_; refine HC_region ?_; refine HL_make (n := 32) (b := 1) rfl rfl rfl rfl rfl rfl rfl rfl rfl (by decide) (by decide) fun rm => ?_; rw [hzb]; refine HL_r rfl rfl rfl rfl (R_bytesStr (b := z) (row := some (rm, 32, [])) (e := 5) (show _ = some (rowV z.length (some (rm, 32, []))) from by rw [hlz]; rfl) ⟨by simp, by simp [hlz]⟩ (fun p hp => .inl (by rw [List.mem_singleton.1 hp]; simp)) rfl rfl rfl) ?_; refine HL_r rfl rfl rfl rfl (R_assign rfl) ?_; refine HL_nil ?_; refine HQ_then ?_; refine hK4 _ _ _ _ ?_; clear hK4 K4; refine HC_seq fun K5 hK5 => ?_; refine HC_region ?_; refine HL_r rfl rfl rfl rfl (R_move rfl) ?_; refine HL_buildSlice (n := 1) (sz := 1) (vs := [_]) (zs := [_]) (r := [strV one]) rfl rfl rfl rfl rfl rfl rfl rfl rfl (by show (madeCells #[_] _).toList = _; rw [made_one]; exact rfl) rfl fun r4 => ?_; refine HL_callR (Rl := [(r4, .cells (chC [one]).toArray 9 (0, 0))]) rfl rfl rfl (enters_of Tryz.func27 (by kernel_rfl) rfl) (S_Tree (p := some (⟨r4, 0, none⟩, 1)) (l := [one]) (by simp) (seg1 (by simp [chC])) 1) (fun q hq => .inl (by rw [List.mem_singleton.1 hq]; exact List.mem_cons_self)) ?_; refine HL_as (congrArg resS e1) ?_; refine HL_r rfl rfl rfl rfl (R_move rfl) ?_; refine HL_r rfl rfl rfl rfl (R_extract rfl rfl) ?_; refine HL_r rfl rfl rfl rfl (R_extract rfl rfl) ?_; refine HL_r rfl rfl rfl rfl (R_assign rfl) ?_; refine HL_r rfl rfl rfl rfl (R_assign rfl) ?_; refine HL_nil ?_; refine HQ_then ?_; refine hK5 _ _ _ _ ?_; clear hK5 K5; refine HC_seq fun K6 hK6 => ?_; refine HC_region ?_; refine HL_r rfl rfl rfl rfl (R_move rfl) ?_; refine HL_buildSlice (n := 1) (sz := 1) (vs := [_]) (zs := [_]) (r := [strV one]) rfl rfl rfl rfl rfl rfl rfl rfl rfl (by show (madeCells #[_] _).toList = _; rw [made_one]; exact rfl) rfl fun r5 => ?_; refine HL_callR (Rl := [(r5, .cells (chC [one]).toArray 9 (0, 0))]) rfl rfl rfl (enters_of Tryz.func27 (by kernel_rfl) rfl) (S_Tree (p := some (⟨r5, 0, none⟩, 1)) (l := [one]) (by simp) (seg1 (by simp [chC])) 3) (fun q hq => .inl (by rw [List.mem_singleton.1 hq]; exact List.mem_cons_self)) ?_; refine HL_as (congrArg resS e2) ?_; refine HL_r rfl rfl rfl rfl (R_move rfl) ?_; refine HL_r rfl rfl rfl rfl (R_extract rfl rfl) ?_; refine HL_r rfl rfl rfl rfl (R_extract rfl rfl) ?_; refine HL_r rfl rfl rfl rfl (R_assign rfl) ?_; refine HL_r rfl rfl rfl rfl (R_assign rfl) ?_; refine HL_nil ?_; refine HQ_then ?_; refine hK6 _ _ _ _ ?_; clear hK6 K6; refine HC_seq fun K7 hK7 => ?_; refine HC_region ?_; refine HL_r rfl rfl rfl rfl (R_move rfl) ?_; refine HL_callP rfl rfl rfl (enters_of Tryz.func29 (by kernel_rfl) rfl) (P_Mix one (n := 2) (uz 2)) ?_; refine HL_as (congrArg resS e4) ?_; refine HL_r rfl rfl rfl rfl (R_move rfl) ?_; refine HL_r rfl rfl rfl rfl (R_extract rfl rfl) ?_; refine HL_r rfl rfl rfl rfl (R_extract rfl rfl) ?_; refine HL_r rfl rfl rfl rfl (R_assign rfl) ?_; refine HL_r rfl rfl rfl rfl (R_assign rfl) ?_; refine HL_nil ?_; refine HQ_then ?_; refine hK7 _ _ _ _ ?_; clear hK7 K7; refine HC_seq fun K8 hK8 => ?_; refine HC_region ?_; refine HL_r rfl rfl rfl rfl (R_move rfl) ?_; refine HL_r rfl rfl rfl rfl (R_move rfl) ?_; refine HL_buildSlice (n := 2) (sz := 1) (vs := [_, _]) (zs := [_, _]) (r := [strV one, strV one]) rfl rfl rfl rfl rfl rfl rfl rfl rfl (by rw [made_list]; exact rfl) rfl fun r7 => ?_; refine HL_callR (Rl := [(r7, .cells (chC [one, one]).toArray 9 (0, 0))]) rfl rfl rfl (enters_of Tryz.func27 (by kernel_rfl) rfl) (S_Tree (p := some (⟨r7, 0, none⟩, 2)) (l := [one, one]) (by simp) (seg1 (by simp [chC])) 1) (fun q hq => .inl (by rw [List.mem_singleton.1 hq]; exact List.mem_cons_self)) ?_; refine HL_as (congrArg resS e3) ?_; refine HL_r rfl rfl rfl rfl (R_move rfl) ?_; refine HL_r rfl rfl rfl rfl (R_extract rfl rfl) ?_; refine HL_r rfl rfl rfl rfl (R_extract rfl rfl) ?_; refine HL_r rfl rfl rfl rfl (R_assign rfl) ?_; refine HL_r rfl rfl rfl rfl (R_assign rfl) ?_; refine HL_nil ?_; refine HQ_then ?_; refine hK8 _ _ _ _ ?_; clear hK8 K8; refine HC_seq fun K9 hK9 => ?_; refine HC_region ?_; refine HL_callP rfl rfl rfl (enters_of Tryz.func29 (by kernel_rfl) rfl) (P_Mix [120] (n := 1) (uz 1)) ?_; refine HL_as (congrArg resS e5) ?_; refine HL_r rfl rfl rfl rfl (R_move rfl) ?_; refine HL_r rfl rfl rfl rfl (R_extract rfl rfl) ?_; refine HL_r rfl rfl rfl rfl (R_extract rfl rfl) ?_; refine HL_r rfl rfl rfl rfl (R_assign rfl) ?_; refine HL_r rfl rfl rfl rfl (R_assign rfl) ?_; refine HL_nil ?_; refine HQ_then ?_; refine hK9 _ _ _ _ ?_; clear hK9 K9; refine HC_seq fun K10 hK10 => ?_; refine HC_region ?_; refine HL_r rfl rfl rfl rfl (R_build (r := [_, _, _]) rfl rfl) ?_; refine HL_r rfl rfl rfl rfl (R_build (r := [_, _, _, _, _, _, _]) rfl rfl) ?_; refine HL_callP rfl rfl rfl (enters_of Tryz.func32 (by kernel_rfl) rfl) P_Root0 ?_; refine HL_r rfl rfl rfl rfl (R_move rfl) ?_; refine HL_r rfl rfl rfl rfl (R_extract rfl rfl) ?_; refine HL_r rfl rfl rfl rfl (R_extract rfl rfl) ?_; refine HL_r rfl rfl rfl rfl (R_assign rfl) ?_; refine HL_r rfl rfl rfl rfl (R_assign rfl) ?_; refine HL_nil ?_; refine HQ_then ?_; refine hK10 _ _ _ _ ?_; clear hK10 K10; refine HC_seq fun K11 hK11 => ?_; refine HC_region ?_; refine HL_r rfl rfl rfl rfl (R_move rfl) ?_; refine HL_r rfl rfl rfl rfl (R_move rfl) ?_; refine HL_r rfl rfl rfl rfl (R_concat (a := z) (b := z) rfl rfl (by omega)) ?_; refine HL_callP rfl rfl rfl (enters_of Tryz.func34 (by kernel_rfl) rfl) k1 ?_; refine HL_r rfl rfl rfl rfl (R_assign rfl) ?_; refine HL_nil ?_; refine HQ_then ?_; refine hK11 _ _ _ _ ?_; clear hK11 K11; refine HC_seq fun K12 hK12 => ?_; refine HC_region ?_; refine HL_r rfl rfl rfl rfl (R_move rfl) ?_; refine HL_r rfl rfl rfl rfl (R_move rfl) ?_; refine HL_r rfl rfl rfl rfl (R_sliceBs (kl := some (.i64, 1)) (kh := none) (m := 1) (n := z.length) rfl rfl rfl rfl rfl rfl (by omega) (by omega) (by rw [List.take_length, hzd])) ?_; refine HL_r rfl rfl rfl rfl (R_concat (a := [1]) rfl rfl (by rw [hl31]; decide)) ?_; refine HL_r rfl rfl rfl rfl (R_strEq rfl rfl) ?_; refine HL_as (show _ = Value.bool true from bool_eq' (decide_eq_true hone)) ?_; refine HL_r rfl rfl rfl rfl (R_move rfl) ?_; refine HL_r rfl rfl rfl rfl (R_move rfl) ?_; refine HL_r rfl rfl rfl rfl (R_pure rfl rfl rfl) ?_; refine HL_as (show _ = Value.bool true from bool_eq' (rfl)) ?_; refine HL_r rfl rfl rfl rfl (R_pickT rfl rfl) ?_; refine HL_r rfl rfl rfl rfl (R_move rfl) ?_; refine HL_r rfl rfl rfl rfl (R_move rfl) ?_; refine HL_r rfl rfl rfl rfl (R_move rfl) ?_; refine HL_r rfl rfl rfl rfl (R_strEq rfl rfl) ?_; refine HL_as (show _ = Value.bool true from bool_eq' (decide_eq_true rfl)) ?_; refine HL_r rfl rfl rfl rfl (R_pickT rfl rfl) ?_; refine HL_r rfl rfl rfl rfl (R_move rfl) ?_; refine HL_r rfl rfl rfl rfl (R_move rfl) ?_; refine HL_r rfl rfl rfl rfl (R_pure rfl rfl rfl) ?_; refine HL_as (show _ = Value.bool true from bool_eq' (rfl)) ?_; refine HL_r rfl rfl rfl rfl (R_pickT rfl rfl) ?_; refine HL_r rfl rfl rfl rfl (R_move rfl) ?_; refine HL_r rfl rfl rfl rfl (R_move rfl) ?_; refine HL_r rfl rfl rfl rfl (R_move rfl) ?_; refine HL_r rfl rfl rfl rfl (R_move rfl) ?_; refine HL_r rfl rfl rfl rfl (R_concat (a := one) (b := z) rfl rfl (by omega)) ?_; refine HL_callP rfl rfl rfl (enters_of Tryz.func34 (by kernel_rfl) rfl) k2 ?_; refine HL_r rfl rfl rfl rfl (R_move rfl) ?_; refine HL_r rfl rfl rfl rfl (R_concat (a := oz) (b := zz) rfl rfl (by omega)) ?_; refine HL_callP rfl rfl rfl (enters_of Tryz.func34 (by kernel_rfl) rfl) k3 ?_; refine HL_r rfl rfl rfl rfl (R_strEq rfl rfl) ?_; refine HL_as (show _ = Value.bool true from bool_eq' (decide_eq_true rfl)) ?_; refine HL_r rfl rfl rfl rfl (R_pickT rfl rfl) ?_; refine HL_r rfl rfl rfl rfl (R_move rfl) ?_; refine HL_r rfl rfl rfl rfl (R_move rfl) ?_; refine HL_r rfl rfl rfl rfl (R_pure rfl rfl rfl) ?_; refine HL_as (show _ = Value.bool true from bool_eq' (rfl)) ?_; refine HL_r rfl rfl rfl rfl (R_pickT rfl rfl) ?_; refine HL_r rfl rfl rfl rfl (R_move rfl) ?_; refine HL_r rfl rfl rfl rfl (R_move rfl) ?_; refine HL_r rfl rfl rfl rfl (R_move rfl) ?_; refine HL_r rfl rfl rfl rfl (R_concat (a := one) (b := [2]) rfl rfl (by rw [hlo]; decide)) ?_; refine HL_r rfl rfl rfl rfl (R_move rfl) ?_; refine HL_r rfl rfl rfl rfl (R_sliceBs (kl := some (.i64, 1)) (kh := none) (m := 1) (n := z.length) rfl rfl rfl rfl rfl rfl (by omega) (by omega) (by rw [List.take_length, hzd])) ?_; refine HL_r rfl rfl rfl rfl (R_concat (a := one ++ [2]) (b := z31) rfl rfl (by rw [List.length_append]; simp; omega)) ?_; refine HL_callP rfl rfl rfl (enters_of Tryz.func34 (by kernel_rfl) rfl) k4 ?_; refine HL_r rfl rfl rfl rfl (R_strEq rfl rfl) ?_; refine HL_as (show _ = Value.bool true from bool_eq' (decide_eq_true rfl)) ?_; refine HL_r rfl rfl rfl rfl (R_pickT rfl rfl) ?_; refine HL_r rfl rfl rfl rfl (R_move rfl) ?_; refine HL_r rfl rfl rfl rfl (R_move rfl) ?_; refine HL_r rfl rfl rfl rfl (R_pure rfl rfl rfl) ?_; refine HL_as (show _ = Value.bool true from bool_eq' (rfl)) ?_; refine HL_r rfl rfl rfl rfl (R_pickT rfl rfl) ?_; refine HL_r rfl rfl rfl rfl (R_move rfl) ?_; refine HL_r rfl rfl rfl rfl (R_move rfl) ?_; refine HL_r rfl rfl rfl rfl (R_pure rfl rfl rfl) ?_; refine HL_as (show _ = Value.bool true from bool_eq' (rfl)) ?_; refine HL_r rfl rfl rfl rfl (R_pickT rfl rfl) ?_; refine HL_r rfl rfl rfl rfl (R_move rfl) ?_; refine HL_r rfl rfl rfl rfl (R_move rfl) ?_; refine HL_r rfl rfl rfl rfl (R_pure rfl rfl rfl) ?_; refine HL_as (show _ = Value.bool true from bool_eq' (rfl)) ?_; refine HL_r rfl rfl rfl rfl (R_pickT rfl rfl) ?_; refine HL_r rfl rfl rfl rfl (R_move rfl) ?_; refine HL_r rfl rfl rfl rfl (R_move rfl) ?_; refine HL_r rfl rfl rfl rfl (R_pure rfl rfl rfl) ?_; refine HL_as (show _ = Value.bool true from bool_eq' (rfl)) ?_; refine HL_r rfl rfl rfl rfl (R_pickT rfl rfl) ?_; refine HL_r rfl rfl rfl rfl (R_assign rfl) ?_; refine HL_nil ?_; refine HQ_then ?_; refine hK12 _ _ _ _ ?_; clear hK12 K12; refine HC_ret ?_; refine HQ_post rfl rfl (.cons (res_tmp rfl) .nil) (fun w1 hs1 => ?_); exact ⟨rfl, hs1.keep⟩
end Go.Proofs.YtlcbfphioeppaaaGreatDoor
namespace Go.Proofs.YtlcbfphioeppaaaGreatDoor
set_option linter.all false
open Go.SL Go.RowKit Go.Shelf
section
variable {c : Cx} {l : List (Nat × Value)} {L : List (Nat × Obj)} {X : XP} {d : List Deferred} {i : Nat} {t : TypeId} {ps : String} {af : Array Edge} {gd : Option (Nat × Bool)} {ty : TypeId}
variable {Q : Exit → Act → World → Prop} {ops : Array Oper} {rest : List Oper}
end
end Go.Proofs.YtlcbfphioeppaaaGreatDoor
/-! ### strings.Builder: a string's bytes onto a row of one's own; unsafe pointers; a row as a string -/
namespace Go.SL
set_option linter.all false
open Go Go.RowKit Go.Shelf
section
variable {c : Cx} {l : List (Nat × Value)} {L : List (Nat × Obj)} {X : XP} {Q : Exit → Act → World → Prop} {d : List Deferred}
variable {ops : Array Oper} {rest : List Oper} {i : Nat} {v : Value} {t u : TypeId} {ps : String} {af : Array Edge} {gd : Option (Nat × Bool)} {ty : TypeId}
theorem bs_sz (s : List UInt8) : (bs s).size = s.length := by simp [bs, ByteArray.size]
theorem strCells_bs (s : List UInt8) : Lib.strCells (bs s) = s.map bV := rfl
theorem HL_appendS {x y : Operand} {e : TypeId} {s s2 : List UInt8} {L0 : List (Nat × Obj)} {row : Row}
    (hp : L.Perm (rowL e (s.map bV) row ++ L0)) (hg : goes l ops ⟨some i, .call ⟨.builtin .append, #[x, y], #[t, u]⟩, ty, ps, af, gd⟩ = some true) (hi : Nat.ble (i + 1) c.n = true)
    (hx : evl l x = some (rowV s.length row)) (hy : evl l y = some (.string (bs s2))) (ht : sliceOf c.P t = some e) (hu : strB c.P u = true) (hz : zeroOf c.P e = some (.int .u8 0)) (hs : szOf c.P e = some 1) (hb : byOf c.P e = some 1)
    (ho : rowOk 1 s.length (s.map bV) row) (ho2 : s = [] → row = none) (hlen : s.length + s2.length ≤ 140737488355328)
    (h : ∀ row', rowOk 1 (s ++ s2).length ((s ++ s2).map bV) row' → (s ++ s2 = [] → row' = none) → HL c d ((i, rowV (s ++ s2).length row') :: l) (rowL e ((s ++ s2).map bV) row' ++ L0) X ops rest Q) :
    HL c d l L X ops (⟨some i, .call ⟨.builtin .append, #[x, y], #[t, u]⟩, ty, ps, af, gd⟩ :: rest) Q := by
  obtain ⟨inf, hinf, hz', hs', hb'⟩ := info_of hz hs hb
  refine HL_perm hp ?_
  refine HL_runE (α := { r' : Row // rowOk 1 (s ++ s2).length ((s ++ s2).map bV) r' ∧ (s ++ s2 = [] → r' = none) }) (V := fun p => rowV (s ++ s2).length p.1) (L' := fun p => rowL e ((s ++ s2).map bV) p.1 ++ L0) (X' := fun _ => X) hg rfl rfl hi (fun a w hf hst => ?_) (fun p => h p.1 p.2.1 p.2.2)
  have exec : ∀ r w', (Builtin.append_ #[t, u] ty #[rowV s.length row, .string (bs s2)]).run c.P w = .ok r w' →
      (execOp a.eval ⟨some i, .call ⟨.builtin .append, #[x, y], #[t, u]⟩, ty, ps, af, gd⟩).run c.P w = .ok (.value r) w' := fun r w' hr => by
    have ex := hf.eval hx
    have ey := hf.eval hy
    simp [execOp, resolve, Sem.run_bind, ex, ey, Result.andThen, invoke, builtin, hr]
  have hsz := bs_sz s2
  have hsl : (s ++ s2).length = s.length + s2.length := List.length_append
  have hml : ((s ++ s2).map bV).length = s.length + s2.length := by rw [List.length_map, hsl]
  have hz1 : (Value.int IntKind.u8 0).cells.size = 1 := rfl
  have zlen : ∀ n, (Builtin.zeroCells (Value.int IntKind.u8 0).cells n).toList.length = n := fun n => by rw [Array.length_toList, size_zeroCells, hz1, Nat.mul_one]
  cases row with
  | none =>
    obtain ⟨h1, h2⟩ := ho
    have hs0 : s = [] := List.eq_nil_of_length_eq_zero h1
    subst hs0
    cases s2 with
    | nil =>
      refine ⟨⟨none, ⟨rfl, rfl⟩, fun _ => rfl⟩, w, exec _ _ ?_, hst⟩
      have hf2 := Lib.run_firstCells_string (P := c.P) w 1 (bs [])
      have h0 : (bs []).size = 0 := rfl
      rw [h0] at hf2
      simp [Builtin.append_, rowV, run_underlying (und_slice ht), run_underlying (und_str hu), sizeOf, typeInfo, hinf, hs', Builtin.lenOf, h0, hf2]
    | cons b s2 =>
      have hr := run_append_nil_string (P := c.P) w t u ty e inf (.int .u8 0) (und_slice ht) (und_str hu) hinf hz' (bs (b :: s2)) (by rw [hsz]; simp) (by rw [hsz]; simp at hlen ⊢; omega) (by rw [hsz, hb']; simp at hlen ⊢; omega)
      rw [hsz] at hr
      have hge := grownCap_ge w (b :: s2).length 0 e
      refine ⟨⟨some (w.heap.size, grownCap w (b :: s2).length 0 e, (Builtin.zeroCells (Value.int IntKind.u8 0).cells (grownCap w (b :: s2).length 0 e - (b :: s2).length)).toList), ⟨?_, ?_⟩, fun h0 => by simp at h0⟩, _, exec _ _ hr, ?_⟩
      · simp
      · rw [zlen]; simp only [List.nil_append]; omega
      · have e1 : ((bs (b :: s2)).data.map (fun b => Value.int .u8 b.toNat) ++ Builtin.zeroCells (Value.int IntKind.u8 0).cells (grownCap w (b :: s2).length 0 e - (b :: s2).length)) = ((([] ++ (b :: s2)).map bV) ++ (Builtin.zeroCells (Value.int IntKind.u8 0).cells (grownCap w (b :: s2).length 0 e - (b :: s2).length)).toList).toArray := by
          apply Array.toList_inj.1; simp [bs, bV]
        rw [e1]
        exact hst.drew.alloc _
  | some q =>
    obtain ⟨r, cap, sp⟩ := q
    obtain ⟨h1, h2⟩ := ho
    have hget : w.heap[r]? = some (.cells (s.map bV ++ sp).toArray e (0, 0)) := hst.get (k := 0) rfl
    have hne : s ++ s2 ≠ [] := fun h0 => by have := ho2 (List.append_eq_nil_iff.1 h0).1; cases this
    by_cases hroom : s.length + s2.length ≤ cap
    · have hr := Lib.run_append_room_string (P := c.P) w t u ty e inf (und_slice ht) (und_str hu) hinf hs' r s.length cap _ hget (bs s2) (by rw [hsz]; exact hroom) (by rw [hsz]; simp only [List.size_toArray, List.length_append, List.length_map]; omega)
      rw [hsz, strCells_bs] at hr
      have e1 : ((s.map bV ++ sp).toArray.toList.take s.length ++ s2.map bV ++ (s.map bV ++ sp).toArray.toList.drop (s.length + s2.length)) = (s ++ s2).map bV ++ sp.drop s2.length := by
        simp only [List.toList_toArray]
        rw [List.take_left' (by simp), List.map_append, ← List.drop_drop, List.drop_left' (by simp)]
      rw [e1] at hr
      have hV : rowV (s ++ s2).length (some (r, cap, sp.drop s2.length)) = .slice (some ⟨r, 0, none⟩) (s.length + s2.length) cap := by rw [rowV, hsl]
      refine ⟨⟨some (r, cap, sp.drop s2.length), ⟨?_, ?_⟩, fun h0 => absurd h0 hne⟩, _, exec _ _ (hr.trans (congrArg (fun v => Result.ok v _) hV.symm)), ?_⟩
      · rw [hml, hsl]; omega
      · rw [List.length_drop, hsl]; omega
      · exact hst.set (k := 0) rfl (Keep.setRow r _) (setRow_heap _ _ _ _ _ _ hget)
    · have holds : ∀ (j : Nat) (x : Value), (s.map bV)[j]? = some x → w.cell? ((⟨r, 0, none⟩ : Addr).add j) = some x := cells_news hget (n := s.length) (by simp)
      have hr := Lib.run_append_grow_string (P := c.P) w t u ty e inf (.int .u8 0) (und_slice ht) (und_str hu) hinf hz' ⟨r, 0, none⟩ s.length cap (s.map bV) (by rw [hs']; simp) holds (bs s2) (by rw [hsz]; omega) (by rw [hsz]; omega) (by rw [hsz, hb']; exact growslice_fits (by omega) (by omega))
      rw [hsz, strCells_bs] at hr
      have hge := grownCap_ge w (s.length + s2.length) cap e
      refine ⟨⟨some (w.heap.size, grownCap w (s.length + s2.length) cap e, (Builtin.zeroCells (Value.int IntKind.u8 0).cells (grownCap w (s.length + s2.length) cap e - (s.length + s2.length))).toList), ⟨?_, ?_⟩, fun h0 => absurd h0 hne⟩, _, exec _ _ (hr.trans (congrArg (fun v => Result.ok v _) (show _ = rowV (s ++ s2).length (some (w.heap.size, grownCap w (s.length + s2.length) cap e, (Builtin.zeroCells (Value.int IntKind.u8 0).cells (grownCap w (s.length + s2.length) cap e - (s.length + s2.length))).toList)) from by rw [rowV, hsl]))), ?_⟩
      · rw [hml, hsl]; omega
      · rw [zlen, hsl]; omega
      · have e1 : ((s.map bV).toArray ++ (s2.map bV).toArray ++ Builtin.zeroCells (Value.int IntKind.u8 0).cells (grownCap w (s.length + s2.length) cap e - (s.length + s2.length))) = ((s ++ s2).map bV ++ (Builtin.zeroCells (Value.int IntKind.u8 0).cells (grownCap w (s.length + s2.length) cap e - (s.length + s2.length))).toList).toArray := by
          apply Array.toList_inj.1; simp
        rw [e1]
        exact (hst.drew.weakL (List.sublist_cons_self _ _)).alloc _
theorem Keep.freeze {w : World} (r n : Nat) : Keep [r] w (w.freeze ⟨r, 0, none⟩ n) := by
  unfold World.freeze
  split
  · exact Keep.refl _ _
  · exact ⟨rfl, rfl, rfl, by simp, fun k _ hn => by
      simp only [Array.getElem?_modify]
      rw [if_neg (by intro e; exact hn (by simp [e]))]⟩
theorem freeze_heap {w : World} {r n : Nat} {cs : Array Value} {e : TypeId} {fr : Nat × Nat} (h : w.heap[r]? = some (.cells cs e fr)) : ∃ fr', (w.freeze ⟨r, 0, none⟩ n).heap[r]? = some (.cells cs e fr') := by
  unfold World.freeze
  split
  · exact ⟨fr, h⟩
  · obtain ⟨lo, hi⟩ := fr
    obtain ⟨hlt, he⟩ := Array.getElem?_eq_some_iff.1 h
    refine ⟨if lo == hi then (0, 0 + n) else (min lo 0, max hi (0 + n)), ?_⟩
    show (w.heap.modify r _)[r]? = _
    rw [Array.getElem?_eq_getElem (by rw [Array.size_modify]; exact hlt), Array.getElem_modify_self, he]
def dataV : Row → Value
  | none => .pointer none
  | some (r, _, _) => .pointer (some ⟨r, 0, none⟩)
theorem R_unsafeData {x : Operand} {row : Row} {n : Nat} (hx : evl l x = some (rowV n row)) (hc : ∀ r cap sp, row = some (r, cap, sp) → cap ≠ 0) :
    RunsTo c d l L X ⟨some i, .call ⟨.builtin .unsafeSliceData, #[x], #[t]⟩, ty, ps, af, gd⟩ (dataV row) := fun a w hf _ => by
  have ex := hf.eval hx
  cases row with
  | none =>
    have hr := Lib.run_unsafeSliceData_nil (P := c.P) w #[t] ty 0 0
    simp only [rowV] at ex
    simp [execOp, resolve, Sem.run_bind, ex, Result.andThen, invoke, builtin, hr, dataV]
  | some q =>
    obtain ⟨r, cap, sp⟩ := q
    have hr := Lib.run_unsafeSliceData_row (P := c.P) w #[t] ty ⟨r, 0, none⟩ n cap (hc r cap sp rfl)
    simp only [rowV] at ex
    simp [execOp, resolve, Sem.run_bind, ex, Result.andThen, invoke, builtin, hr, dataV]
def ptrOf (P : Program) (t : TypeId) : Option TypeId := match P.underlying t with | some (.pointer e) => some e | _ => none
theorem und_ptr {P : Program} {t e : TypeId} (h : ptrOf P t = some e) : P.underlying t = some (.pointer e) := by
  unfold ptrOf at h; split at h <;> simp_all
theorem HL_unsafeString {x y : Operand} {e pt it : TypeId} {s : List UInt8} {L0 : List (Nat × Obj)} {row : Row}
    (hp : L.Perm (rowL e (s.map bV) row ++ L0)) (hg : goes l ops ⟨some i, .call ⟨.builtin .unsafeString, #[x, y], #[pt, it]⟩, ty, ps, af, gd⟩ = some true) (hi : Nat.ble (i + 1) c.n = true)
    (hx : evl l x = some (dataV row)) (hy : evl l y = some (.int .i64 (s.length : Int))) (ht : ptrOf c.P pt = some e) (hc : c.P.cellsOf e = 1)
    (ho : rowOk 1 s.length (s.map bV) row) (ho2 : s = [] → row = none) (hlen : s.length ≤ 9223372036854775807)
    (h : HL c d ((i, .string (bs s)) :: l) L0 X ops rest Q) : HL c d l L X ops (⟨some i, .call ⟨.builtin .unsafeString, #[x, y], #[pt, it]⟩, ty, ps, af, gd⟩ :: rest) Q := by
  refine HL_perm hp ?_
  refine HL_runE (α := Unit) (V := fun _ => .string (bs s)) (L' := fun _ => L0) (X' := fun _ => X) hg rfl rfl hi (fun a w hf hst => ?_) (fun _ => h)
  have exec : ∀ r w', (Builtin.unsafeString_ #[pt, it] ty #[dataV row, .int .i64 s.length]).run c.P w = .ok r w' →
      (execOp a.eval ⟨some i, .call ⟨.builtin .unsafeString, #[x, y], #[pt, it]⟩, ty, ps, af, gd⟩).run c.P w = .ok (.value r) w' := fun r w' hr => by
    have ex := hf.eval hx
    have ey := hf.eval hy
    simp [execOp, resolve, Sem.run_bind, ex, ey, Result.andThen, invoke, builtin, hr]
  cases row with
  | none =>
    obtain ⟨h1, _⟩ := ho
    have hs0 : s = [] := List.eq_nil_of_length_eq_zero h1
    subst hs0
    exact ⟨(), w, exec _ _ (Lib.run_unsafeString_none (P := c.P) w pt it ty none), hst⟩
  | some q =>
    obtain ⟨r, cap, sp⟩ := q
    obtain ⟨h1, h2⟩ := ho
    have hget : w.heap[r]? = some (.cells (s.map bV ++ sp).toArray e (0, 0)) := hst.get (k := 0) rfl
    have hne : s ≠ [] := fun h0 => by have := ho2 h0; cases this
    have hcell : ∀ (j : Nat) (x : UInt8), s[j]? = some x → w.cell? ((⟨r, 0, none⟩ : Addr).add j) = some (.int .u8 x.toNat) := fun j x hx => by
      rw [add_spot, cell_at hget]
      rw [Nat.zero_add, ← Array.getElem?_toList]
      simp only [List.toList_toArray]
      rw [List.getElem?_append_left (by rw [List.length_map]; exact (List.getElem?_eq_some_iff.1 hx).1), List.getElem?_map, hx]; rfl
    have hr := Lib.run_unsafeString_row (P := c.P) w pt it ty e (und_ptr ht) hc r (s.map bV ++ sp).length (by simp [World.shape?, hget]) s hne (by simp) hlen hcell
    obtain ⟨fr', hfr⟩ := freeze_heap (n := s.length) hget
    exact ⟨(), _, exec _ _ hr, (hst.set (k := 0) rfl (Keep.freeze r s.length) hfr).weakL (List.sublist_cons_self _ _)⟩
end
end Go.SL
/-! ### Pointers: to unsafe.Pointer and back; against nil, against itself -/
namespace Go.SL
set_option linter.all false
open Go Go.RowKit Go.Shelf
section
variable {c : Cx} {l : List (Nat × Value)} {L : List (Nat × Obj)} {X : XP} {d : List Deferred}
variable {i : Nat} {v : Value} {t u : TypeId} {ps : String} {af : Array Edge} {gd : Option (Nat × Bool)} {ty t2 : TypeId}
def unsB (P : Program) (t : TypeId) : Bool := match P.underlying t with | some .unsafePointer => true | _ => false
theorem und_uns {P : Program} {t : TypeId} (h : unsB P t = true) : P.underlying t = some .unsafePointer := by
  unfold unsB at h; split at h <;> simp_all
theorem info_sz {P : Program} {t : TypeId} {sz : Nat} (h : szOf P t = some sz) : ∃ inf, P.info? t = some inf ∧ inf.size = sz := by
  unfold szOf at h
  cases hq : P.info? t with
  | none => simp [hq] at h
  | some inf => simp only [hq, Option.some.injEq] at h; exact ⟨inf, rfl, h⟩
theorem R_toUnsafe {x : Operand} {r sz e : Nat} {src dst tt : TypeId} {cs : Array Value} {fr : Nat × Nat} (hx : evl l x = some (.pointer (some ⟨r, 0, none⟩))) (hk : known c L r (.cells cs e fr)) (hs : ptrOf c.P src = some tt) (hd : unsB c.P dst = true) (ht : szOf c.P tt = some sz) (h0 : 0 < sz) (hc : 0 < cs.size) :
    RunsTo c d l L X ⟨some i, .convert src dst x, ty, ps, af, gd⟩ (.pointer (some ⟨r, 0, none⟩)) := fun a w hf hst => by
  obtain ⟨inf, hinf, hsz⟩ := info_sz ht
  have h := hst.known hk
  simp only [execOp]
  rw [hf.eval hx]
  have := Lib.run_to_unsafe (P := c.P) w (e := e) (cells := cs.size) ⟨r, 0, none⟩ (und_ptr hs) (und_uns hd) hinf (by omega) (by simp [World.shape?, h]) hc
  simp only [Sem.run_bind, this]; rfl
theorem R_fromUnsafe {x : Operand} {r sz e : Nat} {src dst tt : TypeId} {cs : Array Value} {fr : Nat × Nat} (hx : evl l x = some (.pointer (some ⟨r, 0, none⟩))) (hk : known c L r (.cells cs e fr)) (hs : unsB c.P src = true) (hd : ptrOf c.P dst = some tt) (ht : szOf c.P tt = some sz) (hl : liesAt c.P c.P.depth e (cs.size / c.P.cellsOf e) 0 tt 1 = true) :
    RunsTo c d l L X ⟨some i, .convert src dst x, ty, ps, af, gd⟩ (.pointer (some ⟨r, 0, none⟩)) := fun a w hf hst => by
  obtain ⟨inf, hinf, hsz⟩ := info_sz ht
  have h := hst.known hk
  simp only [execOp]
  rw [hf.eval hx]
  have := Lib.run_from_unsafe (P := c.P) w (e := e) (cells := cs.size) ⟨r, 0, none⟩ (und_uns hs) (und_ptr hd) hinf (by simp [World.shape?, h]) hl
  simp only [Sem.run_bind, this]; rfl
theorem R_noEscape {x f : Operand} {v : Value} {g : FuncId} {fn : Func} {at_ : Array TypeId} (hf : evl l f = some (.func (.func g) #[] #[])) (hx : evl l x = some v)
    (hF : c.P.funcs[g]? = some fn) (hn1 : (fn.name == "runtime.NumGoroutine") = false) (hb : fn.body.isNone = true) (hn2 : Extern.findNext fn = none) (he : Extern.find fn = some Extern.AbiNoEscape.same) :
    RunsTo c d l L X ⟨some i, .call ⟨.value f, #[x], at_⟩, ty, ps, af, gd⟩ v := fun a w hfr hst => by
  have ef := hfr.eval hf
  have ex := hfr.eval hx
  have hcf : (callFunc g #[v]).run c.P w = .ok (.value v) w := by
    rw [run_callFunc_extern hF hn1 hb hn2 he, Lib.run_noEscape]; rfl
  simp [execOp, resolve, Sem.run_bind, ef, ex, Deferred.ofValue, Result.andThen, invoke, hcf]
theorem R_neSelf {x y : Operand} {q : Addr} {sz : Nat} {tt : TypeId} (hx : evl l x = some (.pointer (some q))) (hy : evl l y = some (.pointer (some q))) (ht : ptrOf c.P t = some tt) (hs : szOf c.P tt = some sz) :
    RunsTo c d l L X ⟨some i, .binOp .neq t x y t2, ty, ps, af, gd⟩ (.bool false) := fun a w hf _ => by
  obtain ⟨inf, hinf, hsz⟩ := info_sz hs
  simp only [execOp]
  rw [hf.eval hx, hf.eval hy]
  have := Lib.run_neq_ptr_same (P := c.P) w q (und_ptr ht) hinf
  simp [eqGuard, Sem.run_bind, this, Result.andThen]
theorem R_eqNilN {x y : Operand} {tt : TypeId} {sz : Nat} (hx : evl l x = some (.pointer none)) (hy : evl l y = some (.pointer none)) (ht : ptrOf c.P t = some tt) (hs : szOf c.P tt = some sz) :
    RunsTo c d l L X ⟨some i, .binOp .eql t x y t2, ty, ps, af, gd⟩ (.bool true) := fun a w hf _ => by
  obtain ⟨inf, hinf, hsz⟩ := info_sz hs
  have h : ∀ d : Nat, (Op.equalIn (d + 1) t (.pointer none) (.pointer none)).run c.P w = .ok true w := fun d => by
    simp [Op.equalIn, run_underlying (und_ptr ht), sizeOf, typeInfo, hinf]
  simp only [execOp]
  rw [hf.eval hx, hf.eval hy]
  simp only [binOp]
  simp [eqGuard, Op.equal, Op.maxDepth, h 9999, Sem.run_bind, Result.andThen]
theorem R_eqNilS {x y : Operand} {q : Addr} {tt : TypeId} {sz : Nat} (hx : evl l x = some (.pointer (some q))) (hy : evl l y = some (.pointer none)) (ht : ptrOf c.P t = some tt) (hs : szOf c.P tt = some sz) :
    RunsTo c d l L X ⟨some i, .binOp .eql t x y t2, ty, ps, af, gd⟩ (.bool false) := fun a w hf _ => by
  obtain ⟨inf, hinf, hsz⟩ := info_sz hs
  have h : ∀ d : Nat, (Op.equalIn (d + 1) t (.pointer (some q)) (.pointer none)).run c.P w = .ok false w := fun d => by
    simp [Op.equalIn, run_underlying (und_ptr ht), sizeOf, typeInfo, hinf]
  simp only [execOp]
  rw [hf.eval hx, hf.eval hy]
  simp only [binOp]
  simp [eqGuard, Op.equal, Op.maxDepth, h 9999, Sem.run_bind, Result.andThen]
end
end Go.SL
namespace Go.Proofs.YtlcbfphioeppaaaGreatDoor
set_option linter.all false
open Go.SL Go.RowKit Go.Shelf
/-! ### strings.Builder -/
abbrev pB (own : Bool) (r : Nat) : Value := .pointer (if own then some ⟨r, 0, none⟩ else none)
def bldB (r : Nat) (s : BS) (row : Row) (own : Bool) : Nat × Obj := (r, .cells #[pB own r, rowV s.length row] 121 (0, 0))
def bldL (r : Nat) (s : BS) (row : Row) (own : Bool) : List (Nat × Obj) := bldB r s row own :: rowL 5 (s.map bV) row
def bOk (s : BS) (row : Row) : Prop := rowOk 1 s.length (s.map bV) row ∧ (s = [] → row = none)
set_option maxRecDepth 10000 in
theorem T_copyCheck (r : Nat) (own : Bool) (v : Value) : PureT (α := Unit) Tryz.prog 191 [pt0 r].toArray (fun _ => .tuple #[]) [(r, .cells #[pB own r, v] 121 (0, 0))] (fun _ => [(r, .cells #[pB true r, v] 121 (0, 0))]) [] := by
  cases own with
  | false =>
    refine pureT_of_HC Tryz.func191 rfl rfl fun w => ?_; refine HC_seq fun K1 hK1 => ?_; refine HC_region ?_; refine HL_r rfl rfl rfl rfl (R_move rfl) ?_; refine HL_r rfl rfl rfl rfl (R_pure rfl rfl rfl) ?_
    refine HL_r rfl rfl rfl rfl (R_fieldAddr rfl rfl (by first | (simp only [Nat.zero_add, Nat.reduceAdd, Nat.reduceMul, Nat.zero_mul, Nat.mul_one, Nat.add_zero]; exact rfl) | exact rfl)) ?_; refine HL_r rfl rfl rfl rfl (R_load (v := .pointer none) rfl (known_L (k := 0) rfl) rfl rfl) ?_; refine HL_r rfl rfl rfl rfl (R_eqNilN rfl rfl rfl rfl) ?_; refine HL_nil ?_; refine HQ_then ?_; refine hK1 _ _ _ _ ?_; clear hK1 K1; refine HC_cond rfl (fun h2 => ?_) (fun h2 => ?_)
    · try exact Bool.noConfusion h2
      try simp only [Z1, Z2, Z3, Z4, Z5, Z6, Z7, Z8, Z9, Z10, Z11, Z12, Z13] at h2
      refine HC_region ?_; refine HL_r rfl rfl rfl rfl (R_move rfl) ?_; refine HL_r rfl rfl rfl rfl (R_move rfl) ?_; refine HL_r rfl rfl rfl rfl (R_toUnsafe (sz := 2) rfl (known_L (k := 0) rfl) rfl rfl rfl (by decide) (by simp)) ?_; refine HL_r rfl rfl rfl rfl (R_noEscape rfl rfl (Tryz.func216) (by kernel_rfl) rfl rfl rfl) ?_; refine HL_r rfl rfl rfl rfl (R_fromUnsafe rfl (known_L (k := 0) rfl) rfl rfl rfl (by kernel_rfl)) ?_; refine HL_r rfl rfl rfl rfl (R_pure rfl rfl rfl) ?_
      refine HL_r rfl rfl rfl rfl (R_fieldAddr rfl rfl (by first | (simp only [Nat.zero_add, Nat.reduceAdd, Nat.reduceMul, Nat.zero_mul, Nat.mul_one, Nat.add_zero]; exact rfl) | exact rfl)) ?_; refine HL_store (k := 0) (cs' := #[pt0 r, v]) rfl rfl rfl rfl rfl rfl rfl rfl rfl rfl ?_; refine HL_nil ?_; refine HQ_postN rfl rfl .nil (fun w1 hs1 => ?_); exact ⟨(), rfl, hs1⟩
    · try exact Bool.noConfusion h2
  | true =>
    refine pureT_of_HC Tryz.func191 rfl rfl fun w => ?_; refine HC_seq fun K1 hK1 => ?_; refine HC_region ?_; refine HL_r rfl rfl rfl rfl (R_move rfl) ?_; refine HL_r rfl rfl rfl rfl (R_pure rfl rfl rfl) ?_
    refine HL_r rfl rfl rfl rfl (R_fieldAddr rfl rfl (by first | (simp only [Nat.zero_add, Nat.reduceAdd, Nat.reduceMul, Nat.zero_mul, Nat.mul_one, Nat.add_zero]; exact rfl) | exact rfl)) ?_; refine HL_r rfl rfl rfl rfl (R_load (v := pt0 r) rfl (known_L (k := 0) rfl) rfl rfl) ?_; refine HL_r rfl rfl rfl rfl (R_eqNilS rfl rfl rfl rfl) ?_; refine HL_nil ?_; refine HQ_then ?_; refine hK1 _ _ _ _ ?_; clear hK1 K1; refine HC_cond rfl (fun h2 => ?_) (fun h2 => ?_)
    · try exact Bool.noConfusion h2
    · try exact Bool.noConfusion h2
      try simp only [Z1, Z2, Z3, Z4, Z5, Z6, Z7, Z8, Z9, Z10, Z11, Z12, Z13] at h2
      refine HC_seq fun K3 hK3 => ?_; refine HC_region ?_; refine HL_r rfl rfl rfl rfl (R_move rfl) ?_; refine HL_r rfl rfl rfl rfl (R_pure rfl rfl rfl) ?_
      refine HL_r rfl rfl rfl rfl (R_fieldAddr rfl rfl (by first | (simp only [Nat.zero_add, Nat.reduceAdd, Nat.reduceMul, Nat.zero_mul, Nat.mul_one, Nat.add_zero]; exact rfl) | exact rfl)) ?_; refine HL_r rfl rfl rfl rfl (R_load (v := pt0 r) rfl (known_L (k := 0) rfl) rfl rfl) ?_; refine HL_r rfl rfl rfl rfl (R_move rfl) ?_; refine HL_r rfl rfl rfl rfl (R_neSelf rfl rfl rfl rfl) ?_; refine HL_nil ?_; refine HQ_then ?_; refine hK3 _ _ _ _ ?_; clear hK3 K3; refine HC_cond rfl (fun h4 => ?_) (fun h4 => ?_)
      · try exact Bool.noConfusion h4
      · try exact Bool.noConfusion h4
        try simp only [Z1, Z2, Z3, Z4, Z5, Z6, Z7, Z8, Z9, Z10, Z11, Z12, Z13] at h4
        refine HC_skip ?_; refine HQ_postN rfl rfl .nil (fun w1 hs1 => ?_); exact ⟨(), rfl, hs1⟩
theorem T_copyCheckB (r : Nat) (s : BS) (row : Row) (own : Bool) : PureT (α := Unit) Tryz.prog 191 [pt0 r].toArray (fun _ => .tuple #[]) [bldB r s row own] (fun _ => [bldB r s row true]) [] := T_copyCheck r own _
set_option maxRecDepth 10000 in
theorem T_Write {r : Nat} {s s2 : BS} {row : Row} {own : Bool} (hb : bOk s row) (hl : s.length + s2.length ≤ 1000000) :
    PureT (α := { x : Row // bOk (s ++ s2) x }) Tryz.prog 123 [pt0 r, strV s2].toArray (fun _ => .tuple #[.int .i64 (s2.length : Int), .nilIface]) (bldL r s row own) (fun x => bldL r (s ++ s2) x.1 true) [] := by
  refine pureT_of_HC Tryz.func123 rfl rfl fun w => ?_
  unfold bldL
  refine HC_seq fun K1 hK1 => ?_; refine HC_region ?_; refine HL_r rfl rfl rfl rfl (R_assign rfl) ?_; refine HL_r rfl rfl rfl rfl (R_assign rfl) ?_; refine HL_nil ?_; refine HQ_then ?_; refine hK1 _ _ _ _ ?_; clear hK1 K1; refine HC_seq fun K2 hK2 => ?_; refine HC_region ?_; refine HL_r rfl rfl rfl rfl (R_move rfl) ?_; refine HL_callT (T := [bldB r s row own]) (L0 := rowL 5 (s.map bV) row) (Rl := []) (List.Perm.refl _) rfl rfl rfl (enters_of Tryz.func191 (by kernel_rfl) rfl) (T_copyCheckB r s row own) (fun q hq => nomatch hq) fun u => ?_; change HL _ _ _ (bldB r s row true :: rowL 5 (s.map bV) row) _ _ _ _; refine HL_nil ?_; refine HQ_then ?_; refine hK2 _ _ _ _ ?_; clear hK2 K2; refine HC_seq fun K3 hK3 => ?_; refine HC_region ?_; refine HL_r rfl rfl rfl rfl (R_move rfl) ?_; refine HL_r rfl rfl rfl rfl (R_move rfl) ?_; refine HL_r rfl rfl rfl rfl (R_pure rfl rfl rfl) ?_
  refine HL_r rfl rfl rfl rfl (R_fieldAddr rfl rfl (by first | (simp only [Nat.zero_add, Nat.reduceAdd, Nat.reduceMul, Nat.zero_mul, Nat.mul_one, Nat.add_zero]; exact rfl) | exact rfl)) ?_; refine HL_r rfl rfl rfl rfl (R_load (v := rowV s.length row) rfl (known_L (k := 0) rfl) rfl rfl) ?_; refine HL_r rfl rfl rfl rfl (R_move rfl) ?_; refine HL_appendS (e := 5) (s := s) (s2 := s2) (row := row) (L0 := [bldB r s row true]) (List.perm_append_comm (l₁ := [_])) rfl rfl rfl rfl rfl rfl rfl rfl rfl hb.1 hb.2 (by omega) fun row2 h1 h2 => ?_; refine HL_perm List.perm_append_comm ?_; change HL _ _ _ ((r, .cells #[pB true r, rowV s.length row] 121 (0, 0)) :: rowL 5 ((s ++ s2).map bV) row2) _ _ _ _; refine HL_r rfl rfl rfl rfl (R_pure rfl rfl rfl) ?_
  refine HL_r rfl rfl rfl rfl (R_fieldAddr rfl rfl (by first | (simp only [Nat.zero_add, Nat.reduceAdd, Nat.reduceMul, Nat.zero_mul, Nat.mul_one, Nat.add_zero]; exact rfl) | exact rfl)) ?_; refine HL_store (k := 0) (cs' := #[pB true r, rowV (s ++ s2).length row2]) rfl rfl rfl rfl rfl (rowV_one1 _ _) rfl rfl rfl rfl ?_; refine HL_nil ?_; refine HQ_then ?_; refine hK3 _ _ _ _ ?_; clear hK3 K3; refine HC_seq fun K4 hK4 => ?_; refine HC_region ?_; refine HL_r rfl rfl rfl rfl (R_move rfl) ?_; refine HL_r rfl rfl rfl rfl (R_lenBs rfl rfl) ?_; refine HL_r rfl rfl rfl rfl (R_assign rfl) ?_; refine HL_r rfl rfl rfl rfl (R_assign rfl) ?_; refine HL_nil ?_; refine HQ_then ?_; refine hK4 _ _ _ _ ?_; clear hK4 K4; refine HC_ret ?_; refine HQ_post rfl rfl (.cons (res_tmp rfl) (.cons (res_tmp rfl) .nil)) (fun w1 hs1 => ?_); exact ⟨⟨row2, h1, h2⟩, rfl, hs1⟩
set_option maxRecDepth 10000 in
theorem P_bLen (r : Nat) {s : BS} {row : Row} (own : Bool) (hb : bOk s row) : PureR Tryz.prog 124 [pt0 r].toArray (.int .i64 (s.length : Int)) [bldB r s row own] := by
  refine pureR_of_HC Tryz.func124 rfl rfl fun w => ?_; refine HC_seq fun K1 hK1 => ?_; refine HC_region ?_; refine HL_r rfl rfl rfl rfl (R_assign rfl) ?_; refine HL_nil ?_; refine HQ_then ?_; refine hK1 _ _ _ _ ?_; clear hK1 K1; refine HC_seq fun K2 hK2 => ?_; refine HC_region ?_; refine HL_r rfl rfl rfl rfl (R_move rfl) ?_; refine HL_r rfl rfl rfl rfl (R_pure rfl rfl rfl) ?_
  refine HL_r rfl rfl rfl rfl (R_fieldAddr rfl rfl (by first | (simp only [Nat.zero_add, Nat.reduceAdd, Nat.reduceMul, Nat.zero_mul, Nat.mul_one, Nat.add_zero]; exact rfl) | exact rfl)) ?_; refine HL_r rfl rfl rfl rfl (R_load (v := rowV s.length row) rfl (known_R (k := 0) rfl) rfl rfl) ?_; refine HL_r rfl rfl rfl rfl (R_lenRow rfl hb.1.zero rfl) ?_; refine HL_r rfl rfl rfl rfl (R_assign rfl) ?_; refine HL_nil ?_; refine HQ_then ?_; refine hK2 _ _ _ _ ?_; clear hK2 K2; refine HC_ret ?_; refine HQ_post rfl rfl (.cons (res_tmp rfl) .nil) (fun w1 hs1 => ?_); exact ⟨rfl, hs1.keep⟩
set_option maxRecDepth 10000 in
theorem T_bStr {r : Nat} {s : BS} {row : Row} {own : Bool} (hb : bOk s row) (hl : s.length ≤ 1000000) :
    PureT (α := Unit) Tryz.prog 125 [pt0 r].toArray (fun _ => strV s) (bldL r s row own) (fun _ => []) [] := by
  have hcap : ∀ q cap sp, row = some (q, cap, sp) → cap ≠ 0 := by
    rintro q cap sp rfl h0
    obtain ⟨⟨h1, h2⟩, h3⟩ := hb
    have h4 : s.length = 0 := by omega
    have := h3 (List.eq_nil_of_length_eq_zero h4)
    cases this
  refine pureT_of_HC Tryz.func125 rfl rfl fun w => ?_
  unfold bldL
  refine HC_seq fun K1 hK1 => ?_; refine HC_region ?_; refine HL_r rfl rfl rfl rfl (R_assign rfl) ?_; refine HL_nil ?_; refine HQ_then ?_; refine hK1 _ _ _ _ ?_; clear hK1 K1; refine HC_seq fun K2 hK2 => ?_
  refine HC_drawB [] [(0, .pure), (1, .pure), (2, .pure), (4, .pure), (5, .pure), (6, .pure), (7, .pure), (9, .pure)] 10 [0, 1, 2, 3, 4, 5, 6, 7, 8, 9] (by kernel_rfl) (by kernel_rfl) (by first | exact (fun _ h => nomatch h) | simp [SubS] | (intro p hp; simp [hp])) ?_; refine HB_p (k := 0) rfl rfl rfl rfl rfl (fun _ hS => (R_move rfl)) ?_; refine HB_p (k := 1) rfl rfl rfl rfl rfl (fun _ hS => (R_pure rfl rfl rfl)) ?_
  refine HB_p (k := 2) rfl rfl rfl rfl rfl (fun _ hS => (R_fieldAddr rfl rfl (by first | (simp only [Nat.zero_add, Nat.reduceAdd, Nat.reduceMul, Nat.zero_mul, Nat.mul_one, Nat.add_zero]; exact rfl) | exact rfl))) ?_; refine HB_r (k := 3) rfl rfl rfl rfl rfl (R_load (v := rowV s.length row) rfl (known_L (k := 0) rfl) rfl rfl) ?_; refine HB_p (k := 4) rfl rfl rfl rfl rfl (fun _ _ => R_unsafeData rfl hcap) ?_; refine HB_p (k := 5) rfl rfl rfl rfl rfl (fun _ hS => (R_move rfl)) ?_; refine HB_p (k := 6) rfl rfl rfl rfl rfl (fun _ hS => (R_pure rfl rfl rfl)) ?_
  refine HB_p (k := 7) rfl rfl rfl rfl rfl (fun _ hS => (R_fieldAddr rfl rfl (by first | (simp only [Nat.zero_add, Nat.reduceAdd, Nat.reduceMul, Nat.zero_mul, Nat.mul_one, Nat.add_zero]; exact rfl) | exact rfl))) ?_; refine HB_r (k := 8) rfl rfl rfl rfl rfl (R_load (v := rowV s.length row) rfl (known_L (k := 0) rfl) rfl rfl) ?_; refine HB_p (k := 9) rfl rfl rfl rfl rfl (fun _ _ => R_lenRow rfl hb.1.zero rfl) ?_; refine HB_end ?_; refine HL_unsafeString (e := 5) (s := s) (row := row) (L0 := [bldB r s row own]) (List.perm_append_comm (l₁ := [_])) rfl rfl rfl rfl rfl rfl hb.1 hb.2 (by omega) ?_; refine HL_r rfl rfl rfl rfl (R_assign rfl) ?_; refine HL_nil ?_; refine HQ_then ?_; refine hK2 _ _ _ _ ?_; clear hK2 K2; refine HC_ret ?_; refine HQ_post rfl rfl (.cons (res_tmp rfl) .nil) (fun w1 hs1 => ?_); exact ⟨(), rfl, hs1.weakL (List.nil_sublist _)⟩
end Go.Proofs.YtlcbfphioeppaaaGreatDoor
namespace Go.Proofs.YtlcbfphioeppaaaGreatDoor
set_option linter.all false
open Go.SL Go.RowKit Go.Shelf
/-! ### Sizes, types of items, beginnings -/
theorem begT_eq (x : Ty) : begT x = if isFix x then sizT x else 4 := rfl
set_option maxRecDepth 10000 in
theorem S_ssize {R : List (Nat × Obj)} {t : Ty} (ht : t.In R) : PureR Tryz.prog 122 [t.val].toArray (.tuple #[.int .i64 (begT t), .bool (isFix t)]) R := by
  have h1 := S_Fixed ht
  have h2 := S_Size ht
  unfold sizeT at h2
  rw [begT_eq]
  generalize isFix t = b at h1 h2 ⊢
  generalize sizT t = z at h2 ⊢
  obtain ⟨k, n, p, ins⟩ := t
  refine pureR_of_HC Tryz.func122 rfl rfl fun w => ?_; refine HC_seq fun K1 hK1 => ?_; refine HC_region ?_; refine HL_box (cs := #[_, _, _]) rfl rfl rfl rfl fun r1 => ?_; refine HL_r rfl rfl rfl rfl (R_assign rfl) ?_; refine HL_r rfl rfl rfl rfl (R_assign rfl) ?_; refine HL_nil ?_; refine HQ_then ?_; refine hK1 _ _ _ _ ?_; clear hK1 K1; refine HC_seq fun K2 hK2 => ?_; refine HC_seq fun K3 hK3 => ?_; refine HC_region ?_; refine HL_r rfl rfl rfl rfl (R_loadA (vs := [_, _, _]) rfl (known_L (k := 0) rfl) rfl rfl rfl rfl) ?_; refine HL_callR rfl rfl rfl (enters_of Tryz.func24 (by kernel_rfl) rfl) h1 (fun q hq => Or.inr hq) ?_; refine HL_nil ?_; refine HQ_then ?_; refine hK3 _ _ _ _ ?_; clear hK3 K3; refine HC_cond rfl (fun h4 => ?_) (fun h4 => ?_)
  · try exact Bool.noConfusion h4
    try simp only [Z1, Z2, Z3, Z4, Z5, Z6, Z7, Z8, Z9, Z10, Z11, Z12, Z13] at h4
    refine HC_seq fun K5 hK5 => ?_; refine HC_region ?_; refine HL_r rfl rfl rfl rfl (R_loadA (vs := [_, _, _]) rfl (known_L (k := 0) rfl) rfl rfl rfl rfl) ?_; refine HL_callR rfl rfl rfl (enters_of Tryz.func25 (by kernel_rfl) rfl) h2 (fun q hq => Or.inr hq) ?_; refine HL_r rfl rfl rfl rfl (R_assign rfl) ?_; refine HL_r rfl rfl rfl rfl (R_assign rfl) ?_; refine HL_nil ?_; refine HQ_then ?_; refine hK5 _ _ _ _ ?_; clear hK5 K5; refine HC_ret ?_; refine HQ_thenR ?_; clear hK2 K2; refine HQ_post rfl rfl (.cons (res_tmp rfl) (.cons (res_tmp rfl) .nil)) (fun w1 hs1 => ?_); refine ⟨?_, hs1.keep⟩
    simp_all [resVal]
  · try exact Bool.noConfusion h4
    try simp only [Z1, Z2, Z3, Z4, Z5, Z6, Z7, Z8, Z9, Z10, Z11, Z12, Z13] at h4
    refine HC_skip ?_; refine HQ_then ?_; refine hK2 _ _ _ _ ?_; clear hK2 K2; refine HC_seq fun K6 hK6 => ?_; refine HC_region ?_; refine HL_r rfl rfl rfl rfl (R_assign rfl) ?_; refine HL_r rfl rfl rfl rfl (R_assign rfl) ?_; refine HL_nil ?_; refine HQ_then ?_; refine hK6 _ _ _ _ ?_; clear hK6 K6; refine HC_ret ?_; refine HQ_post rfl rfl (.cons (res_tmp rfl) (.cons (res_tmp rfl) .nil)) (fun w1 hs1 => ?_); refine ⟨?_, hs1.keep⟩
    simp_all [resVal]
set_option maxRecDepth 10000 in
theorem S_sin {R : List (Nat × Obj)} {k n : Int} {p : Pl} {ins : List Ty} {pick : Int} {i : Nat} (ht : Ty.In R (.mk k n p ins)) (hp8 : k = 8 → 0 ≤ pick) (hx : inX k pick i < ins.length) : PureR Tryz.prog 190 [Ty.val (.mk k n p ins), .int .i64 pick, .int .i64 (i : Int)].toArray (inTy k pick ins i).val R := by
  have hty := inTy_get hx
  cases ht with
  | @mk k n p ins hk hn hlt hst hit =>
  obtain ⟨X, hX⟩ : ∃ X, X = inTy k pick ins i := ⟨_, rfl⟩
  rw [← hX] at hty ⊢; refine pureR_of_HC Tryz.func190 rfl rfl fun w => ?_; refine HC_seq fun K1 hK1 => ?_; refine HC_region ?_; refine HL_box (cs := #[_, _, _]) rfl rfl rfl rfl fun r1 => ?_; refine HL_alloc (cs := #[_, _, _]) rfl rfl rfl rfl fun r2 => ?_; refine HL_nil ?_; refine HQ_then ?_; refine hK1 _ _ _ _ ?_; clear hK1 K1; refine HC_seq fun K2 hK2 => ?_; refine HC_seq fun K3 hK3 => ?_; refine HC_region ?_
  refine HL_r rfl rfl rfl rfl (R_fieldAddr rfl rfl (by first | (simp only [Nat.zero_add, Nat.reduceAdd, Nat.reduceMul, Nat.zero_mul, Nat.mul_one, Nat.add_zero]; exact rfl) | exact rfl)) ?_; refine HL_r rfl rfl rfl rfl (R_load rfl (known_L (k := 1) rfl) rfl rfl) ?_; refine HL_nil ?_; refine HQ_then ?_; refine hK3 _ _ _ _ ?_; clear hK3 K3; refine HC_block ?_; refine HC_seq fun K4 hK4 => ?_; refine HC_region ?_; refine HL_r rfl rfl rfl rfl (R_pure rfl rfl rfl) ?_; refine HL_r rfl rfl rfl rfl (R_assign rfl) ?_; refine HL_nil ?_; refine HQ_then ?_; refine hK4 _ _ _ _ ?_; clear hK4 K4; refine HC_cond rfl (fun h5 => ?_) (fun h5 => ?_)
  · try exact Bool.noConfusion h5
    try simp only [Z1, Z2, Z3, Z4, Z5, Z6, Z7, Z8, Z9, Z10, Z11, Z12, Z13] at h5
    refine HC_seq fun K6 hK6 => ?_; refine HC_region ?_
    refine HL_r rfl rfl rfl rfl (R_fieldAddr rfl rfl (by first | (simp only [Nat.zero_add, Nat.reduceAdd, Nat.reduceMul, Nat.zero_mul, Nat.mul_one, Nat.add_zero]; exact rfl) | exact rfl)) ?_; refine HL_r rfl rfl rfl rfl (R_load rfl (known_L (k := 1) rfl) rfl rfl) ?_; refine HL_r rfl rfl rfl rfl (R_move rfl) ?_; refine HL_r rfl rfl rfl rfl (R_indexPl (j := inX k pick i) rfl hst rfl rfl rfl (by unfold inX; rw [if_pos (by assumption)]) hx) ?_; refine HL_r rfl rfl rfl rfl (R_loadTy (fun q hq => Or.inr hq) rfl hst hty.1 rfl rfl) ?_; refine HL_storeArr (k := 0) (n := 3) (ys := X.cells) rfl rfl rfl rfl rfl X.len rfl X.one rfl ?_; refine HL_nil ?_; refine HQ_then ?_; refine hK6 _ _ _ _ ?_; clear hK6 K6; refine HC_ret ?_; refine HQ_blockR ?_; refine HQ_thenR ?_; clear hK2 K2; refine HQ_post rfl rfl (.cons (res_cellA (vs := X.cells) rfl (known_L (k := 0) rfl) rfl (by rw [X.len]; rfl)) .nil) (fun w1 hs1 => ?_); exact ⟨rfl, hs1.keep⟩
  · try exact Bool.noConfusion h5
    try simp only [Z1, Z2, Z3, Z4, Z5, Z6, Z7, Z8, Z9, Z10, Z11, Z12, Z13] at h5
    refine HC_seq fun K7 hK7 => ?_; refine HC_region ?_; refine HL_r rfl rfl rfl rfl (R_pure rfl rfl rfl) ?_; refine HL_r rfl rfl rfl rfl (R_assign rfl) ?_; refine HL_nil ?_; refine HQ_then ?_; refine hK7 _ _ _ _ ?_; clear hK7 K7; refine HC_cond rfl (fun h8 => ?_) (fun h8 => ?_)
    · try exact Bool.noConfusion h8
      try simp only [Z1, Z2, Z3, Z4, Z5, Z6, Z7, Z8, Z9, Z10, Z11, Z12, Z13] at h8
      refine HC_seq fun K9 hK9 => ?_; refine HC_region ?_
      refine HL_r rfl rfl rfl rfl (R_fieldAddr rfl rfl (by first | (simp only [Nat.zero_add, Nat.reduceAdd, Nat.reduceMul, Nat.zero_mul, Nat.mul_one, Nat.add_zero]; exact rfl) | exact rfl)) ?_; refine HL_r rfl rfl rfl rfl (R_load rfl (known_L (k := 1) rfl) rfl rfl) ?_; refine HL_r rfl rfl rfl rfl (R_move rfl) ?_; refine HL_r rfl rfl rfl rfl (R_indexPl (j := inX k pick i) rfl hst rfl rfl rfl (by unfold inX; rw [if_neg (by assumption), if_pos (by assumption)]; have := hp8 (by assumption); omega) hx) ?_; refine HL_r rfl rfl rfl rfl (R_loadTy (fun q hq => Or.inr hq) rfl hst hty.1 rfl rfl) ?_; refine HL_storeArr (k := 0) (n := 3) (ys := X.cells) rfl rfl rfl rfl rfl X.len rfl X.one rfl ?_; refine HL_nil ?_; refine HQ_then ?_; refine hK9 _ _ _ _ ?_; clear hK9 K9; refine HC_ret ?_; refine HQ_blockR ?_; refine HQ_thenR ?_; clear hK2 K2; refine HQ_post rfl rfl (.cons (res_cellA (vs := X.cells) rfl (known_L (k := 0) rfl) rfl (by rw [X.len]; rfl)) .nil) (fun w1 hs1 => ?_); exact ⟨rfl, hs1.keep⟩
    · try exact Bool.noConfusion h8
      try simp only [Z1, Z2, Z3, Z4, Z5, Z6, Z7, Z8, Z9, Z10, Z11, Z12, Z13] at h8
      refine HC_skip ?_; refine HQ_blockN ?_; refine HQ_then ?_; refine hK2 _ _ _ _ ?_; clear hK2 K2; refine HC_seq fun K10 hK10 => ?_; refine HC_region ?_
      refine HL_r rfl rfl rfl rfl (R_fieldAddr rfl rfl (by first | (simp only [Nat.zero_add, Nat.reduceAdd, Nat.reduceMul, Nat.zero_mul, Nat.mul_one, Nat.add_zero]; exact rfl) | exact rfl)) ?_; refine HL_r rfl rfl rfl rfl (R_load rfl (known_L (k := 1) rfl) rfl rfl) ?_; refine HL_r rfl rfl rfl rfl (R_indexPl (j := inX k pick i) rfl hst rfl rfl rfl (by unfold inX; rw [if_neg (by assumption), if_neg (by assumption)]; rfl) hx) ?_; refine HL_r rfl rfl rfl rfl (R_loadTy (fun q hq => Or.inr hq) rfl hst hty.1 rfl rfl) ?_; refine HL_storeArr (k := 0) (n := 3) (ys := X.cells) rfl rfl rfl rfl rfl X.len rfl X.one rfl ?_; refine HL_nil ?_; refine HQ_then ?_; refine hK10 _ _ _ _ ?_; clear hK10 K10; refine HC_ret ?_; refine HQ_post rfl rfl (.cons (res_cellA (vs := X.cells) rfl (known_L (k := 0) rfl) rfl (by rw [X.len]; rfl)) .nil) (fun w1 hs1 => ?_); exact ⟨rfl, hs1.keep⟩
def tysN (k : Int) (ins : List Ty) (m : Nat) : List Ty := (List.range m).map fun i => inTy k 0 ins i
theorem begL_app : ∀ a b : List Ty, begL (a ++ b) = begL a + begL b
  | [], b => by rw [List.nil_append, begL, Int.zero_add]
  | x :: xs, b => by rw [List.cons_append, begL, begL, begL_app xs b, Int.add_assoc]
theorem begL_snoc (k : Int) (ins : List Ty) (i : Nat) : begL (tysN k ins (i + 1)) = begL (tysN k ins i) + begT (inTy k 0 ins i) := by
  unfold tysN
  rw [List.range_succ, List.map_append, begL_app, List.map_cons, List.map_nil, begL, begL, Int.add_zero]
theorem begT_le (x : Ty) : 1 ≤ begT x ∧ begT x ≤ 2251799813685248 := by
  unfold begT
  split
  · rename_i h
    obtain ⟨h1, h2⟩ := isFix_iff.1 h
    have h3 := siz_le x 0 (Int.le_refl _) h1 h2
    have h4 := bnd_le (show (5 - (0 : Int)).toNat ≤ 5 by decide)
    omega
  · omega
theorem begL_le : ∀ l : List Ty, 0 ≤ begL l ∧ begL l ≤ 2251799813685248 * l.length
  | [] => by rw [begL]; simp
  | x :: xs => by
    have h1 := begT_le x
    have h2 := begL_le xs
    rw [begL, List.length_cons]; omega
theorem tysN_len (k : Int) (ins : List Ty) (m : Nat) : (tysN k ins m).length = m := by unfold tysN; rw [List.length_map, List.length_range]
def iBlk (r : Nat) (m : Int) : Nat × Obj := (r, .cells #[.int .i64 m] 3 (0, 0))
set_option maxRecDepth 10000 in
theorem E_items (t : Ty) (m : Int) : PureE (α := Nat × Nat) Tryz.prog 121 [t.val, .int .i64 m].toArray (fun p => .func (.func 189) #[] #[pt0 p.2, pt0 p.1]) (fun p => [iBlk p.2 m, tBlk p.1 t]) := by
  obtain ⟨k, n, p, ins⟩ := t
  refine pureE_of_HC Tryz.func121 rfl rfl fun w => ?_; refine HC_seq fun K1 hK1 => ?_; refine HC_region ?_; refine HL_box (cs := #[_, _, _]) rfl rfl rfl rfl fun r1 => ?_; refine HL_box (cs := #[_]) rfl rfl rfl rfl fun r2 => ?_; refine HL_r rfl rfl rfl rfl (R_assign rfl) ?_; refine HL_nil ?_; refine HQ_then ?_; refine hK1 _ _ _ _ ?_; clear hK1 K1; refine HC_seq fun K2 hK2 => ?_; refine HC_region ?_; refine HL_r rfl rfl rfl rfl (R_makeFunc rfl rfl) ?_; refine HL_r rfl rfl rfl rfl (R_assign rfl) ?_; refine HL_nil ?_; refine HQ_then ?_; refine hK2 _ _ _ _ ?_; clear hK2 K2; refine HC_ret ?_; refine HQ_post rfl rfl (.cons (res_tmp rfl) .nil) (fun w1 hs1 => ?_); exact ⟨(r1, r2), rfl, hs1⟩
def itV (k : Int) (ins : List Ty) (i : Nat) : List Value := [.int .i64 (i : Int), (inTy k 0 ins i).val]
set_option maxRecDepth 10000 in
theorem I_items {R : List (Nat × Obj)} {k n : Int} {p : Pl} {ins : List Ty} {m : Nat} (ht : Ty.In R (.mk k n p ins)) (hm : m ≤ 1000000) (hx : ∀ i, i < m → inX k 0 i < ins.length) (rt ri : Nat) :
    Iter Tryz.prog 189 [pt0 ri, pt0 rt] (iBlk ri m :: tBlk rt (.mk k n p ins) :: R) 0 (nxN (itV k ins) m) (finN m) := by
  refine iter_of_HC Tryz.func189 rfl rfl fun q xids w2 XI XF hY => ?_; refine HC_seq fun K1 hK1 => ?_; refine HC_region ?_; refine HL_r rfl rfl rfl rfl (R_load (v := .int .i64 (m : Int)) rfl (known_R (k := 0) rfl) rfl rfl) ?_; refine HL_r rfl rfl rfl rfl (R_move rfl) ?_; refine HL_nil ?_; refine HQ_then ?_; refine hK1 _ _ _ _ ?_; clear hK1 K1; refine HC_block ?_; refine HC_loop (σ := Nat) (fun i => i ≤ m) (fun i => [(0, .func (.yield q) #[] #[]), (1, pt0 ri), (2, pt0 rt), (5, .int .i64 (m : Int)), (6, .int .i64 (i : Int))]) (fun _ => []) (fun i => XI i) (fun i => m - i) 0 (Nat.zero_le _) (.cons rfl (.cons rfl (.cons rfl (.cons rfl (.cons rfl .nil))))) (List.Sublist.refl _) (fun _ _ h => h) ?_; intro i hi; refine HC_seq fun K2 hK2 => ?_; refine HC_region ?_; refine HL_r rfl rfl rfl rfl (R_pure rfl rfl rfl) ?_; refine HL_nil ?_; refine HQ_then ?_; refine hK2 _ _ _ _ ?_; clear hK2 K2; refine HC_seq fun K3 hK3 => ?_; refine HC_cond rfl (fun h4 => ?_) (fun h4 => ?_)
  · try exact Bool.noConfusion h4
    try simp only [Z1, Z2, Z3, Z4, Z5, Z6, Z7, Z8, Z9, Z10, Z11, Z12, Z13] at h4
    refine HC_skip ?_; refine HQ_then ?_; refine hK3 _ _ _ _ ?_; clear hK3 K3; refine HC_seq fun K5 hK5 => ?_; refine HC_block ?_; refine HC_seq fun K6 hK6 => ?_; refine HC_region ?_; refine HL_r rfl rfl rfl rfl (R_move rfl) ?_; refine HL_r rfl rfl rfl rfl (R_assign rfl) ?_; refine HL_nil ?_; refine HQ_then ?_; refine hK6 _ _ _ _ ?_; clear hK6 K6; refine HC_seq fun K7 hK7 => ?_
    have hil : i < m := by omega
    refine HC_region ?_; refine HL_r rfl rfl rfl rfl (R_move rfl) ?_; refine HL_r rfl rfl rfl rfl (R_move rfl) ?_; refine HL_r rfl rfl rfl rfl (R_loadArr (xs := Ty.cells (.mk k n p ins)) (n := 3) rfl (known_R (k := 1) rfl) rfl rfl (Ty.len _)) ?_; refine HL_r rfl rfl rfl rfl (R_move rfl) ?_; refine HL_callR rfl rfl rfl (enters_of Tryz.func190 (by kernel_rfl) rfl) (S_sin ht (fun _ => Int.le_refl 0) (hx i hil)) (fun q hq => Or.inr (List.mem_cons_of_mem _ (List.mem_cons_of_mem _ hq))) ?_; refine HL_yield (XT := XI (i + 1)) (XF := XF) rfl rfl rfl rfl (hY i (itV k ins i) (i + 1) ⟨hil, rfl, rfl⟩) ?_ ?_
    all_goals refine HL_r rfl rfl rfl rfl (R_pure rfl rfl rfl) ?_
    all_goals refine HL_nil ?_
    all_goals (
     refine HQ_then ?_; refine hK7 _ _ _ _ ?_; clear hK7 K7; refine HC_cond rfl (fun h8 => ?_) (fun h8 => ?_)
     · try exact Bool.noConfusion h8
       all_goals try simp only [Z1, Z2, Z3, Z4, Z5, Z6, Z7, Z8, Z9, Z10, Z11, Z12, Z13] at h8
       all_goals (
        refine HC_ret ?_; refine HQ_blockR ?_; refine HQ_thenR ?_; clear hK5 K5; refine HQ_thenR ?_; refine HQ_blockR ?_; refine HQ_post rfl rfl .nil (fun w1 hs1 => ?_)
        obtain ⟨xs1, hx1⟩ := hs1.now
        exact ⟨⟨_, rfl⟩, hs1.keep, .inr ⟨_, hx1⟩⟩
        skip)
     · try exact Bool.noConfusion h8
       all_goals try simp only [Z1, Z2, Z3, Z4, Z5, Z6, Z7, Z8, Z9, Z10, Z11, Z12, Z13] at h8
       all_goals (
        refine HC_skip ?_; refine HQ_blockN ?_; refine HQ_then ?_; refine hK5 _ _ _ _ ?_; clear hK5 K5; refine HC_region ?_
        refine HL_r rfl rfl rfl rfl (R_pure rfl rfl rfl) ?_; refine HL_as (show _ = Value.int .i64 ((i + 1 : Nat) : Int) from by rw [wrap_i64 (by omega) (by omega)]; congr 1 <;> omega) ?_; refine HL_r rfl rfl rfl rfl (R_move rfl) ?_; refine HL_nil ?_; refine HQ_then ?_; exact HQ_again (i + 1) (by omega) (by omega) (.cons rfl (.cons rfl (.cons rfl (.cons rfl (.cons rfl .nil))))) (List.Sublist.refl _) (fun _ _ h => h)
        skip)
     skip)
  · try exact Bool.noConfusion h4
    try simp only [Z1, Z2, Z3, Z4, Z5, Z6, Z7, Z8, Z9, Z10, Z11, Z12, Z13] at h4
    refine HC_exit ?_; refine HQ_thenE ?_; clear hK3 K3; refine HQ_thenE ?_; refine HQ_blockE ?_; refine HQ_postN rfl rfl .nil (fun w1 hs1 => ?_)
    obtain ⟨xs1, hx1⟩ := hs1.now
    exact ⟨⟨_, rfl⟩, hs1.keep, .inl ⟨i, _, (by show i = m; omega), hx1⟩⟩
set_option maxRecDepth 10000 in
theorem S_sbegin {R : List (Nat × Obj)} {k n : Int} {p : Pl} {ins : List Ty} {m : Nat} (ht : Ty.In R (.mk k n p ins)) (hm : m ≤ 600) (hx : ∀ i, i < m → inX k 0 i < ins.length) : PureR Tryz.prog 120 [Ty.val (.mk k n p ins), .int .i64 (m : Int)].toArray (.int .i64 (begL (tysN k ins m))) R := by
  have hti := fun i h => ht.sub _ (inTy_get (hx i h)).2
  refine pureR_of_HC Tryz.func120 rfl rfl fun w => ?_; refine HC_seq fun K1 hK1 => ?_; refine HC_region ?_; refine HL_box (cs := #[_, _, _]) rfl rfl rfl rfl fun r1 => ?_; refine HL_r rfl rfl rfl rfl (R_assign rfl) ?_; refine HL_nil ?_; refine HQ_then ?_; refine hK1 _ _ _ _ ?_; clear hK1 K1; refine HC_seq fun K2 hK2 => ?_; refine HC_region ?_; refine HL_alloc (cs := #[_]) rfl rfl rfl rfl fun r2 => ?_
  refine HL_store (k := 0) rfl rfl rfl rfl rfl rfl rfl rfl (by first | (simp only [List.setIfInBounds_toArray, List.set_cons_zero, List.set_cons_succ]; exact rfl) | exact rfl) (by first | (simp only [List.set_cons_zero, List.set_cons_succ]; exact rfl) | exact rfl) ?_; refine HL_nil ?_; refine HQ_then ?_; refine hK2 _ _ _ _ ?_; clear hK2 K2; refine HC_seq fun K3 hK3 => ?_; refine HC_seq fun K4 hK4 => ?_; refine HC_region ?_; refine HL_r rfl rfl rfl rfl (R_loadA (vs := [_, _, _]) rfl (known_L (k := 1) rfl) rfl rfl rfl rfl) ?_; refine HL_r rfl rfl rfl rfl (R_move rfl) ?_; refine HL_callPE rfl rfl rfl (enters_of Tryz.func121 (by kernel_rfl) rfl) (E_items (.mk k n p ins) (m : Int)) fun pp => ?_
  obtain ⟨ra, rb⟩ := pp
  change HL _ _ _ (iBlk rb m :: tBlk ra (.mk k n p ins) :: _) _ _ _ _; refine HL_nil ?_; refine HQ_then ?_; refine hK4 _ _ _ _ ?_; clear hK4 K4; refine HC_block ?_; refine HC_sel [2, 0, 1, 3] (L' := [_, _, _, _]) (by decide) rfl ?_
  refine HC_rangeR (τ := Unit) (fun i (s : Nat) => i ≤ m ∧ i = s) (fun s => [(r2, .cells #[.int .i64 (begL (tysN k ins s))] 3 (0, 0))]) (fun _ _ => False) (fun _ => []) [iBlk rb m, tBlk ra (.mk k n p ins), _] 0 rfl rfl (enters_of Tryz.func189 (by kernel_rfl) rfl) (I_items ht (by omega) hx ra rb) (by rintro _ _ _ ⟨_, rfl, _⟩; rfl) rfl (fun q hq => by rcases List.mem_cons.1 hq with rfl | hq; exact .inl (by simp); rcases List.mem_cons.1 hq with rfl | hq; exact .inl (by simp); exact .inr hq) rfl ⟨Nat.zero_le _, rfl⟩ ?_ ?_ ?_
  · rintro q Xr Xb w3 i _ _ s ⟨hii, rfl, rfl⟩ ⟨him, rfl⟩ Kr hKr
    have hti1 := hti i hii
    have hb1 := begT_le (inTy k 0 ins i)
    have hb2 := begL_le (tysN k ins i)
    rw [tysN_len] at hb2
    unfold itV
    refine HC_region ?_; refine HL_alloc (cs := #[_, _, _]) rfl rfl rfl rfl fun r3 => ?_; refine HL_storeArr (k := 0) (n := 3) (ys := (inTy k 0 ins i).cells) rfl rfl rfl rfl rfl (inTy k 0 ins i).len rfl (inTy k 0 ins i).one rfl ?_; refine HL_nil ?_; refine HQ_then ?_; refine hKr _ _ ?_; clear hKr; refine HC_block ?_; refine HC_seq fun K5 hK5 => ?_; refine HC_region ?_; refine HL_r rfl rfl rfl rfl (R_loadArr (xs := (inTy k 0 ins i).cells) (n := 3) rfl (known_L (k := 0) rfl) rfl rfl (inTy k 0 ins i).len) ?_; refine HL_callR rfl rfl rfl (enters_of Tryz.func122 (by kernel_rfl) rfl) (S_ssize hti1) (fun q hq => Or.inr (List.mem_append_right _ hq)) ?_; refine HL_r rfl rfl rfl rfl (R_move rfl) ?_; refine HL_r rfl rfl rfl rfl (R_extract rfl rfl) ?_; refine HL_r rfl rfl rfl rfl (R_extract rfl rfl) ?_; refine HL_r rfl rfl rfl rfl (R_assign rfl) ?_; refine HL_r rfl rfl rfl rfl (R_assign rfl) ?_; refine HL_nil ?_; refine HQ_then ?_; refine hK5 _ _ _ _ ?_; clear hK5 K5; refine HC_region ?_; refine HL_r rfl rfl rfl rfl (R_load (v := .int .i64 (begL (tysN k ins i))) rfl (known_L (k := 1) rfl) rfl rfl) ?_; refine HL_r rfl rfl rfl rfl (R_move rfl) ?_; refine HL_r rfl rfl rfl rfl (R_pure rfl rfl rfl) ?_; refine HL_as (show _ = Value.int .i64 (begL (tysN k ins (i + 1))) from by rw [begL_snoc]; exact congrArg (Value.int .i64) (wrap_i64 (by omega) (by omega))) ?_; refine HL_store (k := 1) (cs' := #[.int .i64 (begL (tysN k ins (i + 1)))]) rfl rfl rfl rfl rfl rfl rfl rfl rfl rfl ?_; refine HL_nil ?_; refine HQ_blockN ?_; refine HQ_sel [1] (L' := [_]) (by decide) rfl ?_; refine HQ_round (i + 1) ⟨by omega, rfl⟩ rfl
  · rintro D i s hfi ⟨him, rfl⟩
    obtain rfl : m = i := Eq.symm hfi
    refine HQ_blockN ?_; refine HQ_then ?_; refine hK3 _ _ _ _ ?_; clear hK3 K3; refine HC_seq fun K6 hK6 => ?_; refine HC_region ?_; refine HL_r rfl rfl rfl rfl (R_load (v := .int .i64 (begL (tysN k ins m))) rfl (known_L (k := 1) rfl) rfl rfl) ?_; refine HL_r rfl rfl rfl rfl (R_assign rfl) ?_; refine HL_nil ?_; refine HQ_then ?_; refine hK6 _ _ _ _ ?_; clear hK6 K6; refine HC_ret ?_; refine HQ_mark (k := 0) rfl rfl ?_; refine HQ_post rfl rfl (.cons (res_tmp rfl) .nil) (fun w1 hs1 => ?_); exact ⟨rfl, hs1.keep⟩
  · exact fun _ _ _ h => h.elim
end Go.Proofs.YtlcbfphioeppaaaGreatDoor
namespace Go.Proofs.YtlcbfphioeppaaaGreatDoor
set_option linter.all false
open Go.SL Go.RowKit Go.Shelf
/-! ### Bytes turned round; bits, 8 a byte -/
set_option maxRecDepth 10000 in
theorem P_turned {s : BS} (hl : s.length ≤ 1000000) : Pure Tryz.prog 67 [strV s].toArray (strV s.reverse) := by
  refine pure_of_HC Tryz.func67 rfl rfl fun w => ?_; refine HC_seq fun K1 hK1 => ?_; refine HC_region ?_; refine HL_r rfl rfl rfl rfl (R_assign rfl) ?_; refine HL_nil ?_; refine HQ_then ?_; refine hK1 _ _ _ _ ?_; clear hK1 K1; refine HC_seq fun K2 hK2 => ?_; refine HC_region ?_; refine HL_r rfl rfl rfl rfl (R_move rfl) ?_; refine HL_strBytes rfl rfl rfl rfl rfl rfl fun rb kb => ?_
  obtain ⟨sp, hsp⟩ : ∃ sp, sp = List.replicate kb (Value.int .u8 0) := ⟨_, rfl⟩
  rw [← hsp]
  obtain ⟨fr, hfr⟩ : ∃ fr : Nat × Nat, fr = (s.length + kb, s.length + kb + 1) := ⟨_, rfl⟩
  rw [← hfr]
  have hfz : ∀ q, q < s.length → frB fr q = false := fun q hq => by rw [hfr]; simp [frB, Nat.blt, Nat.ble]; omega
  refine HL_r rfl rfl rfl rfl (R_assign rfl) ?_; refine HL_nil ?_; refine HQ_then ?_; refine hK2 _ _ _ _ ?_; clear hK2 K2; refine HC_seq fun K3 hK3 => ?_; refine HC_seq fun K4 hK4 => ?_; refine HC_region ?_; refine HL_r rfl rfl rfl rfl (R_move rfl) ?_; refine HL_r rfl rfl rfl rfl (R_lenSl rfl rfl) ?_; refine HL_r rfl rfl rfl rfl (R_pure rfl rfl rfl) ?_; refine HL_as (show _ = Value.int .i64 ((s.length : Int) - 1) from congrArg (Value.int .i64) (wrap_i64 (by omega) (by omega))) ?_; refine HL_r rfl rfl rfl rfl (R_assign rfl) ?_; refine HL_r rfl rfl rfl rfl (R_assign rfl) ?_; refine HL_nil ?_; refine HQ_then ?_; refine hK4 _ _ _ _ ?_; clear hK4 K4; refine HC_block ?_; refine HC_loop (σ := Nat) (fun i => 2 * i ≤ s.length + 1 ∧ 2 * i ≤ s.length) (fun i => [(3, .slice (some ⟨rb, 0, none⟩) s.length (s.length + kb)), (4, .int .i64 (i : Int)), (5, .int .i64 ((s.length : Int) - 1 - (i : Int)))]) (fun i => [(rb, .cells ((revS s i).map bV ++ sp).toArray 5 fr)]) (fun _ _ _ => True) (fun i => s.length - i) 0 ⟨by omega, by omega⟩ (.cons rfl (.cons rfl (.cons (by rw [show ((0 : Nat) : Int) = 0 from rfl, Int.sub_zero]; rfl) .nil))) (List.Sublist.refl _) (fun _ _ h => h) ?_; rintro i ⟨hi1, hi2⟩; refine HC_seq fun K5 hK5 => ?_; refine HC_seq fun K6 hK6 => ?_; refine HC_region ?_; refine HL_r rfl rfl rfl rfl (R_move rfl) ?_; refine HL_r rfl rfl rfl rfl (R_move rfl) ?_; refine HL_r rfl rfl rfl rfl (R_pure rfl rfl rfl) ?_; refine HL_nil ?_; refine HQ_then ?_; refine hK6 _ _ _ _ ?_; clear hK6 K6; refine HC_cond rfl (fun h7 => ?_) (fun h7 => ?_)
  · try exact Bool.noConfusion h7
    try simp only [Z1, Z2, Z3, Z4, Z5, Z6, Z7, Z8, Z9, Z10, Z11, Z12, Z13] at h7
    refine HC_skip ?_; refine HQ_then ?_; refine hK5 _ _ _ _ ?_; clear hK5 K5; refine HC_seq fun K8 hK8 => ?_; refine HC_block ?_
    have hii : i + 1 ≤ s.length - i := by omega
    obtain ⟨Y, hY⟩ : ∃ Y, Y = revS s i := ⟨_, rfl⟩
    have hYl : Y.length = s.length := by rw [hY]; exact revS_len s i
    rw [← hY]
    refine HC_drawB [] [(0, .pure), (1, .pure), (2, .pure), (3, .pure), (4, .pure), (5, .pure), (6, .pure), (8, .pure), (9, .pure), (10, .pure), (12, .pure), (13, .turn), (14, .pure), (15, .turn)] 16 [0, 1, 2, 3, 4, 5, 6, 7, 8, 9, 10, 11, 12, 13, 14, 15] (by kernel_rfl) (by kernel_rfl) (by first | exact (fun _ h => nomatch h) | simp [SubS] | (intro p hp; simp [hp])) ?_; refine HB_p (k := 0) rfl rfl rfl rfl rfl (fun _ hS => (R_move rfl)) ?_; refine HB_p (k := 1) rfl rfl rfl rfl rfl (fun _ hS => (R_move rfl)) ?_; refine HB_p (k := 2) rfl rfl rfl rfl rfl (fun _ hS => (R_move rfl)) ?_; refine HB_p (k := 3) rfl rfl rfl rfl rfl (fun _ hS => (R_move rfl)) ?_; refine HB_p (k := 4) rfl rfl rfl rfl rfl (fun _ hS => (R_move rfl)) ?_; refine HB_p (k := 5) rfl rfl rfl rfl rfl (fun _ hS => (R_move rfl)) ?_; refine HB_p (k := 6) rfl rfl rfl rfl rfl (fun _ _ => R_indexS (j := (s.length - 1 - i)) (m := 1) (off' := (s.length - 1 - i)) rfl rfl rfl rfl (by omega) (by omega) (by omega)) ?_; refine HB_r (k := 7) rfl rfl rfl rfl rfl (R_load rfl (known_L (k := 0) rfl) rfl (nth_row (xs := Y.map bV) (v := bV (Y.getD (s.length - 1 - i) 0)) (mapV_get (by omega)))) ?_; refine HB_p (k := 8) rfl rfl rfl rfl rfl (fun _ hS => (R_move rfl)) ?_; refine HB_p (k := 9) rfl rfl rfl rfl rfl (fun _ hS => (R_move rfl)) ?_; refine HB_p (k := 10) rfl rfl rfl rfl rfl (fun _ _ => R_indexS (j := i) (m := 1) (off' := i) rfl rfl rfl rfl (by omega) (by omega) (by omega)) ?_; refine HB_r (k := 11) rfl rfl rfl rfl rfl (R_load rfl (known_L (k := 0) rfl) rfl (nth_row (xs := Y.map bV) (v := bV (Y.getD (i) 0)) (mapV_get (by omega)))) ?_; refine HB_p (k := 12) rfl rfl rfl rfl rfl (fun _ _ => R_indexS (j := i) (m := 1) (off' := i) rfl rfl rfl rfl (by omega) (by omega) (by omega)) ?_; refine HB_storeF (k := 13) (q := 0) (cs' := ((Y.set i (Y.getD (s.length - 1 - i) 0)).map bV ++ sp).toArray) rfl rfl rfl rfl rfl rfl rfl rfl (hfz _ (by omega)) (by simp; omega) (set_mapV (by omega)) rfl (fun _ h => nomatch h) ?_; refine HB_p (k := 14) rfl rfl rfl rfl rfl (fun _ _ => R_indexS (j := (s.length - 1 - i)) (m := 1) (off' := (s.length - 1 - i)) rfl rfl rfl rfl (by omega) (by omega) (by omega)) ?_; refine HB_storeF (k := 15) (q := 0) (cs' := ((revS s (i + 1)).map bV ++ sp).toArray) rfl rfl rfl rfl rfl rfl rfl rfl (hfz _ (by omega)) (by simp; omega) (by rw [set_mapV (by rw [List.length_set]; omega), revS, ← hY]) rfl (fun _ h => nomatch h) ?_; refine HB_end ?_; refine HL_nil ?_; refine HQ_blockN ?_; refine HQ_then ?_; refine hK8 _ _ _ _ ?_; clear hK8 K8; refine HC_region ?_; refine HL_r rfl rfl rfl rfl (R_move rfl) ?_; refine HL_r rfl rfl rfl rfl (R_pure rfl rfl rfl) ?_; refine HL_wrap_i64 (by omega) (by omega) ?_; refine HL_r rfl rfl rfl rfl (R_move rfl) ?_
    refine HL_r rfl rfl rfl rfl (R_pure rfl rfl rfl) ?_; refine HL_as (show _ = Value.int .i64 ((s.length : Int) - 1 - ((i + 1 : Nat) : Int)) from by rw [wrap_i64 (by omega) (by omega)]; congr 1 <;> omega) ?_; refine HL_r rfl rfl rfl rfl (R_assign rfl) ?_; refine HL_r rfl rfl rfl rfl (R_assign rfl) ?_; refine HL_nil ?_; refine HQ_then ?_; exact HQ_again (i + 1) ⟨by omega, by omega⟩ (by omega) (.cons rfl (.cons rfl (.cons rfl .nil))) (List.Sublist.refl _) (fun _ _ h => h)
  · try exact Bool.noConfusion h7
    try simp only [Z1, Z2, Z3, Z4, Z5, Z6, Z7, Z8, Z9, Z10, Z11, Z12, Z13] at h7
    refine HC_exit ?_; refine HQ_thenE ?_; clear hK5 K5; refine HQ_thenE ?_; refine HQ_blockE ?_; refine HQ_then ?_; refine hK3 _ _ _ _ ?_; clear hK3 K3; refine HC_seq fun K9 hK9 => ?_; rw [revS_rev (xs := s) (i := i) (by omega) (by omega)]; refine HC_region ?_; refine HL_r rfl rfl rfl rfl (R_move rfl) ?_; refine HL_r rfl rfl rfl rfl (R_bytesStrG (b := s.reverse) rfl (known_L (k := 0) rfl) (by rw [List.length_reverse]) (by simp only [List.toList_toArray]; rw [List.take_left' (by rw [List.length_map])]) rfl rfl rfl) ?_; refine HL_r rfl rfl rfl rfl (R_assign rfl) ?_; refine HL_nil ?_; refine HQ_then ?_; refine hK9 _ _ _ _ ?_; clear hK9 K9; refine HC_ret ?_; refine HQ_post rfl rfl (.cons (res_tmp rfl) .nil) (fun w1 hs1 => ?_); exact ⟨rfl, hs1.keep⟩
theorem set_mapV0 {Y : BS} {i : Nat} {b : UInt8} : (Y.map bV).toArray.setIfInBounds i (bV b) = ((Y.set i b).map bV).toArray := by
  rw [List.setIfInBounds_toArray, List.map_set]
theorem or_byte (x : UInt8) {m : Nat} (hm : m < 8) : Value.int .u8 ((x.toNat ||| 2 ^ m : Nat) : Int) = bV (UInt8.ofNat (x.toNat ||| 2 ^ m)) := bV_of (or_lt (u8_lt x) hm)
theorem shl_u8 {m : Nat} (hm : m < 8) : IntKind.u8.wrap (1 * ((2 ^ m : Nat) : Int)) = ((2 ^ m : Nat) : Int) := by
  have h : 2 ^ m ≤ 128 := Nat.pow_le_pow_right (n := 2) (i := m) (j := 7) (by decide) (by omega)
  generalize 2 ^ m = q at h ⊢
  rw [Int.one_mul]; exact wrap_u8 (by omega) (by omega)
set_option maxRecDepth 10000 in
theorem S_pack {R : List (Nat × Obj)} {l : List Bool} {g : FuncId} {caps : List Value} (hl : l.length ≤ 1000000) (eg : Enters Tryz.prog g) (hg : ∀ i, i < l.length → PureR Tryz.prog g (Value.int .i64 (i : Int) :: caps).toArray (.bool (l.getD i false)) R) :
    PureR Tryz.prog 69 [.int .i64 (l.length : Int), .func (.func g) #[] caps.toArray].toArray (strV (packB l)) R := by
  obtain ⟨N, hN⟩ : ∃ N, N = (l.length + 7) / 8 := ⟨_, rfl⟩
  have hpB : packB l = packS l N l.length := by rw [hN]; rfl
  refine pureR_of_HC Tryz.func69 rfl rfl fun w => ?_; refine HC_seq fun K1 hK1 => ?_; refine HC_region ?_; refine HL_r rfl rfl rfl rfl (R_assign rfl) ?_; refine HL_nil ?_; refine HQ_then ?_; refine hK1 _ _ _ _ ?_; clear hK1 K1; refine HC_seq fun K2 hK2 => ?_; refine HC_region ?_; refine HL_r rfl rfl rfl rfl (R_move rfl) ?_
  refine HL_r rfl rfl rfl rfl (R_pure rfl rfl rfl) ?_; refine HL_as (show _ = Value.int .i64 ((l.length + 8 : Nat) : Int) from by rw [wrap_i64 (by omega) (by omega)]; congr 1 <;> omega) ?_
  refine HL_r rfl rfl rfl rfl (R_pure rfl rfl rfl) ?_; refine HL_as (show _ = Value.int .i64 ((l.length + 7 : Nat) : Int) from by rw [wrap_i64 (by omega) (by omega)]; congr 1 <;> omega) ?_; refine HL_r rfl rfl rfl rfl (R_pure rfl rfl rfl) ?_; refine HL_as (show _ = Value.int .i64 ((N : Nat) : Int) from congrArg (Value.int .i64) (by rw [quo_i64 (by omega) (by decide) (by omega), hN]; rfl)) ?_; refine HL_make (n := N) (b := 1) rfl rfl rfl rfl rfl rfl rfl rfl rfl (by omega) (by omega) fun rm => ?_; rw [show List.replicate N (Value.int .u8 0) = (packS l N 0).map bV from by rw [packS, List.map_replicate]; rfl]; refine HL_r rfl rfl rfl rfl (R_assign rfl) ?_; refine HL_nil ?_; refine HQ_then ?_; refine hK2 _ _ _ _ ?_; clear hK2 K2; refine HC_seq fun K3 hK3 => ?_; refine HC_seq fun K4 hK4 => ?_; refine HC_region ?_; refine HL_r rfl rfl rfl rfl (R_move rfl) ?_; refine HL_r rfl rfl rfl rfl (R_move rfl) ?_; refine HL_nil ?_; refine HQ_then ?_; refine hK4 _ _ _ _ ?_; clear hK4 K4; refine HC_block ?_; refine HC_loop (σ := Nat) (fun i => i ≤ l.length) (fun i => [(1, .func (.func g) #[] caps.toArray), (5, .slice (some ⟨rm, 0, none⟩) N N), (12, .int .i64 (l.length : Int)), (13, .int .i64 (i : Int))]) (fun i => [(rm, .cells ((packS l N i).map bV).toArray 5 (0, 0))]) (fun _ _ _ => True) (fun i => l.length - i) 0 (Nat.zero_le _) (.cons rfl (.cons rfl (.cons rfl (.cons rfl .nil)))) (List.Sublist.refl _) (fun _ _ h => h) ?_; intro i hi1; refine HC_seq fun K5 hK5 => ?_; refine HC_region ?_; refine HL_r rfl rfl rfl rfl (R_pure rfl rfl rfl) ?_; refine HL_nil ?_; refine HQ_then ?_; refine hK5 _ _ _ _ ?_; clear hK5 K5; refine HC_seq fun K6 hK6 => ?_; refine HC_cond rfl (fun h7 => ?_) (fun h7 => ?_)
  · try exact Bool.noConfusion h7
    try simp only [Z1, Z2, Z3, Z4, Z5, Z6, Z7, Z8, Z9, Z10, Z11, Z12, Z13] at h7
    refine HC_skip ?_; refine HQ_then ?_; refine hK6 _ _ _ _ ?_; clear hK6 K6; refine HC_seq fun K8 hK8 => ?_; refine HC_block ?_; refine HC_seq fun K9 hK9 => ?_
    have hil : i < l.length := by omega
    have hi8 : i / 8 < N := by omega
    refine HC_region ?_; refine HL_r rfl rfl rfl rfl (R_move rfl) ?_; refine HL_r rfl rfl rfl rfl (R_assign rfl) ?_; refine HL_nil ?_; refine HQ_then ?_; refine hK9 _ _ _ _ ?_; clear hK9 K9; refine HC_seq fun K10 hK10 => ?_; refine HC_region ?_; refine HL_r rfl rfl rfl rfl (R_move rfl) ?_; refine HL_r rfl rfl rfl rfl (R_move rfl) ?_; refine HL_callR rfl rfl rfl eg (hg i hil) (fun q hq => Or.inr hq) ?_; refine HL_nil ?_; refine HQ_then ?_; refine hK10 _ _ _ _ ?_; clear hK10 K10; refine HC_cond rfl (fun h11 => ?_) (fun h11 => ?_)
    · try exact Bool.noConfusion h11
      try simp only [Z1, Z2, Z3, Z4, Z5, Z6, Z7, Z8, Z9, Z10, Z11, Z12, Z13] at h11
      have hbt : l.getD i false = true := by assumption
      have hst1 : packS l N (i + 1) = (packS l N i).set (i / 8) (UInt8.ofNat (((packS l N i).getD (i / 8) 0).toNat ||| 2 ^ (i % 8))) := by rw [packS, if_pos hbt]
      obtain ⟨Y, hY⟩ : ∃ Y, Y = packS l N i := ⟨_, rfl⟩
      have hYl : Y.length = N := by rw [hY]; exact packS_len l N i
      rw [← hY] at hst1 ⊢
      refine HC_drawB [] [(0, .pure), (1, .pure), (2, .pure), (3, .pure), (5, .pure), (6, .pure), (7, .pure), (8, .pure), (9, .pure), (10, .turn)] 11 [0, 1, 2, 3, 4, 5, 6, 7, 8, 9, 10] (by kernel_rfl) (by kernel_rfl) (by first | exact (fun _ h => nomatch h) | simp [SubS] | (intro p hp; simp [hp])) ?_; refine HB_p (k := 0) rfl rfl rfl rfl rfl (fun _ hS => (R_move rfl)) ?_; refine HB_p (k := 1) rfl rfl rfl rfl rfl (fun _ hS => (R_move rfl)) ?_
      refine HB_p (k := 2) rfl rfl rfl rfl rfl (fun _ _ => (R_pure rfl rfl rfl)) ?_; refine HB_as (show _ = Value.int .i64 ((i / 8 : Nat) : Int) from congrArg (Value.int .i64) (by first | exact rem_nat _ _ | exact quo_i64 (by omega) (by decide) (by omega))) ?_; refine HB_p (k := 3) rfl rfl rfl rfl rfl (fun _ _ => R_indexS (j := (i / 8)) (m := 1) (off' := (i / 8)) rfl rfl rfl rfl (by omega) (by omega) (by omega)) ?_; refine HB_r (k := 4) rfl rfl rfl rfl rfl (R_load rfl (known_L (k := 0) rfl) rfl (by rw [nth_eq]; exact mapV_get (by omega))) ?_; refine HB_p (k := 5) rfl rfl rfl rfl rfl (fun _ hS => (R_move rfl)) ?_
      refine HB_p (k := 6) rfl rfl rfl rfl rfl (fun _ _ => (R_pure rfl rfl rfl)) ?_; refine HB_as (show _ = Value.int .i64 ((i % 8 : Nat) : Int) from congrArg (Value.int .i64) (by first | exact rem_nat _ _ | exact quo_i64 (by omega) (by decide) (by omega))) ?_; refine HB_p (k := 7) rfl rfl rfl rfl rfl (fun _ _ => R_shl (n := i % 8) (b := ((2 ^ (i % 8) : Nat) : Int)) rfl rfl rfl (show _ ≤ 8 from by omega) (shl_u8 (by omega))) ?_; refine HB_p (k := 8) rfl rfl rfl rfl rfl (fun _ _ => R_bits8 (op := .or) (m := (Y.getD (i / 8) 0).toNat) (n := 2 ^ (i % 8)) rfl rfl rfl (u8_lt _) (Nat.pow_lt_pow_right (by decide) (by omega) : 2 ^ (i % 8) < 2 ^ 8) rfl) ?_; refine HB_as (or_byte _ (by omega)) ?_; refine HB_p (k := 9) rfl rfl rfl rfl rfl (fun _ _ => R_indexS (j := (i / 8)) (m := 1) (off' := (i / 8)) rfl rfl rfl rfl (by omega) (by omega) (by omega)) ?_; refine HB_store (k := 10) (q := 0) (cs' := ((packS l N (i + 1)).map bV).toArray) rfl rfl rfl rfl rfl rfl rfl rfl (by simp; omega) (by rw [set_mapV0, hst1]) rfl (fun _ h => nomatch h) ?_; refine HB_end ?_; refine HL_nil ?_; refine HQ_blockN ?_; refine HQ_then ?_; refine hK8 _ _ _ _ ?_; clear hK8 K8; refine HC_region ?_
      refine HL_r rfl rfl rfl rfl (R_pure rfl rfl rfl) ?_; refine HL_as (show _ = Value.int .i64 ((i + 1 : Nat) : Int) from by rw [wrap_i64 (by omega) (by omega)]; congr 1 <;> omega) ?_; refine HL_r rfl rfl rfl rfl (R_move rfl) ?_; refine HL_nil ?_; refine HQ_then ?_; exact HQ_again (i + 1) (by omega) (by omega) (.cons rfl (.cons rfl (.cons rfl (.cons rfl .nil)))) (List.Sublist.refl _) (fun _ _ h => h)
    · try exact Bool.noConfusion h11
      try simp only [Z1, Z2, Z3, Z4, Z5, Z6, Z7, Z8, Z9, Z10, Z11, Z12, Z13] at h11
      refine HC_skip ?_; refine HQ_blockN ?_; refine HQ_then ?_; refine hK8 _ _ _ _ ?_; clear hK8 K8; refine HC_region ?_
      refine HL_r rfl rfl rfl rfl (R_pure rfl rfl rfl) ?_; refine HL_as (show _ = Value.int .i64 ((i + 1 : Nat) : Int) from by rw [wrap_i64 (by omega) (by omega)]; congr 1 <;> omega) ?_; refine HL_r rfl rfl rfl rfl (R_move rfl) ?_; refine HL_nil ?_; refine HQ_then ?_
      (have hst0 : packS l N (i + 1) = packS l N i := by rw [packS, if_neg (by simp_all)]
       exact HQ_again (i + 1) (by omega) (by omega) (.cons rfl (.cons rfl (.cons rfl (.cons rfl .nil)))) (by rw [hst0]; exact List.Sublist.refl _) (fun _ _ h => h))
  · try exact Bool.noConfusion h7
    try simp only [Z1, Z2, Z3, Z4, Z5, Z6, Z7, Z8, Z9, Z10, Z11, Z12, Z13] at h7
    refine HC_exit ?_; refine HQ_thenE ?_; clear hK6 K6; refine HQ_thenE ?_; refine HQ_blockE ?_; refine HQ_then ?_; refine hK3 _ _ _ _ ?_; clear hK3 K3; refine HC_seq fun K12 hK12 => ?_
    obtain rfl : i = l.length := by omega
    refine HC_region ?_; refine HL_r rfl rfl rfl rfl (R_move rfl) ?_; refine HL_r rfl rfl rfl rfl (R_bytesStr (b := packS l N l.length) (row := some (rm, N, [])) (e := 5) (show _ = some (rowV (packS l N l.length).length _) from by rw [packS_len]; rfl) ⟨by rw [List.length_map]; omega, by rw [packS_len]; simp⟩ (fun p hp => .inl (by rw [List.mem_singleton.1 hp, List.append_nil]; exact List.mem_cons_self)) rfl rfl rfl) ?_; refine HL_r rfl rfl rfl rfl (R_assign rfl) ?_; refine HL_nil ?_; refine HQ_then ?_; refine hK12 _ _ _ _ ?_; clear hK12 K12; refine HC_ret ?_; refine HQ_post rfl rfl (.cons (res_tmp rfl) .nil) (fun w1 hs1 => ?_); refine ⟨?_, hs1.keep⟩; rw [hpB]; rfl
end Go.Proofs.YtlcbfphioeppaaaGreatDoor
namespace Go.Proofs.YtlcbfphioeppaaaGreatDoor
set_option linter.all false
open Go.SL Go.RowKit Go.Shelf
/-! ### The bits of a value; the reference's bytes of bits -/
set_option maxRecDepth 10000 in
theorem S_b1 {R : List (Nat × Obj)} {a b c d : Nat} {bits : List Bool} {pb : Pl} {items : List Vl} {pi : Pl} {pick : Int} (hsb : Seg R bits.length (bitsC bits) pb) (hl : bits.length ≤ 9223372036854775807) (rv : Nat) {i : Nat} (hi : i < bits.length) :
    PureR Tryz.prog 70 [.int .i64 (i : Int), pt0 rv].toArray (.bool (bits.getD i false)) (vBlk rv (.mk a b c d bits pb items pi pick) :: R) := by
  have hsb := hsb.mono (R' := vBlk rv (.mk a b c d bits pb items pi pick) :: R) fun q hq => List.mem_cons_of_mem _ hq
  have hy : bits[i]? = some (bits.getD i false) := by rw [List.getD_eq_getElem?_getD, List.getElem?_eq_getElem hi]; rfl
  generalize bits.getD i false = y at hy ⊢
  refine pureR_of_HC Tryz.func70 rfl rfl fun w => ?_; refine HC_seq fun K1 hK1 => ?_; refine HC_region ?_; refine HL_r rfl rfl rfl rfl (R_assign rfl) ?_; refine HL_nil ?_; refine HQ_then ?_; refine hK1 _ _ _ _ ?_; clear hK1 K1; refine HC_seq fun K2 hK2 => ?_; refine HC_region ?_
  refine HL_r rfl rfl rfl rfl (R_fieldAddr rfl rfl (by first | (simp only [Nat.zero_add, Nat.reduceAdd, Nat.reduceMul, Nat.zero_mul, Nat.mul_one, Nat.add_zero]; exact rfl) | exact rfl)) ?_; refine HL_r rfl rfl rfl rfl (R_load rfl (known_R (k := 0) rfl) rfl rfl) ?_; refine HL_r rfl rfl rfl rfl (R_move rfl) ?_
  refine HL_r rfl rfl rfl rfl (R_indexPl (j := i) rfl hsb rfl rfl rfl (by first | rfl | omega) (by omega)) ?_; refine HL_r rfl rfl rfl rfl (R_loadBit (fun q hq => Or.inr hq) rfl hsb hy rfl) ?_; refine HL_r rfl rfl rfl rfl (R_assign rfl) ?_; refine HL_nil ?_; refine HQ_then ?_; refine hK2 _ _ _ _ ?_; clear hK2 K2; refine HC_ret ?_; refine HQ_post rfl rfl (.cons (res_tmp rfl) .nil) (fun w1 hs1 => ?_); exact ⟨rfl, hs1.keep⟩
set_option maxRecDepth 10000 in
theorem S_b2 {R : List (Nat × Obj)} {a b c d : Nat} {bits : List Bool} {pb : Pl} {items : List Vl} {pi : Pl} {pick : Int} (hsb : Seg R bits.length (bitsC bits) pb) (hl : bits.length ≤ 9223372036854775807) (rn rv : Nat) {i : Nat} (hi : i < (bits ++ [true]).length) :
    PureR Tryz.prog 71 [.int .i64 (i : Int), pt0 rn, pt0 rv].toArray (.bool ((bits ++ [true]).getD i false)) (iBlk rn bits.length :: vBlk rv (.mk a b c d bits pb items pi pick) :: R) := by
  have hsb := hsb.mono (R' := iBlk rn bits.length :: vBlk rv (.mk a b c d bits pb items pi pick) :: R) fun q hq => List.mem_cons_of_mem _ (List.mem_cons_of_mem _ hq)
  rw [List.length_append] at hi; simp only [List.length_cons, List.length_nil] at hi
  by_cases he : i = bits.length
  · have hv : (bits ++ [true]).getD i false = true := by rw [List.getD_eq_getElem?_getD, List.getElem?_append_right (by omega), he, Nat.sub_self]; rfl
    rw [hv]; refine pureR_of_HC Tryz.func71 rfl rfl fun w => ?_; refine HC_seq fun K1 hK1 => ?_; refine HC_region ?_; refine HL_r rfl rfl rfl rfl (R_assign rfl) ?_; refine HL_nil ?_; refine HQ_then ?_; refine hK1 _ _ _ _ ?_; clear hK1 K1; refine HC_seq fun K2 hK2 => ?_; refine HC_region ?_; refine HL_r rfl rfl rfl rfl (R_move rfl) ?_; refine HL_r rfl rfl rfl rfl (R_load (v := .int .i64 (bits.length : Int)) rfl (known_R (k := 0) rfl) rfl rfl) ?_; refine HL_r rfl rfl rfl rfl (R_pure rfl rfl rfl) ?_; refine HL_as (show _ = Value.bool true from bool_eq' (ieqT (by rw [he]))) ?_; refine HL_r rfl rfl rfl rfl (R_move rfl) ?_; refine HL_skip rfl rfl rfl ?_; refine HL_skip rfl rfl rfl ?_; refine HL_skip rfl rfl rfl ?_; refine HL_skip rfl rfl rfl ?_; refine HL_skip rfl rfl rfl ?_; refine HL_r rfl rfl rfl rfl (R_pickT rfl rfl) ?_; refine HL_r rfl rfl rfl rfl (R_assign rfl) ?_; refine HL_nil ?_; refine HQ_then ?_; refine hK2 _ _ _ _ ?_; clear hK2 K2; refine HC_ret ?_; refine HQ_post rfl rfl (.cons (res_tmp rfl) .nil) (fun w1 hs1 => ?_); exact ⟨rfl, hs1.keep⟩
  · have hy : bits[i]? = some (bits.getD i false) := by rw [List.getD_eq_getElem?_getD, List.getElem?_eq_getElem (by omega)]; rfl
    have hv : (bits ++ [true]).getD i false = bits.getD i false := by rw [List.getD_eq_getElem?_getD, List.getElem?_append_left (by omega), List.getD_eq_getElem?_getD]
    rw [hv]
    generalize bits.getD i false = y at hy ⊢
    have hne : ((i : Int) == (bits.length : Int)) = false := by simp; omega
    refine pureR_of_HC Tryz.func71 rfl rfl fun w => ?_; refine HC_seq fun K1 hK1 => ?_; refine HC_region ?_; refine HL_r rfl rfl rfl rfl (R_assign rfl) ?_; refine HL_nil ?_; refine HQ_then ?_; refine hK1 _ _ _ _ ?_; clear hK1 K1; refine HC_seq fun K2 hK2 => ?_; refine HC_region ?_; refine HL_r rfl rfl rfl rfl (R_move rfl) ?_; refine HL_r rfl rfl rfl rfl (R_load (v := .int .i64 (bits.length : Int)) rfl (known_R (k := 0) rfl) rfl rfl) ?_; refine HL_r rfl rfl rfl rfl (R_pure rfl rfl rfl) ?_; refine HL_as (show _ = Value.bool false from bool_eq' (hne)) ?_; refine HL_r rfl rfl rfl rfl (R_move rfl) ?_
    refine HL_r rfl rfl rfl rfl (R_fieldAddr rfl rfl (by first | (simp only [Nat.zero_add, Nat.reduceAdd, Nat.reduceMul, Nat.zero_mul, Nat.mul_one, Nat.add_zero]; exact rfl) | exact rfl)) ?_; refine HL_r rfl rfl rfl rfl (R_load rfl (known_R (k := 1) rfl) rfl rfl) ?_; refine HL_r rfl rfl rfl rfl (R_move rfl) ?_
    refine HL_r rfl rfl rfl rfl (R_indexPl (j := i) rfl hsb rfl rfl rfl (by first | rfl | omega) (by omega)) ?_; refine HL_r rfl rfl rfl rfl (R_loadBit (fun q hq => Or.inr hq) rfl hsb hy rfl) ?_; refine HL_r rfl rfl rfl rfl (R_pickF rfl rfl) ?_; refine HL_r rfl rfl rfl rfl (R_assign rfl) ?_; refine HL_nil ?_; refine HQ_then ?_; refine hK2 _ _ _ _ ?_; clear hK2 K2; refine HC_ret ?_; refine HQ_post rfl rfl (.cons (res_tmp rfl) .nil) (fun w1 hs1 => ?_); exact ⟨rfl, hs1.keep⟩
end Go.Proofs.YtlcbfphioeppaaaGreatDoor
namespace Go.Proofs.YtlcbfphioeppaaaGreatDoor
set_option linter.all false
open Go.SL Go.RowKit Go.Shelf
/-! ### Rows of bytes -/
theorem inTy_n8 {k : Int} (h8 : k ≠ 8) (pick : Int) (ins : List Ty) (i : Nat) : inTy k pick ins i = inTy k 0 ins i := by
  unfold inTy inX; split
  · rfl
  · simp [h8]
theorem putL_n8 {k : Int} (h8 : k ≠ 8) (pick : Int) (ins : List Ty) : ∀ (l : List Vl) (i : Nat), putL l k pick ins i = putL l k 0 ins i
  | [], i => by rw [putL, putL]
  | x :: xs, i => by rw [putL, putL, putL_n8 h8 pick ins xs (i + 1), inTy_n8 h8]
theorem putL_tys {k : Int} (ins : List Ty) : ∀ (l : List Vl) (i : Nat), (putL l k 0 ins i).map Prod.fst = (List.range' i l.length).map fun j => inTy k 0 ins j
  | [], i => by rw [putL]; rfl
  | x :: xs, i => by
    rw [putL, List.map_cons, putL_tys ins xs (i + 1), List.length_cons, List.range'_succ, List.map_cons]
theorem tysN_put (k : Int) (ins : List Ty) (l : List Vl) : (putL l k 0 ins 0).map Prod.fst = tysN k ins l.length := by
  rw [putL_tys]; unfold tysN; rw [List.range_eq_range']
theorem perm_x3 {α : Type} (A : List α) (x : α) (B : List α) : (A ++ x :: B).Perm (B ++ (A ++ [x])) := by
  rw [show A ++ x :: B = (A ++ [x]) ++ B by simp]; exact List.perm_append_comm
def restB (l : List (Ty × BS)) : Nat := (l.map fun p => p.2.length + 4).sum
theorem restB_cons (p : Ty × BS) (l : List (Ty × BS)) : restB (p :: l) = p.2.length + 4 + restB l := by unfold restB; rw [List.map_cons, List.sum_cons]
theorem bOk_nil : bOk [] none := ⟨⟨rfl, rfl⟩, fun _ => rfl⟩
set_option maxHeartbeats 1000000 in
set_option maxRecDepth 10000 in
theorem S_srow {R : List (Nat × Obj)} {k n : Int} {p : Pl} {ins : List Ty} {items : List Vl} {pi : Pl} {B : Nat} (ht : Ty.In R (.mk k n p ins)) (hs : Seg R items.length (vlsC items) pi) (hl : items.length ≤ 600) (hx : ∀ i, i < items.length → inX k 0 i < ins.length)
    (hb : ∀ (i : Nat) x, items[i]? = some x → PureR Tryz.prog 37 [(inTy k 0 ins i).val, x.val].toArray (strV (putV x (inTy k 0 ins i))) R) (hB : restB (putL items k 0 ins 0) ≤ B) (hB2 : B ≤ 900000) :
    PureR Tryz.prog 72 [Ty.val (.mk k n p ins), plV items.length pi].toArray (strV (rowF (begL (tysN k ins items.length)).toNat (putL items k 0 ins 0) [] [])) R := by
  have hti := fun i h => ht.sub _ (inTy_get (hx i h)).2
  have hbg := S_sbegin ht hl hx
  have hbl := begL_le (tysN k ins items.length)
  rw [tysN_len] at hbl
  obtain ⟨H, hH⟩ : ∃ H, H = (begL (tysN k ins items.length)).toNat := ⟨_, rfl⟩
  have hHi : begL (tysN k ins items.length) = (H : Int) := by omega
  have hHb : H ≤ 1351079888211148800 := by omega
  rw [hHi] at hbg; rw [← hH]
  obtain ⟨TOT, hTOT⟩ : ∃ T, T = rowF H (putL items k 0 ins 0) [] [] := ⟨_, rfl⟩
  rw [← hTOT]; refine pureR_of_HC Tryz.func72 rfl rfl fun w => ?_; refine HC_seq fun K1 hK1 => ?_; refine HC_region ?_; refine HL_box (cs := #[_, _, _]) rfl rfl rfl rfl fun r1 => ?_; refine HL_box (cs := #[_]) rfl rfl rfl rfl fun r2 => ?_; refine HL_r rfl rfl rfl rfl (R_assign rfl) ?_; refine HL_nil ?_; refine HQ_then ?_; refine hK1 _ _ _ _ ?_; clear hK1 K1; refine HC_seq fun K2 hK2 => ?_; refine HC_region ?_; refine HL_alloc (cs := #[_, _]) rfl rfl rfl rfl fun r3 => ?_; refine HL_alloc (cs := #[_, _]) rfl rfl rfl rfl fun r4 => ?_; refine HL_nil ?_; refine HQ_then ?_; refine hK2 _ _ _ _ ?_; clear hK2 K2; refine HC_seq fun K3 hK3 => ?_; refine HC_region ?_; refine HL_r rfl rfl rfl rfl (R_loadA (vs := [_, _, _]) rfl (known_L (k := 3) rfl) rfl rfl rfl rfl) ?_; refine HL_r rfl rfl rfl rfl (R_load rfl (known_L (k := 2) rfl) rfl rfl) ?_; refine HL_r rfl rfl rfl rfl (R_lenPl rfl hs rfl) ?_; refine HL_callR rfl rfl rfl (enters_of Tryz.func120 (by kernel_rfl) rfl) hbg (fun q hq => Or.inr hq) ?_; refine HL_alloc (cs := #[_]) rfl rfl rfl rfl fun r5 => ?_
  refine HL_store (k := 0) rfl rfl rfl rfl rfl rfl rfl rfl (by first | (simp only [List.setIfInBounds_toArray, List.set_cons_zero, List.set_cons_succ]; exact rfl) | exact rfl) (by first | (simp only [List.set_cons_zero, List.set_cons_succ]; exact rfl) | exact rfl) ?_; refine HL_nil ?_; refine HQ_then ?_; refine hK3 _ _ _ _ ?_; clear hK3 K3; refine HC_seq fun K4 hK4 => ?_; refine HC_seq fun K5 hK5 => ?_; refine HC_region ?_; refine HL_r rfl rfl rfl rfl (R_loadA (vs := [_, _, _]) rfl (known_L (k := 4) rfl) rfl rfl rfl rfl) ?_; refine HL_r rfl rfl rfl rfl (R_load rfl (known_L (k := 3) rfl) rfl rfl) ?_; refine HL_r rfl rfl rfl rfl (R_lenPl rfl hs rfl) ?_; refine HL_callPE rfl rfl rfl (enters_of Tryz.func121 (by kernel_rfl) rfl) (E_items (.mk k n p ins) (items.length : Int)) fun pp => ?_
  obtain ⟨ra, rb⟩ := pp
  change HL _ _ _ (iBlk rb items.length :: tBlk ra (.mk k n p ins) :: _) _ _ _ _; refine HL_nil ?_; refine HQ_then ?_; refine hK5 _ _ _ _ ?_; clear hK5 K5; refine HC_block ?_; refine HC_sel [4, 3, 0, 1, 2, 5, 6] (L' := [bldB r3 [] none false, bldB r4 [] none false, iBlk rb items.length, tBlk ra (.mk k n p ins), _, _, _]) (by decide) rfl ?_
  refine HC_rangeR (τ := Unit) (fun i (s : BS × BS × Row × Row × Bool × Bool) => i ≤ items.length ∧ rowF H (putL (items.drop i) k 0 ins i) s.1 s.2.1 = TOT ∧ bOk s.1 s.2.2.1 ∧ bOk s.2.1 s.2.2.2.1 ∧ s.1.length + s.2.1.length + restB (putL (items.drop i) k 0 ins i) ≤ B) (fun s => bldL r3 s.1 s.2.2.1 s.2.2.2.2.1 ++ bldL r4 s.2.1 s.2.2.2.1 s.2.2.2.2.2) (fun _ _ => False) (fun _ => []) [iBlk rb items.length, tBlk ra (.mk k n p ins), _, _, _] ([], [], none, none, false, false) rfl rfl (enters_of Tryz.func189 (by kernel_rfl) rfl) (I_items ht (by omega) hx ra rb) (by rintro _ _ _ ⟨_, rfl, _⟩; rfl) rfl (fun q hq => by rcases List.mem_cons.1 hq with rfl | hq; exact .inl (by simp); rcases List.mem_cons.1 hq with rfl | hq; exact .inl (by simp); exact .inr hq) rfl ⟨Nat.zero_le _, hTOT.symm, bOk_nil, bOk_nil, by simpa using hB⟩ ?_ ?_ ?_
  · rintro q Xr Xb w3 i _ _ ⟨f, th, row1, row2, own1, own2⟩ ⟨hii, rfl, rfl⟩ ⟨him, hinv, hb1, hb2, hlen⟩ Kr hKr
    simp only at hinv hb1 hb2 hlen
    have hti1 := hti i hii
    have hix := itm_get hii
    have hbi := hb i _ hix.1
    rw [dropI hix.1, putL, rowF] at hinv; rw [dropI hix.1, putL, restB_cons] at hlen
    obtain ⟨S, hS⟩ : ∃ S, S = putV (itm items i) (inTy k 0 ins i) := ⟨_, rfl⟩
    simp only [← hS] at hinv hlen; rw [← hS] at hbi
    have hle4 := leR4_len (H + th.length)
    unfold itV
    refine HC_seq fun K6 hK6 => ?_; refine HC_region ?_; refine HL_r rfl rfl rfl rfl (R_assign rfl) ?_; refine HL_nil ?_; refine HQ_then ?_; refine hK6 _ _ _ _ ?_; clear hK6 K6; refine HC_region ?_; refine HL_alloc (cs := #[.int .i64 0, .int .i64 0, .slice none 0 0]) rfl rfl rfl rfl fun r9 => ?_; refine HL_storeArr (k := 0) (n := 3) (ys := (inTy k 0 ins i).cells) rfl rfl rfl rfl rfl (inTy k 0 ins i).len rfl (inTy k 0 ins i).one rfl ?_; refine HL_nil ?_; refine HQ_then ?_; refine hKr _ _ ?_; clear hKr; refine HC_block ?_; refine HC_seq fun K7 hK7 => ?_; refine HC_draw 7 (by kernel_rfl) (by kernel_rfl) ?_; refine HD_r rfl rfl rfl (R_loadArr (xs := (inTy k 0 ins i).cells) (n := 3) rfl (known_L (k := 0) rfl) rfl rfl (inTy k 0 ins i).len) ?_; refine HD_r rfl rfl rfl (R_load (v := plV items.length pi) rfl (known_R (k := 3) rfl) rfl rfl) ?_; refine HD_r rfl rfl rfl (R_move rfl) ?_
    refine HD_r rfl rfl rfl (R_indexPl (j := i) rfl hs rfl rfl rfl (by first | rfl | omega) (by omega)) ?_; refine HD_r rfl rfl rfl (R_loadVl (fun q hq => Or.inr (List.mem_append_right _ hq)) rfl hs hix.1 rfl rfl) ?_; refine HD_callR rfl rfl rfl (enters_of Tryz.func37 (by kernel_rfl) rfl) hbi (fun q hq => Or.inr (List.mem_append_right _ hq)) ?_; refine HD_r rfl rfl rfl (R_assign rfl) ?_; refine HD_end ?_; refine HL_nil ?_; refine HQ_then ?_; refine hK7 _ _ _ _ ?_; clear hK7 K7; refine HC_seq fun K8 hK8 => ?_; refine HC_seq fun K9 hK9 => ?_; refine HC_region ?_; refine HL_r rfl rfl rfl rfl (R_loadArr (xs := (inTy k 0 ins i).cells) (n := 3) rfl (known_L (k := 0) rfl) rfl rfl (inTy k 0 ins i).len) ?_; refine HL_callR rfl rfl rfl (enters_of Tryz.func122 (by kernel_rfl) rfl) (S_ssize hti1) (fun q hq => Or.inr (List.mem_append_right _ hq)) ?_; refine HL_r rfl rfl rfl rfl (R_move rfl) ?_; refine HL_r rfl rfl rfl rfl (R_extract rfl rfl) ?_; refine HL_r rfl rfl rfl rfl (R_extract rfl rfl) ?_; refine HL_r rfl rfl rfl rfl (R_assign rfl) ?_; refine HL_r rfl rfl rfl rfl (R_assign rfl) ?_; refine HL_nil ?_; refine HQ_then ?_; refine hK9 _ _ _ _ ?_; clear hK9 K9; refine HC_seq fun K10 hK10 => ?_; refine HC_region ?_; refine HL_r rfl rfl rfl rfl (R_move rfl) ?_; refine HL_nil ?_; refine HQ_then ?_; refine hK10 _ _ _ _ ?_; clear hK10 K10; refine HC_cond rfl (fun h11 => ?_) (fun h11 => ?_)
    · try exact Bool.noConfusion h11
      try simp only [Z1, Z2, Z3, Z4, Z5, Z6, Z7, Z8, Z9, Z10, Z11, Z12, Z13] at h11
      refine HC_seq fun K12 hK12 => ?_; refine HC_region ?_; refine HL_r rfl rfl rfl rfl (R_move rfl) ?_; refine HL_callT (T := bldL r3 f row1 own1) (L0 := (r9, .cells (inTy k 0 ins i).cells.toArray 24 (0, 0)) :: bldL r4 th row2 own2) (Rl := []) List.perm_middle.symm rfl rfl rfl (enters_of Tryz.func123 (by kernel_rfl) rfl) (T_Write hb1 (s2 := S) (by omega)) (fun q hq => nomatch hq) fun x => ?_
      obtain ⟨row1x, hb1x⟩ := x
      refine HL_nil ?_; refine HQ_then ?_; refine hK12 _ _ _ _ ?_; clear hK12 K12; refine HC_exit ?_; refine HQ_thenE ?_; clear hK8 K8; refine HQ_blockE ?_
      (rw [if_pos (by assumption)] at hinv
       refine HQ_subL (L' := bldL r3 (f ++ S) row1x true ++ bldL r4 th row2 own2) ((List.Sublist.refl _).append (.cons _ (List.Sublist.refl _))) ?_
       exact HQ_round (f ++ S, th, row1x, row2, true, own2) ⟨by omega, hinv, hb1x, hb2, by simp only [List.length_append]; omega⟩ rfl)
    · try exact Bool.noConfusion h11
      try simp only [Z1, Z2, Z3, Z4, Z5, Z6, Z7, Z8, Z9, Z10, Z11, Z12, Z13] at h11
      refine HC_skip ?_; refine HQ_then ?_; refine hK8 _ _ _ _ ?_; clear hK8 K8; refine HC_seq fun K13 hK13 => ?_; refine HC_draw 10 (by kernel_rfl) (by kernel_rfl) ?_; refine HD_r rfl rfl rfl (R_load (v := .int .i64 (H : Int)) rfl (known_R (k := 2) rfl) rfl rfl) ?_; refine HD_callR rfl rfl rfl (enters_of Tryz.func124 (by kernel_rfl) rfl) (P_bLen r4 own2 hb2) (fun q hq => Or.inl (by rw [List.mem_singleton.1 hq]; exact List.mem_cons_of_mem _ (List.mem_append_right _ List.mem_cons_self))) ?_
      refine HD_r rfl rfl rfl (R_pure rfl rfl rfl) ?_; refine HD_as (show _ = Value.int .i64 ((H + th.length : Nat) : Int) from by rw [wrap_i64 (by omega) (by omega)]; congr 1 <;> omega) ?_; refine HD_r rfl rfl rfl (R_pure rfl rfl rfl) ?_; refine HD_as (show _ = uV (H + th.length) from congrArg (Value.int .u64) (wrap_u64 (by omega) (by omega))) ?_; refine HD_callP rfl rfl rfl (enters_of Tryz.func56 (by kernel_rfl) rfl) (P_num_Le (n := H + th.length) (by omega) 4) ?_; refine HD_r rfl rfl rfl (R_move rfl) ?_; refine HD_r rfl rfl rfl (R_extract rfl rfl) ?_; refine HD_r rfl rfl rfl (R_extract rfl rfl) ?_; refine HD_r rfl rfl rfl (R_assign rfl) ?_; refine HD_r rfl rfl rfl (R_assign rfl) ?_; refine HD_end ?_; refine HL_nil ?_; refine HQ_then ?_; refine hK13 _ _ _ _ ?_; clear hK13 K13; refine HC_seq fun K14 hK14 => ?_; refine HC_region ?_; refine HL_r rfl rfl rfl rfl (R_move rfl) ?_; refine HL_callT (T := bldL r3 f row1 own1) (L0 := (r9, .cells (inTy k 0 ins i).cells.toArray 24 (0, 0)) :: bldL r4 th row2 own2) (Rl := []) List.perm_middle.symm rfl rfl rfl (enters_of Tryz.func123 (by kernel_rfl) rfl) (T_Write hb1 (s2 := (leR (H + th.length) 4).1) (by omega)) (fun q hq => nomatch hq) fun x => ?_
      obtain ⟨row1x, hb1x⟩ := x
      refine HL_nil ?_; refine HQ_then ?_; refine hK14 _ _ _ _ ?_; clear hK14 K14; refine HC_region ?_; refine HL_r rfl rfl rfl rfl (R_move rfl) ?_; refine HL_callT (T := bldL r4 th row2 own2) (L0 := bldL r3 (f ++ (leR (H + th.length) 4).1) row1x true ++ [(r9, .cells (inTy k 0 ins i).cells.toArray 24 (0, 0))]) (Rl := []) (perm_x3 _ _ _) rfl rfl rfl (enters_of Tryz.func123 (by kernel_rfl) rfl) (T_Write hb2 (s2 := S) (by omega)) (fun q hq => nomatch hq) fun x => ?_
      obtain ⟨row2x, hb2x⟩ := x
      refine HL_nil ?_; refine HQ_blockN ?_
      (rw [if_neg (by rw [Bool.not_eq_true]; assumption)] at hinv
       refine HQ_perm List.perm_append_comm ?_; refine HQ_subL (L' := bldL r3 (f ++ (leR (H + th.length) 4).1) row1x true ++ bldL r4 (th ++ S) row2x true) ((List.sublist_append_left _ _).append (List.Sublist.refl _)) ?_
       exact HQ_round (f ++ (leR (H + th.length) 4).1, th ++ S, row1x, row2x, true, true) ⟨by omega, hinv, hb1x, hb2x, by simp only [List.length_append]; omega⟩ rfl)
  · rintro D i ⟨f, th, row1, row2, own1, own2⟩ hfi ⟨him, hinv, hb1, hb2, hlen⟩
    simp only at hinv hb1 hb2 hlen
    have hin : i = items.length := hfi
    rw [hin, List.drop_length, putL, rowF] at hinv; refine HQ_blockN ?_; refine HQ_then ?_; refine hK4 _ _ _ _ ?_; clear hK4 K4; refine HC_seq fun K15 hK15 => ?_; refine HC_region ?_; refine HL_callT (T := bldL r3 f row1 own1) (L0 := _ :: (bldL r4 th row2 own2 ++ [iBlk rb items.length, tBlk ra (.mk k n p ins), _, _, _])) (Rl := []) (by rw [List.append_assoc]; exact List.perm_middle.symm) rfl rfl rfl (enters_of Tryz.func125 (by kernel_rfl) rfl) (T_bStr hb1 (by omega)) (fun q hq => nomatch hq) fun u1 => ?_; refine HL_callT (T := bldL r4 th row2 own2) (L0 := _ :: [iBlk rb items.length, tBlk ra (.mk k n p ins), _, _, _]) (Rl := []) List.perm_middle.symm rfl rfl rfl (enters_of Tryz.func125 (by kernel_rfl) rfl) (T_bStr hb2 (by omega)) (fun q hq => nomatch hq) fun u2 => ?_; refine HL_r rfl rfl rfl rfl (R_concat (a := f) (b := th) rfl rfl (by omega)) ?_; refine HL_r rfl rfl rfl rfl (R_assign rfl) ?_; refine HL_nil ?_; refine HQ_then ?_; refine hK15 _ _ _ _ ?_; clear hK15 K15; refine HC_ret ?_; refine HQ_mark (k := 0) rfl rfl ?_; refine HQ_post rfl rfl (.cons (res_tmp rfl) .nil) (fun w1 hs1 => ?_); exact ⟨by rw [← hinv]; rfl, hs1.keep⟩
  · exact fun _ _ _ h => h.elim
end Go.Proofs.YtlcbfphioeppaaaGreatDoor
namespace Go.Proofs.YtlcbfphioeppaaaGreatDoor
set_option linter.all false
open Go.SL Go.RowKit Go.Shelf
/-! ### The bytes of a value -/
theorem fit_split {a b c d : Nat} {bits : List Bool} {pb : Pl} {items : List Vl} {pi : Pl} {pick k n : Int} {p : Pl} {ins : List Ty} (h : fitT (.mk a b c d bits pb items pi pick) (.mk k n p ins) = 0) :
    ¬ ((k = 4 ∧ n < items.length) ∨ (k = 6 ∧ n < bits.length)) ∧ ofT k n ins.length (.mk a b c d bits pb items pi pick) = true ∧ fitL items k pick ins 0 = 0 := by
  rw [fitT] at h
  split at h
  · cases h
  · rename_i h1
    split at h
    · cases h
    · rename_i h2
      exact ⟨h1, by simpa using h2, h⟩
theorem fitL_get : ∀ {l : List Vl} {k pick : Int} {ins : List Ty} {i j : Nat} {x : Vl}, fitL l k pick ins i = 0 → l[j]? = some x → fitT x (inTy k pick ins (i + j)) = 0
  | [], _, _, _, _, _, _, _, h => by simp at h
  | y :: ys, k, pick, ins, i, j, x, h0, h => by
    rw [fitL] at h0
    split at h0
    · rename_i h1
      cases j with
      | zero => simp at h; subst h; exact h1
      | succ j =>
        rw [List.getElem?_cons_succ] at h
        have := fitL_get h0 h
        rwa [show i + 1 + j = i + (j + 1) by omega] at this
    · rename_i h1; exact absurd h0 h1
theorem wL_mem : ∀ {l : List Vl} {x : Vl}, x ∈ l → wV x ≤ wL l
  | y :: ys, x, h => by
    rw [wL]
    rcases List.mem_cons.1 h with rfl | h
    · omega
    · have := wL_mem h; omega
theorem wV_sub {a b c d : Nat} {bits : List Bool} {pb : Pl} {items : List Vl} {pi : Pl} {pick : Int} {x : Vl} (h : x ∈ items) : wV x ≤ wV (.mk a b c d bits pb items pi pick) := by
  have := wL_mem h
  rw [wV]; omega
theorem restB_le (items : List Vl) (k pick : Int) (ins : List Ty) : ∀ (l : List Vl) (i : Nat), restB (putL l k pick ins i) ≤ 40 * wL l
  | [], i => by rw [putL, wL]; exact Nat.zero_le _
  | x :: xs, i => by
    rw [putL, wL, restB_cons]
    have h1 := putV_len x (inTy k pick ins i)
    have h2 := restB_le items k pick ins xs (i + 1)
    simp only
    omega
theorem pick_byte {z : Int} (h1 : 0 ≤ z) (h2 : z < 256) : Value.int .u8 (IntKind.u8.wrap z) = bV (UInt8.ofNat z.toNat) := by
  rw [wrap_u8 h1 (by omega), ← bV_of (by omega), Int.toNat_of_nonneg h1]
theorem put_one {l : List Vl} {k pick : Int} {ins : List Ty} (h : l.length = 1) : ((putL l k pick ins 0).headD (default, [])).2 = putV (itm l 0) (inTy k pick ins 0) := by
  match l, h with
  | [x], _ => rw [putL]; rfl
/-- How many items, bits there are. -/
theorem fit_many {a b c d : Nat} {bits : List Bool} {pb : Pl} {items : List Vl} {pi : Pl} {pick k n dp : Int} {p : Pl} {ins : List Ty} (hc : chk (.mk k n p ins) dp = 0) (h : fitT (.mk a b c d bits pb items pi pick) (.mk k n p ins) = 0) :
    items.length ≤ 512 ∧ bits.length ≤ 512 ∧ (k = 1 → 1 ≤ n ∧ n ≤ 32) ∧ (k = 8 → items.length = 1 ∧ 0 ≤ pick ∧ pick < ins.length ∧ ins.length ≤ 8) := by
  obtain ⟨h1, h2, _⟩ := fit_split h
  obtain ⟨hk, hf, _, _⟩ := chk_mk hc
  rw [ofT_mk k n ins.length a b c d bits pb items pi pick _ rfl] at h2; simp only [onlyB_mk] at h2
  unfold okForm at hf
  have h9 : k = 1 ∨ k = 2 ∨ k = 3 ∨ k = 4 ∨ k = 5 ∨ k = 6 ∨ k = 7 ∨ k = 8 := by omega
  rcases h9 with rfl | rfl | rfl | rfl | rfl | rfl | rfl | rfl
  all_goals generalize items.length = I at *
  all_goals generalize bits.length = J at *
  all_goals generalize ins.length = K at *
  all_goals simp at h1 h2 hf ⊢
  all_goals omega
section
variable {c : Cx} {l : List (Nat × Value)} {L E : List (Nat × Obj)} {X : XP} {Q : Exit → Act → World → Prop} {d : List Deferred}
variable {ops : Array Oper} {rest : List Nat} {i k : Nat} {v : Value} {o : Oper} {tb : Kbs} {S : List (Nat × Obj)} {T : List (Nat × Obj) → Act → Prop}
theorem HB_buildSlice {t ty : TypeId} {ps : String} {af : Array Edge} {gd : Option (Nat × Bool)} {n e sz : Nat} {pa : List (Nat × Operand)} {vs : List (Nat × Value)} {r zs : List Value} {z : Value} (hk : nth ops.toList k = some ⟨some i, .buildSlice t n pa.toArray, ty, ps, af, gd⟩) (hg : goes l ops ⟨some i, .buildSlice t n pa.toArray, ty, ps, af, gd⟩ = some true) (hi : Nat.ble (i + 1) c.n = true)
    (hA : tb k = .grow (geNew (slV n) (.cells r.toArray e (0, 0))))
    (hp : partsOf l pa = some vs) (ht : sliceOf c.P t = some e) (hz : zeroOf c.P e = some z) (hs : szOf c.P e = some sz) (hzs : z.cells.size = sz) (hb : Nat.ble (n * sz) 16777216 = true) (h0 : Nat.ble 1 (n * sz) = true)
    (hmk : (madeCells z.cells (n * sz)).toList = zs) (hf : fillL (fun i => some (i * sz, sz)) zs (cellsOfParts vs) = some r)
    (h : ∀ q, HB c d ((i, .slice (some ⟨q, 0, none⟩) n n) :: l) ((q, .cells r.toArray e (0, 0)) :: E) X S ops tb rest T) : HB c d l E X S ops tb (k :: rest) T :=
  HB_new (V := slV n) hk hg rfl hi hA (fun a w hfr => by
    have h1 := partsOf_eval hfr hp
    have h2 : (pa.toArray.map fun (p : Nat × Operand) => (p.1, a.eval p.2)) = vs.toArray := by
      apply Array.toList_inj.1; rw [Array.toList_map]; simpa using h1
    rw [cellsOfParts_eq] at hf; subst hmk
    have h3 := run_fill_slice ht hz hs hzs (Nat.le_of_ble_eq_true hb) (Nat.le_of_ble_eq_true h0) hf w
    rw [← h2] at h3; simp only [execOp, Sem.run_bind]
    have h4 : (Instr.buildSlice t n (pa.toArray.map fun (i, x) => (i, a.eval x))).run c.P w = .ok (.slice (some ⟨w.heap.size, 0, none⟩) n n) (w.alloc (.cells r.toArray e)) := h3
    rw [h4]; rfl) h
end
section
variable {a b c d : Nat} {bits : List Bool} {pb : Pl} {items : List Vl} {pi : Pl} {pick k n : Int} {p : Pl} {ins : List Ty}
theorem putV_mk : putV (.mk a b c d bits pb items pi pick) (.mk k n p ins) = if k = 1 then leW [a, b, c, d] n.toNat else if k = 2 then leW [a, b, c, d] 1 else if k = 5 then packB bits else if k = 6 then packB (bits ++ [true])
    else if k = 8 then UInt8.ofNat pick.toNat :: ((putL items k pick ins 0).headD (default, [])).2 else rowF (begL ((putL items k pick ins 0).map Prod.fst)).toNat (putL items k pick ins 0) [] [] := by rw [putV]; rfl
end
set_option maxHeartbeats 1000000 in
set_option maxRecDepth 10000 in
theorem S_bytes {R : List (Nat × Obj)} {v : Vl} (hv : v.In R) : ∀ (t : Ty) (dp : Int), t.In R → chk t dp = 0 → fitT v t = 0 → wV v ≤ 20000 → PureR Tryz.prog 37 [t.val, v.val].toArray (strV (putV v t)) R := by
  induction hv with
  | @mk a b c d bits pb items pi pick ha hb hc hd hlb hsb hl hs hp hi ih =>
  intro t dp ht hck hfit hw
  have ht0 := ht
  cases ht with
  | @mk k n p ins hk hn hlt hst hit =>
  obtain ⟨hk8, ho, h6, hci⟩ := chk_mk hck
  obtain ⟨hf1, hf2, hf3⟩ := fit_split hfit
  obtain ⟨m1, m2, m3, m4⟩ := fit_many hck hfit
  have hxl : ∀ i, i < items.length → inX k pick i < ins.length := fun i hi => inX_lt (v := .mk a b c d bits pb items pi pick) hck hf2 hi
  have hwd : WOk [a, b, c, d] := ⟨rfl, fun x hx => by simp at hx; rcases hx with rfl | rfl | rfl | rfl <;> assumption⟩
  have hfx := P_word_Fixed hwd
  have hlen32 : (beD [a, b, c, d] 32).reverse.length = 32 := by rw [List.length_reverse, beD_len]
  have hpt := P_turned (s := beD [a, b, c, d] 32) (by rw [beD_len]; decide)
  have hle : ∀ m, leW [a, b, c, d] m = ((beD [a, b, c, d] 32).reverse.take m).drop 0 := fun m => by rw [List.drop_zero]; rfl
  have hrow : ¬ k = 1 → ¬ k = 2 → ¬ k = 5 → ¬ k = 6 → ¬ k = 8 → PureR Tryz.prog 72 [Ty.val (.mk k n p ins), plV items.length pi].toArray (strV (putV (.mk a b c d bits pb items pi pick) (.mk k n p ins))) R := fun h1 h2 h5 h6 h8 => by
    have hx0 : ∀ i, i < items.length → inX k 0 i < ins.length := fun i hi => by have := hxl i hi; unfold inX at this ⊢; rw [if_neg h8] at this ⊢; exact this
    have hwl : wL items ≤ wV (.mk a b c d bits pb items pi pick) := by rw [wV]; omega
    have := S_srow (B := 800000) ht0 hs (by omega) hx0 (fun i x hxi => by
      have hm := List.mem_of_getElem? hxi
      have hlt3 := (List.getElem?_eq_some_iff.1 hxi).1
      have hty := (inTy_get (hx0 i hlt3)).2
      have hg := fitL_get hf3 hxi
      rw [Nat.zero_add, inTy_n8 h8] at hg
      exact ih x hm _ (dp + 1) (hit _ hty) (hci _ hty) hg (Nat.le_trans (wV_sub hm) hw)) (by have := restB_le items k 0 ins items 0; omega) (by decide)
    rw [putV_mk, if_neg h1, if_neg h2, if_neg h5, if_neg h6, if_neg h8, putL_n8 h8, tysN_put]; exact this
  refine pureR_of_HC Tryz.func37 rfl rfl fun w => ?_; refine HC_seq fun K1 hK1 => ?_; refine HC_region ?_; refine HL_box (cs := #[_, _, _]) rfl rfl rfl rfl fun r1 => ?_; refine HL_box (cs := #[_, _, _, _, _, _, _]) rfl rfl rfl rfl fun r2 => ?_; refine HL_r rfl rfl rfl rfl (R_assign rfl) ?_; refine HL_nil ?_; refine HQ_then ?_; refine hK1 _ _ _ _ ?_; clear hK1 K1; refine HC_seq fun K2 hK2 => ?_; refine HC_region ?_
  refine HL_r rfl rfl rfl rfl (R_fieldAddr rfl rfl (by first | (simp only [Nat.zero_add, Nat.reduceAdd, Nat.reduceMul, Nat.zero_mul, Nat.mul_one, Nat.add_zero]; exact rfl) | exact rfl)) ?_; refine HL_r rfl rfl rfl rfl (R_load rfl (known_L (k := 0) rfl) rfl rfl) ?_; refine HL_r rfl rfl rfl rfl (R_lenPl rfl hsb rfl) ?_; refine HL_alloc (cs := #[_]) rfl rfl rfl rfl fun r3 => ?_
  refine HL_store (k := 0) rfl rfl rfl rfl rfl rfl rfl rfl (by first | (simp only [List.setIfInBounds_toArray, List.set_cons_zero, List.set_cons_succ]; exact rfl) | exact rfl) (by first | (simp only [List.set_cons_zero, List.set_cons_succ]; exact rfl) | exact rfl) ?_; refine HL_nil ?_; refine HQ_then ?_; refine hK2 _ _ _ _ ?_; clear hK2 K2; refine HC_seq fun K3 hK3 => ?_; refine HC_seq fun K4 hK4 => ?_; refine HC_region ?_
  refine HL_r rfl rfl rfl rfl (R_fieldAddr rfl rfl (by first | (simp only [Nat.zero_add, Nat.reduceAdd, Nat.reduceMul, Nat.zero_mul, Nat.mul_one, Nat.add_zero]; exact rfl) | exact rfl)) ?_; refine HL_r rfl rfl rfl rfl (R_load rfl (known_L (k := 2) rfl) rfl rfl) ?_; refine HL_nil ?_; refine HQ_then ?_; refine hK4 _ _ _ _ ?_; clear hK4 K4; refine HC_block ?_; refine HC_seq fun K5 hK5 => ?_; refine HC_region ?_; refine HL_r rfl rfl rfl rfl (R_pure rfl rfl rfl) ?_; refine HL_r rfl rfl rfl rfl (R_assign rfl) ?_; refine HL_nil ?_; refine HQ_then ?_; refine hK5 _ _ _ _ ?_; clear hK5 K5; refine HC_cond rfl (fun h6 => ?_) (fun h6 => ?_)
  · try exact Bool.noConfusion h6
    try simp only [Z1, Z2, Z3, Z4, Z5, Z6, Z7, Z8, Z9, Z10, Z11, Z12, Z13] at h6
    refine HC_seq fun K7 hK7 => ?_
    have hn1 := m3 (by assumption)
    refine HC_draw 8 (by kernel_rfl) (by kernel_rfl) ?_
    refine HD_r rfl rfl rfl (R_fieldAddr rfl rfl (by first | (simp only [Nat.zero_add, Nat.reduceAdd, Nat.reduceMul, Nat.zero_mul, Nat.mul_one, Nat.add_zero]; exact rfl) | exact rfl)) ?_; refine HD_r rfl rfl rfl (R_loadA (vs := [_, _, _, _]) rfl (known_L (k := 1) rfl) rfl rfl rfl rfl) ?_; refine HD_callP rfl rfl rfl (enters_of Tryz.func68 (by kernel_rfl) rfl) hfx ?_; refine HD_callP rfl rfl rfl (enters_of Tryz.func67 (by kernel_rfl) rfl) hpt ?_
    refine HD_r rfl rfl rfl (R_fieldAddr rfl rfl (by first | (simp only [Nat.zero_add, Nat.reduceAdd, Nat.reduceMul, Nat.zero_mul, Nat.mul_one, Nat.add_zero]; exact rfl) | exact rfl)) ?_; refine HD_r rfl rfl rfl (R_load rfl (known_L (k := 2) rfl) rfl rfl) ?_; refine HD_r rfl rfl rfl (R_sliceBs (kl := none) (kh := some (.i64, n)) (m := 0) (n := n.toNat) rfl rfl rfl rfl rfl (by show n = ((n.toNat : Nat) : Int); omega) (Nat.zero_le _) (by rw [hlen32]; omega) rfl) ?_; rw [← hle]; refine HD_r rfl rfl rfl (R_assign rfl) ?_; refine HD_end ?_; refine HL_nil ?_; refine HQ_then ?_; refine hK7 _ _ _ _ ?_; clear hK7 K7; refine HC_ret ?_; refine HQ_blockR ?_; refine HQ_thenR ?_; clear hK3 K3; refine HQ_post rfl rfl (.cons (res_tmp rfl) .nil) (fun w1 hs1 => ?_); refine ⟨?_, hs1.keep⟩; rw [putV_mk, if_pos (by assumption)]; rfl
  · try exact Bool.noConfusion h6
    try simp only [Z1, Z2, Z3, Z4, Z5, Z6, Z7, Z8, Z9, Z10, Z11, Z12, Z13] at h6
    refine HC_seq fun K8 hK8 => ?_; refine HC_region ?_; refine HL_r rfl rfl rfl rfl (R_pure rfl rfl rfl) ?_; refine HL_r rfl rfl rfl rfl (R_assign rfl) ?_; refine HL_nil ?_; refine HQ_then ?_; refine hK8 _ _ _ _ ?_; clear hK8 K8; refine HC_cond rfl (fun h9 => ?_) (fun h9 => ?_)
    · try exact Bool.noConfusion h9
      try simp only [Z1, Z2, Z3, Z4, Z5, Z6, Z7, Z8, Z9, Z10, Z11, Z12, Z13] at h9
      refine HC_seq fun K10 hK10 => ?_; refine HC_region ?_
      refine HL_r rfl rfl rfl rfl (R_fieldAddr rfl rfl (by first | (simp only [Nat.zero_add, Nat.reduceAdd, Nat.reduceMul, Nat.zero_mul, Nat.mul_one, Nat.add_zero]; exact rfl) | exact rfl)) ?_; refine HL_r rfl rfl rfl rfl (R_loadA (vs := [_, _, _, _]) rfl (known_L (k := 1) rfl) rfl rfl rfl rfl) ?_; refine HL_callP rfl rfl rfl (enters_of Tryz.func68 (by kernel_rfl) rfl) hfx ?_; refine HL_callP rfl rfl rfl (enters_of Tryz.func67 (by kernel_rfl) rfl) hpt ?_; refine HL_r rfl rfl rfl rfl (R_sliceBs (kl := none) (kh := some (.i64, 1)) (m := 0) (n := 1) rfl rfl rfl rfl rfl (by show (1 : Int) = ((1 : Nat) : Int); omega) (Nat.zero_le _) (by rw [hlen32]; omega) rfl) ?_; rw [← hle]; refine HL_r rfl rfl rfl rfl (R_assign rfl) ?_; refine HL_nil ?_; refine HQ_then ?_; refine hK10 _ _ _ _ ?_; clear hK10 K10; refine HC_ret ?_; refine HQ_blockR ?_; refine HQ_thenR ?_; clear hK3 K3; refine HQ_post rfl rfl (.cons (res_tmp rfl) .nil) (fun w1 hs1 => ?_); refine ⟨?_, hs1.keep⟩; rw [putV_mk, if_neg (by assumption), if_pos (by assumption)]; rfl
    · try exact Bool.noConfusion h9
      try simp only [Z1, Z2, Z3, Z4, Z5, Z6, Z7, Z8, Z9, Z10, Z11, Z12, Z13] at h9
      refine HC_seq fun K11 hK11 => ?_; refine HC_region ?_; refine HL_r rfl rfl rfl rfl (R_pure rfl rfl rfl) ?_; refine HL_r rfl rfl rfl rfl (R_assign rfl) ?_; refine HL_nil ?_; refine HQ_then ?_; refine hK11 _ _ _ _ ?_; clear hK11 K11; refine HC_cond rfl (fun h12 => ?_) (fun h12 => ?_)
      · try exact Bool.noConfusion h12
        try simp only [Z1, Z2, Z3, Z4, Z5, Z6, Z7, Z8, Z9, Z10, Z11, Z12, Z13] at h12
        refine HC_seq fun K13 hK13 => ?_; refine HC_region ?_; refine HL_r rfl rfl rfl rfl (R_load rfl (known_L (k := 0) rfl) rfl rfl) ?_; refine HL_r rfl rfl rfl rfl (R_makeFunc rfl rfl) ?_; refine HL_callR (Rl := vBlk r2 (.mk a b c d bits pb items pi pick) :: R) rfl rfl rfl (enters_of Tryz.func69 (by kernel_rfl) rfl) (S_pack (caps := [pt0 r2]) (by omega) (enters_of Tryz.func70 (by kernel_rfl) rfl) (fun i hi => S_b1 hsb (by omega) r2 hi)) (fun q hq => (List.mem_cons.1 hq).elim (fun h => .inl (by rw [h]; exact List.mem_cons_of_mem _ List.mem_cons_self)) .inr) ?_; refine HL_r rfl rfl rfl rfl (R_assign rfl) ?_; refine HL_nil ?_; refine HQ_then ?_; refine hK13 _ _ _ _ ?_; clear hK13 K13; refine HC_ret ?_; refine HQ_blockR ?_; refine HQ_thenR ?_; clear hK3 K3; refine HQ_post rfl rfl (.cons (res_tmp rfl) .nil) (fun w1 hs1 => ?_); refine ⟨?_, hs1.keep⟩; rw [putV_mk, if_neg (by assumption), if_neg (by assumption), if_pos (by assumption)]; rfl
      · try exact Bool.noConfusion h12
        try simp only [Z1, Z2, Z3, Z4, Z5, Z6, Z7, Z8, Z9, Z10, Z11, Z12, Z13] at h12
        refine HC_seq fun K14 hK14 => ?_; refine HC_region ?_; refine HL_r rfl rfl rfl rfl (R_pure rfl rfl rfl) ?_; refine HL_r rfl rfl rfl rfl (R_assign rfl) ?_; refine HL_nil ?_; refine HQ_then ?_; refine hK14 _ _ _ _ ?_; clear hK14 K14; refine HC_cond rfl (fun h15 => ?_) (fun h15 => ?_)
        · try exact Bool.noConfusion h15
          try simp only [Z1, Z2, Z3, Z4, Z5, Z6, Z7, Z8, Z9, Z10, Z11, Z12, Z13] at h15
          refine HC_seq fun K16 hK16 => ?_; refine HC_region ?_; refine HL_r rfl rfl rfl rfl (R_load rfl (known_L (k := 0) rfl) rfl rfl) ?_; refine HL_r rfl rfl rfl rfl (R_pure rfl rfl rfl) ?_; refine HL_as (show _ = Value.int .i64 (((bits ++ [true]).length : Nat) : Int) from by rw [wrap_i64 (by omega) (by omega)]; congr 1; rw [List.length_append]; rfl) ?_; refine HL_r rfl rfl rfl rfl (R_makeFunc rfl rfl) ?_
          refine HL_callR (Rl := iBlk r3 bits.length :: vBlk r2 (.mk a b c d bits pb items pi pick) :: R) rfl rfl rfl (enters_of Tryz.func69 (by kernel_rfl) rfl) (S_pack (caps := [pt0 r3, pt0 r2]) (by rw [List.length_append]; simp; omega) (enters_of Tryz.func71 (by kernel_rfl) rfl) (fun i hi => S_b2 hsb (by omega) r3 r2 hi)) (fun q hq => by rcases List.mem_cons.1 hq with rfl | hq; exact .inl List.mem_cons_self; rcases List.mem_cons.1 hq with rfl | hq; exact .inl (List.mem_cons_of_mem _ List.mem_cons_self); exact .inr hq) ?_; refine HL_r rfl rfl rfl rfl (R_assign rfl) ?_; refine HL_nil ?_; refine HQ_then ?_; refine hK16 _ _ _ _ ?_; clear hK16 K16; refine HC_ret ?_; refine HQ_blockR ?_; refine HQ_thenR ?_; clear hK3 K3; refine HQ_post rfl rfl (.cons (res_tmp rfl) .nil) (fun w1 hs1 => ?_); refine ⟨?_, hs1.keep⟩; rw [putV_mk, if_neg (by assumption), if_neg (by assumption), if_neg (by assumption), if_pos (by assumption)]; rfl
        · try exact Bool.noConfusion h15
          try simp only [Z1, Z2, Z3, Z4, Z5, Z6, Z7, Z8, Z9, Z10, Z11, Z12, Z13] at h15
          refine HC_seq fun K17 hK17 => ?_; refine HC_region ?_; refine HL_r rfl rfl rfl rfl (R_pure rfl rfl rfl) ?_; refine HL_r rfl rfl rfl rfl (R_assign rfl) ?_; refine HL_nil ?_; refine HQ_then ?_; refine hK17 _ _ _ _ ?_; clear hK17 K17; refine HC_cond rfl (fun h18 => ?_) (fun h18 => ?_)
          · try exact Bool.noConfusion h18
            try simp only [Z1, Z2, Z3, Z4, Z5, Z6, Z7, Z8, Z9, Z10, Z11, Z12, Z13] at h18
            refine HC_seq fun K19 hK19 => ?_
            have hk0 : k = 8 := by assumption
            have h81 := (m4 hk0).1
            have hx8 := itm_get (l := items) (i := 0) (by omega)
            have hty8 := inTy_get (hxl 0 (by omega))
            have hix8 : inX k pick 0 = pick.toNat := by unfold inX; rw [if_neg (by omega), if_pos hk0]
            rw [hix8] at hty8
            have hg8 := fitL_get hf3 hx8.1
            have hw8 := Nat.le_trans (wV_sub (a := a) (b := b) (c := c) (d := d) (bits := bits) (pb := pb) (pi := pi) (pick := pick) hx8.2) hw
            have hrec := ih _ hx8.2 (inTy k pick ins 0) (dp + 1) (hit _ hty8.2) (hci _ hty8.2) hg8 hw8
            have hpl8 := putV_len (itm items 0) (inTy k pick ins 0)
            refine HC_drawB [] [(0, .pure), (2, .pure), (3, .grow (geNew (slV 1) (.cells #[bV (UInt8.ofNat pick.toNat)] 5 (0, 0)))), (5, .pure), (7, .pure), (9, .pure), (11, .pure), (13, .pure), (16, .pure), (17, .pure)] 18 [0, 1, 2, 5, 6, 7, 8, 9, 10, 11, 12, 13, 14, 15, 3, 4, 16, 17] (by kernel_rfl) (by kernel_rfl) (by first | exact (fun _ h => nomatch h) | simp [SubS] | (intro p hp; simp [hp])) ?_
            refine HB_p (k := 0) rfl rfl rfl rfl rfl (fun _ hS => (R_fieldAddr rfl rfl (by first | (simp only [Nat.zero_add, Nat.reduceAdd, Nat.reduceMul, Nat.zero_mul, Nat.mul_one, Nat.add_zero]; exact rfl) | exact rfl))) ?_; refine HB_r (k := 1) rfl rfl rfl rfl rfl (R_load rfl (known_L (k := 1) rfl) rfl rfl) ?_; refine HB_p (k := 2) rfl rfl rfl rfl rfl (fun _ hS => (R_pure rfl rfl rfl)) ?_; refine HB_as (show _ = bV (UInt8.ofNat pick.toNat) from pick_byte (m4 (by assumption)).2.1 (by have := m4 (by assumption); omega)) ?_
            refine HB_p (k := 5) rfl rfl rfl rfl rfl (fun _ hS => (R_fieldAddr rfl rfl (by first | (simp only [Nat.zero_add, Nat.reduceAdd, Nat.reduceMul, Nat.zero_mul, Nat.mul_one, Nat.add_zero]; exact rfl) | exact rfl))) ?_; refine HB_r (k := 6) rfl rfl rfl rfl rfl (R_load rfl (known_L (k := 2) rfl) rfl rfl) ?_
            refine HB_p (k := 7) rfl rfl rfl rfl rfl (fun _ hS => (R_fieldAddr rfl rfl (by first | (simp only [Nat.zero_add, Nat.reduceAdd, Nat.reduceMul, Nat.zero_mul, Nat.mul_one, Nat.add_zero]; exact rfl) | exact rfl))) ?_; refine HB_r (k := 8) rfl rfl rfl rfl rfl (R_load rfl (known_L (k := 1) rfl) rfl rfl) ?_; refine HB_p (k := 9) rfl rfl rfl rfl rfl (fun _ hS => (R_indexPl (j := pick.toNat) rfl hst rfl rfl rfl (by have := m4 (by assumption); omega) (by have := m4 (by assumption); omega))) ?_; refine HB_r (k := 10) rfl rfl rfl rfl rfl (R_loadTy (fun q hq => Or.inr hq) rfl hst hty8.1 rfl rfl) ?_
            refine HB_p (k := 11) rfl rfl rfl rfl rfl (fun _ hS => (R_fieldAddr rfl rfl (by first | (simp only [Nat.zero_add, Nat.reduceAdd, Nat.reduceMul, Nat.zero_mul, Nat.mul_one, Nat.add_zero]; exact rfl) | exact rfl))) ?_; refine HB_r (k := 12) rfl rfl rfl rfl rfl (R_load rfl (known_L (k := 1) rfl) rfl rfl) ?_
            refine HB_p (k := 13) rfl rfl rfl rfl rfl (fun _ hS => (R_indexPl (j := 0) rfl hs rfl rfl rfl (by first | rfl | omega) (by omega))) ?_; refine HB_r (k := 14) rfl rfl rfl rfl rfl (R_loadVl (fun q hq => Or.inr hq) rfl hs hx8.1 rfl rfl) ?_; refine HB_callR (k := 15) rfl rfl rfl rfl rfl (enters_of Tryz.func37 (by kernel_rfl) rfl) hrec (fun q hq => Or.inr hq) ?_; refine HB_buildSlice (k := 3) (n := 1) (sz := 1) (vs := [_]) (zs := [_]) (r := [bV (UInt8.ofNat pick.toNat)]) rfl rfl rfl rfl rfl rfl rfl rfl rfl rfl rfl (by show (madeCells #[_] _).toList = _; rw [made_one]; exact rfl) rfl fun rv => ?_; refine HB_r (k := 4) rfl rfl rfl rfl rfl (R_bytesStr (b := [UInt8.ofNat pick.toNat]) (row := some (rv, 1, [])) (e := 5) rfl ⟨rfl, rfl⟩ (fun p hp => .inl (by rw [List.mem_singleton.1 hp]; exact List.mem_cons_self)) rfl rfl rfl) ?_; refine HB_p (k := 16) rfl rfl rfl rfl rfl (fun _ hS => (R_concat (a := [UInt8.ofNat pick.toNat]) (b := putV (itm items 0) (inTy k pick ins 0)) rfl rfl (by simp only [List.length_cons, List.length_nil]; omega))) ?_; refine HB_p (k := 17) rfl rfl rfl rfl rfl (fun _ hS => (R_assign rfl)) ?_; refine HB_end ?_; refine HL_nil ?_; refine HQ_then ?_; refine hK19 _ _ _ _ ?_; clear hK19 K19; refine HC_ret ?_; refine HQ_blockR ?_; refine HQ_thenR ?_; clear hK3 K3; refine HQ_post rfl rfl (.cons (res_tmp rfl) .nil) (fun w1 hs1 => ?_); refine ⟨?_, hs1.keep⟩; rw [putV_mk, if_neg (by assumption), if_neg (by assumption), if_neg (by assumption), if_neg (by assumption), if_pos (by assumption), put_one h81]; rfl
          · try exact Bool.noConfusion h18
            try simp only [Z1, Z2, Z3, Z4, Z5, Z6, Z7, Z8, Z9, Z10, Z11, Z12, Z13] at h18
            refine HC_skip ?_; refine HQ_blockN ?_; refine HQ_then ?_; refine hK3 _ _ _ _ ?_; clear hK3 K3; refine HC_seq fun K20 hK20 => ?_; refine HC_region ?_; refine HL_r rfl rfl rfl rfl (R_loadA (vs := [_, _, _]) rfl (known_L (k := 2) rfl) rfl rfl rfl rfl) ?_
            refine HL_r rfl rfl rfl rfl (R_fieldAddr rfl rfl (by first | (simp only [Nat.zero_add, Nat.reduceAdd, Nat.reduceMul, Nat.zero_mul, Nat.mul_one, Nat.add_zero]; exact rfl) | exact rfl)) ?_; refine HL_r rfl rfl rfl rfl (R_load rfl (known_L (k := 1) rfl) rfl rfl) ?_; refine HL_callR rfl rfl rfl (enters_of Tryz.func72 (by kernel_rfl) rfl) (hrow (by assumption) (by assumption) (by assumption) (by assumption) (by assumption)) (fun q hq => Or.inr hq) ?_; refine HL_r rfl rfl rfl rfl (R_assign rfl) ?_; refine HL_nil ?_; refine HQ_then ?_; refine hK20 _ _ _ _ ?_; clear hK20 K20; refine HC_ret ?_; refine HQ_post rfl rfl (.cons (res_tmp rfl) .nil) (fun w1 hs1 => ?_); refine ⟨?_, hs1.keep⟩
            rfl
end Go.Proofs.YtlcbfphioeppaaaGreatDoor
namespace Go.Proofs.YtlcbfphioeppaaaGreatDoor
set_option linter.all false
open Go.SL Go.RowKit Go.Shelf
section
variable {c : Cx} {l : List (Nat × Value)} {L : List (Nat × Obj)} {X : XP} {Q : Exit → Act → World → Prop} {d : List Deferred}
variable {ops : Array Oper} {rest : List Oper} {i : Nat} {v : Value} {t : TypeId} {ps : String} {af : Array Edge} {gd : Option (Nat × Bool)} {ty : TypeId}
end
/-! ### Put; the reference's bytes -/
theorem fits_split {t : Ty} {v : Vl} (h : fitsT t v = 0) : chk t 0 = 0 ∧ fitT v t = 0 := by
  unfold fitsT at h
  split at h
  · rename_i h1; exact ⟨h1, h⟩
  · rename_i h1; exact absurd h h1
theorem putV_le {v : Vl} (t : Ty) (h : wV v ≤ 20000) : (putV v t).length ≤ 800000 := by have := putV_len v t; omega
set_option maxRecDepth 10000 in
theorem S_sPut {R : List (Nat × Obj)} {t : Ty} {v : Vl} (ht : t.In R) (hv : v.In R) (hw : wV v ≤ 20000) : PureR Tryz.prog 17 [t.val, v.val].toArray (resS (putR t v)) R := by
  have h1 := S_Fits ht hv
  have h2 := fun h => S_bytes hv t 0 ht (fits_split (t := t) (v := v) h).1 (fits_split h).2 hw
  have hlb := putV_le t hw
  unfold putR
  generalize fitsT t v = e at h1 h2 ⊢
  generalize putV v t = s at h2 hlb ⊢
  obtain ⟨k, n, p, ins⟩ := t
  obtain ⟨a, b, c, d, bits, pb, items, pi, pick⟩ := v
  refine pureR_of_HC Tryz.func17 rfl rfl fun w => ?_; refine HC_seq fun K1 hK1 => ?_; refine HC_region ?_; refine HL_box (cs := #[_, _, _]) rfl rfl rfl rfl fun r1 => ?_; refine HL_box (cs := #[_, _, _, _, _, _, _]) rfl rfl rfl rfl fun r2 => ?_; refine HL_r rfl rfl rfl rfl (R_assign rfl) ?_; refine HL_r rfl rfl rfl rfl (R_assign rfl) ?_; refine HL_nil ?_; refine HQ_then ?_; refine hK1 _ _ _ _ ?_; clear hK1 K1; refine HC_seq fun K2 hK2 => ?_; refine HC_seq fun K3 hK3 => ?_; refine HC_region ?_; refine HL_r rfl rfl rfl rfl (R_loadA (vs := [_, _, _]) rfl (known_L (k := 1) rfl) rfl rfl rfl rfl) ?_; refine HL_r rfl rfl rfl rfl (R_loadA (vs := [_, _, _, _, _, _, _]) rfl (known_L (k := 0) rfl) rfl rfl rfl rfl) ?_; refine HL_callR rfl rfl rfl (enters_of Tryz.func22 (by kernel_rfl) rfl) h1 (fun q hq => Or.inr hq) ?_; refine HL_r rfl rfl rfl rfl (R_assign rfl) ?_; refine HL_nil ?_; refine HQ_then ?_; refine hK3 _ _ _ _ ?_; clear hK3 K3; refine HC_seq fun K4 hK4 => ?_; refine HC_region ?_; refine HL_r rfl rfl rfl rfl (R_move rfl) ?_; refine HL_r rfl rfl rfl rfl (R_pure rfl rfl rfl) ?_; refine HL_nil ?_; refine HQ_then ?_; refine hK4 _ _ _ _ ?_; clear hK4 K4; refine HC_cond rfl (fun h5 => ?_) (fun h5 => ?_)
  · try exact Bool.noConfusion h5
    try simp only [Z1, Z2, Z3, Z4, Z5, Z6, Z7, Z8, Z9, Z10, Z11, Z12, Z13] at h5
    refine HC_seq fun K6 hK6 => ?_; refine HC_region ?_; refine HL_r rfl rfl rfl rfl (R_move rfl) ?_; refine HL_r rfl rfl rfl rfl (R_assign rfl) ?_; refine HL_r rfl rfl rfl rfl (R_assign rfl) ?_; refine HL_nil ?_; refine HQ_then ?_; refine hK6 _ _ _ _ ?_; clear hK6 K6; refine HC_ret ?_; refine HQ_thenR ?_; clear hK2 K2; refine HQ_post rfl rfl (.cons (res_tmp rfl) (.cons (res_tmp rfl) .nil)) (fun w1 hs1 => ?_); refine ⟨?_, hs1.keep⟩; rw [if_pos (by omega)]; rfl
  · try exact Bool.noConfusion h5
    try simp only [Z1, Z2, Z3, Z4, Z5, Z6, Z7, Z8, Z9, Z10, Z11, Z12, Z13] at h5
    refine HC_skip ?_; refine HQ_then ?_; refine hK2 _ _ _ _ ?_; clear hK2 K2; refine HC_seq fun K7 hK7 => ?_; refine HC_region ?_; refine HL_r rfl rfl rfl rfl (R_loadA (vs := [_, _, _]) rfl (known_L (k := 1) rfl) rfl rfl rfl rfl) ?_; refine HL_r rfl rfl rfl rfl (R_loadA (vs := [_, _, _, _, _, _, _]) rfl (known_L (k := 0) rfl) rfl rfl rfl rfl) ?_; refine HL_callR rfl rfl rfl (enters_of Tryz.func37 (by kernel_rfl) rfl) (h2 (by omega)) (fun q hq => Or.inr hq) ?_; refine HL_r rfl rfl rfl rfl (R_assign rfl) ?_; refine HL_nil ?_; refine HQ_then ?_; refine hK7 _ _ _ _ ?_; clear hK7 K7; refine HC_seq fun K8 hK8 => ?_; refine HC_seq fun K9 hK9 => ?_; refine HC_region ?_; refine HL_r rfl rfl rfl rfl (R_move rfl) ?_; refine HL_r rfl rfl rfl rfl (R_lenBs rfl rfl) ?_; refine HL_r rfl rfl rfl rfl (R_pure rfl rfl rfl) ?_; refine HL_nil ?_; refine HQ_then ?_; refine hK9 _ _ _ _ ?_; clear hK9 K9; refine HC_cond rfl (fun h10 => ?_) (fun h10 => ?_)
    · try exact Bool.noConfusion h10
      try simp only [Z1, Z2, Z3, Z4, Z5, Z6, Z7, Z8, Z9, Z10, Z11, Z12, Z13] at h10
      refine HC_seq fun K11 hK11 => ?_; refine HC_region ?_; refine HL_r rfl rfl rfl rfl (R_assign rfl) ?_; refine HL_r rfl rfl rfl rfl (R_assign rfl) ?_; refine HL_nil ?_; refine HQ_then ?_; refine hK11 _ _ _ _ ?_; clear hK11 K11; refine HC_ret ?_; refine HQ_thenR ?_; clear hK8 K8; refine HQ_post rfl rfl (.cons (res_tmp rfl) (.cons (res_tmp rfl) .nil)) (fun w1 hs1 => ?_); refine ⟨?_, hs1.keep⟩; rw [if_neg (by omega), if_pos (by omega)]; rfl
    · try exact Bool.noConfusion h10
      try simp only [Z1, Z2, Z3, Z4, Z5, Z6, Z7, Z8, Z9, Z10, Z11, Z12, Z13] at h10
      refine HC_skip ?_; refine HQ_then ?_; refine hK8 _ _ _ _ ?_; clear hK8 K8; refine HC_seq fun K12 hK12 => ?_; refine HC_region ?_; refine HL_r rfl rfl rfl rfl (R_move rfl) ?_; refine HL_r rfl rfl rfl rfl (R_assign rfl) ?_; refine HL_r rfl rfl rfl rfl (R_assign rfl) ?_; refine HL_nil ?_; refine HQ_then ?_; refine hK12 _ _ _ _ ?_; clear hK12 K12; refine HC_ret ?_; refine HQ_post rfl rfl (.cons (res_tmp rfl) (.cons (res_tmp rfl) .nil)) (fun w1 hs1 => ?_); refine ⟨?_, hs1.keep⟩; rw [if_neg (by omega), if_neg (by omega)]; rfl
end Go.Proofs.YtlcbfphioeppaaaGreatDoor
namespace Go.Proofs.YtlcbfphioeppaaaGreatDoor
set_option linter.all false
open Go.SL Go.RowKit Go.Shelf
end Go.Proofs.YtlcbfphioeppaaaGreatDoor
namespace Go.Proofs.YtlcbfphioeppaaaGreatDoor
set_option linter.all false
open Go.SL Go.RowKit Go.Shelf
/-! ### Bytes in chunks -/
section
variable {c : Cx} {l : List (Nat × Value)} {L : List (Nat × Obj)} {X : XP} {d : List Deferred} {i : Nat} {ps : String} {af : Array Edge} {gd : Option (Nat × Bool)} {ty : TypeId}
theorem R_bytesStrO {x : Operand} {b : List UInt8} {r off n cap : Nat} {cs : Array Value} {e src dst : TypeId} {fr : Nat × Nat} (hx : evl l x = some (.slice (some ⟨r, off, none⟩) n cap)) (hk : known c L r (.cells cs e fr)) (hn : n = b.length) (ht : (cs.toList.drop off).take b.length = b.map bV)
    (hs : sliceOf c.P src = some e) (he : c.P.underlying e = some (.int .u8)) (hd : strB c.P dst = true) :
    RunsTo c d l L X ⟨some i, .convert src dst x, ty, ps, af, gd⟩ (.string (bs b)) := fun a' w hf hst => by
  subst hn; simp only [execOp]; rw [hf.eval hx]
  have hget := hst.known hk
  have hl : (loadCells ⟨r, off, none⟩ (b.map bV).length).run c.P w = .ok (b.map bV).toArray w := run_loadCells_list w ⟨r, off, none⟩ (b.map bV) fun j v hj => by
    have hlt := (List.getElem?_eq_some_iff.1 hj).1
    rw [List.length_map] at hlt
    have hj2 : cs[off + j]? = some v := by
      rw [← ht, List.getElem?_take, if_pos hlt, List.getElem?_drop] at hj
      simpa using hj
    rw [add_spot, cell_at hget]; exact hj2
  rw [List.length_map] at hl; simp only [Sem.run_bind]; rw [run_convert_bytes_string w src dst e _ _ _ (und_slice hs) he (und_str hd)]; rw [run_bytesToString w _ _ _ (b.map fun x => ((x.toNat : Nat) : Int)) (by rw [hl]; simp [bV, Function.comp_def])]
  have := fold_push b []
  rw [show (bs [] : ByteArray) = ByteArray.empty from rfl] at this; rw [this]
  rfl
end
def pieceC (s : BS) (i : Nat) : BS := (s.drop (32 * i)).take 32
def cutN (s : BS) : Nat := (s.length + 31) / 32
def cutS (s : BS) (m : Nat) : List BS := (List.range m).map fun i => padZ (pieceC s i)
def cutC (s : BS) : List BS := cutS s (cutN s)
theorem cutS_len (s : BS) (m : Nat) : (cutS s m).length = m := by unfold cutS; rw [List.length_map, List.length_range]
theorem cutC_len (s : BS) : (cutC s).length = cutN s := cutS_len _ _
theorem pieceC_len (s : BS) (i : Nat) : (pieceC s i).length = min 32 (s.length - 32 * i) := by unfold pieceC; rw [List.length_take, List.length_drop]
theorem cutS_snoc (s : BS) (i : Nat) : chC (cutS s (i + 1)) = chC (cutS s i) ++ [strV (padZ (pieceC s i))] := by
  unfold cutS
  rw [List.range_succ, List.map_append, List.map_cons, List.map_nil, chC_snoc]
theorem cutC_32 (s : BS) : ∀ x ∈ cutC s, x.length = 32 := by
  intro x hx
  unfold cutC cutS at hx
  obtain ⟨i, _, rfl⟩ := List.mem_map.1 hx
  exact padZ_len (by rw [pieceC_len]; omega)
theorem piece_at (s : BS) (i : Nat) (sp : List Value) : ((s.map bV ++ sp).toArray.toList.drop (32 * i)).take (pieceC s i).length = (pieceC s i).map bV := by
  simp only [List.toList_toArray]; rw [pieceC_len]
  by_cases h : 32 * i ≤ s.length
  · rw [List.drop_append_of_le_length (by rw [List.length_map]; exact h), List.take_append_of_le_length (by rw [List.length_drop, List.length_map]; omega)]
    unfold pieceC
    rw [List.map_take, List.map_drop]
    rcases Nat.le_total 32 (s.length - 32 * i) with h2 | h2
    · rw [Nat.min_eq_left h2]
    · rw [Nat.min_eq_right h2, List.take_of_length_le (by rw [List.length_drop, List.length_map]; omega), List.take_of_length_le (by rw [List.length_drop, List.length_map]; omega)]
  · unfold pieceC
    rw [show s.length - 32 * i = 0 by omega, Nat.min_zero, List.take_zero, List.drop_of_length_le (by omega)]; rfl
def chM (rb n cap : Nat) (p : Nat × Nat) : List (Nat × Obj) := [(p.2, .cells #[.int .i64 32] 3 (0, 0)), (p.1, .cells #[.slice (some ⟨rb, 0, none⟩) n cap] 52 (0, 0))]
set_option maxRecDepth 10000 in
theorem E_ChunkM (rb n cap : Nat) : PureE (α := Nat × Nat) Tryz.prog 63 [.slice (some ⟨rb, 0, none⟩) n cap, .int .i64 32].toArray (fun p => .func (.func 116) #[] #[pt0 p.1, pt0 p.2]) (chM rb n cap) := by
  refine pureE_of_HC Tryz.func63 rfl rfl fun w => ?_; refine HC_seq fun K1 hK1 => ?_; refine HC_region ?_; refine HL_box (cs := #[_]) rfl rfl rfl rfl fun r1 => ?_; refine HL_box (cs := #[_]) rfl rfl rfl rfl fun r2 => ?_; refine HL_r rfl rfl rfl rfl (R_assign rfl) ?_; refine HL_nil ?_; refine HQ_then ?_; refine hK1 _ _ _ _ ?_; clear hK1 K1; refine HC_seq fun K2 hK2 => ?_; refine HC_seq fun K3 hK3 => ?_; refine HC_region ?_; refine HL_r rfl rfl rfl rfl (R_load rfl (known_L (k := 0) rfl) rfl rfl) ?_; refine HL_r rfl rfl rfl rfl (R_pure rfl rfl rfl) ?_; refine HL_nil ?_; refine HQ_then ?_; refine hK3 _ _ _ _ ?_; clear hK3 K3; refine HC_cond rfl (fun h4 => ?_) (fun h4 => ?_)
  · exact absurd h4 (by decide)
  · try exact Bool.noConfusion h4
    try simp only [Z1, Z2, Z3, Z4, Z5, Z6, Z7, Z8, Z9, Z10, Z11, Z12, Z13] at h4
    refine HC_skip ?_; refine HQ_then ?_; refine hK2 _ _ _ _ ?_; clear hK2 K2; refine HC_seq fun K5 hK5 => ?_; refine HC_region ?_; refine HL_r rfl rfl rfl rfl (R_makeFunc rfl rfl) ?_; refine HL_r rfl rfl rfl rfl (R_assign rfl) ?_; refine HL_nil ?_; refine HQ_then ?_; refine hK5 _ _ _ _ ?_; clear hK5 K5; refine HC_ret ?_; refine HQ_post rfl rfl (.cons (res_tmp rfl) .nil) (fun w1 hs1 => ?_); exact ⟨(r1, r2), rfl, hs1⟩
def chunkM (rb n j : Nat) : List Value := [.slice (some ⟨rb, 32 * j, none⟩) (min 32 (n - 32 * j)) (min 32 (n - 32 * j))]
set_option maxRecDepth 10000 in
theorem I_ChunkM {rb n cap N : Nat} (hn : N = (n + 31) / 32) (hcap : n ≤ cap) (hlim : n ≤ 1000000) (p1 p2 : Nat) : Iter Tryz.prog 116 [pt0 p1, pt0 p2] (chM rb n cap (p1, p2)) 0 (nxN (chunkM rb n) N) (finN N) := by
  refine iter_of_HC Tryz.func116 rfl rfl fun q xids w2 XI XF hY => ?_; refine HC_seq fun K1 hK1 => ?_; refine HC_region ?_; refine HL_r rfl rfl rfl rfl (R_assign rfl) ?_; refine HL_nil ?_; refine HQ_then ?_; refine hK1 _ _ _ _ ?_; clear hK1 K1; refine HC_block ?_; refine HC_loop (σ := Nat) (fun i => i ≤ N) (fun i => [(0, .func (.yield q) #[] #[]), (1, pt0 p1), (2, pt0 p2), (4, .int .i64 ((32 * i : Nat) : Int))]) (fun _ => []) (fun i => XI i) (fun i => N - i) 0 (Nat.zero_le _) (.cons rfl (.cons rfl (.cons rfl (.cons rfl .nil)))) (List.nil_sublist _) (fun _ _ h => h) ?_; intro i hi; refine HC_seq fun K2 hK2 => ?_; refine HC_seq fun K3 hK3 => ?_; refine HC_region ?_; refine HL_r rfl rfl rfl rfl (R_move rfl) ?_; refine HL_r rfl rfl rfl rfl (R_load rfl (known_R (k := 1) rfl) rfl rfl) ?_; refine HL_r rfl rfl rfl rfl (R_lenSl rfl rfl) ?_; refine HL_r rfl rfl rfl rfl (R_pure rfl rfl rfl) ?_; refine HL_nil ?_; refine HQ_then ?_; refine hK3 _ _ _ _ ?_; clear hK3 K3; refine HC_cond rfl (fun h4 => ?_) (fun h4 => ?_)
  · try exact Bool.noConfusion h4
    try simp only [Z1, Z2, Z3, Z4, Z5, Z6, Z7, Z8, Z9, Z10, Z11, Z12, Z13] at h4
    refine HC_skip ?_; refine HQ_then ?_; refine hK2 _ _ _ _ ?_; clear hK2 K2; refine HC_seq fun K5 hK5 => ?_; refine HC_block ?_; refine HC_seq fun K6 hK6 => ?_
    obtain ⟨M, hM⟩ : ∃ M, M = min 32 (n - 32 * i) := ⟨_, rfl⟩
    have hM1 : M ≤ 32 := by omega
    have hM2 : 0 < M := by omega
    refine HC_draw 7 (by kernel_rfl) (by kernel_rfl) ?_; refine HD_r rfl rfl rfl (R_load rfl (known_R (k := 0) rfl) rfl rfl) ?_; refine HD_r rfl rfl rfl (R_load rfl (known_R (k := 1) rfl) rfl rfl) ?_; refine HD_r rfl rfl rfl (R_move rfl) ?_; refine HD_r rfl rfl rfl (R_sliceSl (kl := some (32 * i)) (kh := none) (km := none) (sz := 1) (m := 32 * i) (q := n) (z := cap) rfl rfl rfl ⟨_, rfl⟩ trivial trivial rfl rfl rfl (by omega) hcap (Nat.le_refl _) (fun _ => rfl) rfl) ?_; refine HD_r rfl rfl rfl (R_lenSl rfl rfl) ?_
    refine HD_r rfl rfl rfl (R_min2 (r := ((M : Nat) : Int)) rfl rfl (by rw [hM]; split <;> omega)) ?_; refine HD_r rfl rfl rfl (R_assign rfl) ?_; refine HD_end ?_; refine HL_nil ?_; refine HQ_then ?_; refine hK6 _ _ _ _ ?_; clear hK6 K6; refine HC_seq fun K7 hK7 => ?_; refine HC_region ?_; refine HL_r rfl rfl rfl rfl (R_move rfl) ?_; refine HL_r rfl rfl rfl rfl (R_load rfl (known_R (k := 1) rfl) rfl rfl) ?_; refine HL_r rfl rfl rfl rfl (R_move rfl) ?_; refine HL_r rfl rfl rfl rfl (R_move rfl) ?_; refine HL_r rfl rfl rfl rfl (R_move rfl) ?_
    refine HL_r rfl rfl rfl rfl (R_pure rfl rfl rfl) ?_; refine HL_as (show _ = Value.int .i64 ((32 * i + M : Nat) : Int) from by rw [wrap_i64 (by omega) (by omega)]; congr 1 <;> omega) ?_; refine HL_r rfl rfl rfl rfl (R_move rfl) ?_; refine HL_r rfl rfl rfl rfl (R_move rfl) ?_
    refine HL_r rfl rfl rfl rfl (R_pure rfl rfl rfl) ?_; refine HL_as (show _ = Value.int .i64 ((32 * i + M : Nat) : Int) from by rw [wrap_i64 (by omega) (by omega)]; congr 1 <;> omega) ?_
    refine HL_r rfl rfl rfl rfl (R_sliceSl (kl := some (32 * i)) (kh := some (32 * i + M)) (km := some (32 * i + M)) (sz := 1) (m := 32 * i) (q := 32 * i + M) (z := 32 * i + M) (off' := 32 * i) rfl rfl rfl ⟨_, rfl⟩ ⟨_, rfl⟩ ⟨_, rfl⟩ rfl rfl rfl (by omega) (Nat.le_refl _) (by omega) (fun h => by cases h) (by rw [if_neg (by omega)]; omega)) ?_; refine HL_as (show _ = Value.slice (some ⟨rb, 32 * i, none⟩) (min 32 (n - 32 * i)) (min 32 (n - 32 * i)) from by congr 1 <;> omega) ?_; refine HL_yield (XT := XI (i + 1)) (XF := XF) rfl rfl rfl rfl (hY i (chunkM rb n i) (i + 1) ⟨by omega, rfl, rfl⟩) ?_ ?_
    all_goals refine HL_r rfl rfl rfl rfl (R_pure rfl rfl rfl) ?_
    all_goals refine HL_nil ?_
    all_goals (
     refine HQ_then ?_; refine hK7 _ _ _ _ ?_; clear hK7 K7; refine HC_cond rfl (fun h8 => ?_) (fun h8 => ?_)
     · try exact Bool.noConfusion h8
       all_goals try simp only [Z1, Z2, Z3, Z4, Z5, Z6, Z7, Z8, Z9, Z10, Z11, Z12, Z13] at h8
       all_goals (
        refine HC_ret ?_; refine HQ_blockR ?_; refine HQ_thenR ?_; clear hK5 K5; refine HQ_thenR ?_; refine HQ_blockR ?_; refine HQ_post rfl rfl .nil (fun w1 hs1 => ?_)
        obtain ⟨xs1, hx1⟩ := hs1.now
        exact ⟨⟨_, rfl⟩, hs1.keep, .inr ⟨_, hx1⟩⟩
        skip)
     · try exact Bool.noConfusion h8
       all_goals try simp only [Z1, Z2, Z3, Z4, Z5, Z6, Z7, Z8, Z9, Z10, Z11, Z12, Z13] at h8
       all_goals (
        refine HC_skip ?_; refine HQ_blockN ?_; refine HQ_then ?_; refine hK5 _ _ _ _ ?_; clear hK5 K5; refine HC_region ?_; refine HL_r rfl rfl rfl rfl (R_move rfl) ?_; refine HL_r rfl rfl rfl rfl (R_load rfl (known_R (k := 0) rfl) rfl rfl) ?_
        refine HL_r rfl rfl rfl rfl (R_pure rfl rfl rfl) ?_; refine HL_as (show _ = Value.int .i64 ((32 * (i + 1) : Nat) : Int) from by rw [wrap_i64 (by omega) (by omega)]; congr 1 <;> omega) ?_; refine HL_r rfl rfl rfl rfl (R_assign rfl) ?_; refine HL_nil ?_; refine HQ_then ?_; exact HQ_again (i + 1) (by omega) (by omega) (.cons rfl (.cons rfl (.cons rfl (.cons rfl .nil)))) (List.nil_sublist _) (fun _ _ h => h)
        skip)
     skip)
  · try exact Bool.noConfusion h4
    try simp only [Z1, Z2, Z3, Z4, Z5, Z6, Z7, Z8, Z9, Z10, Z11, Z12, Z13] at h4
    refine HC_exit ?_; refine HQ_thenE ?_; clear hK2 K2; refine HQ_thenE ?_; refine HQ_blockE ?_; refine HQ_postN rfl rfl .nil (fun w1 hs1 => ?_)
    obtain ⟨xs1, hx1⟩ := hs1.now
    exact ⟨⟨_, rfl⟩, hs1.keep, .inl ⟨i, _, (by show i = N; omega), hx1⟩⟩
set_option maxRecDepth 10000 in
theorem T_cut {s : BS} (hl : s.length ≤ 1000000) : PureT (α := { row : Row // rowOk 1 (cutN s) (chC (cutC s)) row }) Tryz.prog 183 [strV s].toArray (fun x => rowV (cutN s) x.1) [] (fun x => rowL 9 (chC (cutC s)) x.1) [] := by
  obtain ⟨N, hN⟩ : ∃ N, N = cutN s := ⟨_, rfl⟩
  have hN2 : N = (s.length + 31) / 32 := hN
  have hC : cutC s = cutS s N := by rw [hN]; rfl
  rw [hC, ← hN]; refine pureT_of_HC Tryz.func183 rfl rfl fun w => ?_; refine HC_seq fun K1 hK1 => ?_; refine HC_region ?_; refine HL_r rfl rfl rfl rfl (R_assign rfl) ?_; refine HL_nil ?_; refine HQ_then ?_; refine hK1 _ _ _ _ ?_; clear hK1 K1; refine HC_seq fun K2 hK2 => ?_; refine HC_region ?_; refine HL_alloc (cs := #[_]) rfl rfl rfl rfl fun r1 => ?_; refine HL_nil ?_; refine HQ_then ?_; refine hK2 _ _ _ _ ?_; clear hK2 K2; refine HC_seq fun K3 hK3 => ?_; refine HC_seq fun K4 hK4 => ?_; refine HC_region ?_; refine HL_r rfl rfl rfl rfl (R_move rfl) ?_; refine HL_strBytes rfl rfl rfl rfl rfl rfl fun rb kb => ?_; refine HL_callPE rfl rfl rfl (enters_of Tryz.func63 (by kernel_rfl) rfl) (E_ChunkM rb s.length (s.length + kb)) fun pp => ?_
  obtain ⟨p1, p2⟩ := pp
  change HL _ _ _ [(p2, _), (p1, _), (rb, _), (r1, _)] _ _ _ _; refine HL_nil ?_; refine HQ_then ?_; refine hK4 _ _ _ _ ?_; clear hK4 K4; refine HC_block ?_; refine HC_sel [3, 0, 1, 2] (L' := [_, _, _, _]) (by decide) rfl ?_
  refine HC_rangeR (τ := Unit) (fun i (q : Nat × Row) => i ≤ N ∧ i = q.1 ∧ rowOk 1 q.1 (chC (cutS s q.1)) q.2) (fun q => (r1, .cells #[rowV q.1 q.2] 45 (0, 0)) :: rowL 9 (chC (cutS s q.1)) q.2) (fun _ _ => False) (fun _ => []) [(p2, _), (p1, _), (rb, _)] (0, none) rfl rfl (enters_of Tryz.func116 (by kernel_rfl) rfl) (I_ChunkM (rb := rb) (cap := s.length + kb) hN2 (by omega) hl p1 p2) (by rintro _ _ _ ⟨_, rfl, _⟩; rfl) rfl (fun q hq => .inl (by rcases List.mem_cons.1 hq with rfl | hq; exact List.mem_cons_self; rw [List.mem_singleton.1 hq]; exact List.mem_cons_of_mem _ List.mem_cons_self)) rfl ⟨Nat.zero_le _, rfl, rfl, rfl⟩ ?_ ?_ ?_
  · rintro q Xr Xb w3 i _ _ ⟨i2, row⟩ ⟨hii, rfl, rfl⟩ ⟨him, he, hrow⟩ Kr hKr
    simp only at he
    obtain rfl := he
    simp only at hrow
    unfold chunkM
    refine HC_region ?_; refine HL_r rfl rfl rfl rfl (R_assign rfl) ?_; refine HL_nil ?_; refine HQ_then ?_; refine hKr _ _ ?_; clear hKr; refine HC_block ?_
    have hfull := P_full (s := pieceC s i) (by rw [pieceC_len]; omega)
    have hsn := cutS_snoc s i
    obtain ⟨sv, hsv⟩ : ∃ x, x = padZ (pieceC s i) := ⟨_, rfl⟩
    rw [← hsv] at hfull hsn
    refine HC_drawB [] [(1, .pure), (3, .pure), (4, .grow (geNew (slV 1) (.cells #[strV sv] 9 (0, 0))))] 5 [0, 1, 2, 3, 4] (by kernel_rfl) (by kernel_rfl) (by first | exact (fun _ h => nomatch h) | simp [SubS] | (intro p hp; simp [hp])) ?_; refine HB_r (k := 0) rfl rfl rfl rfl rfl (R_load (v := rowV i row) rfl (known_L (k := 0) rfl) rfl rfl) ?_; refine HB_p (k := 1) rfl rfl rfl rfl rfl (fun _ hS => (R_move rfl)) ?_; refine HB_r (k := 2) rfl rfl rfl rfl rfl (R_bytesStrO (b := pieceC s i) rfl (known_R (k := 2) rfl) (pieceC_len s i).symm (piece_at s i _) rfl rfl rfl) ?_; refine HB_callP (k := 3) rfl rfl rfl rfl rfl (enters_of Tryz.func57 (by kernel_rfl) rfl) hfull ?_; refine HB_buildSlice (k := 4) (n := 1) (sz := 1) (vs := [_]) (zs := [_]) (r := [strV sv]) rfl rfl rfl rfl rfl rfl rfl rfl rfl rfl rfl (by show (madeCells #[_] _).toList = _; rw [made_one]; exact rfl) rfl fun rv => ?_; refine HB_end ?_; refine HL_appendRow (L0 := [_, _]) (xs := chC (cutS s i)) (row := row) (n := i) (sz := 1) (b := 16) (news := [strV sv]) (List.perm_append_comm (l₁ := [_, _])) rfl rfl rfl rfl (known_L (k := 0) rfl) rfl rfl rfl rfl rfl (by decide) rfl rfl rfl (by decide) hrow (by omega) (by omega) fun ra cap sp hra => ?_; refine HL_store (k := 2) (cs' := #[rowV (i + 1) (some (ra, cap, sp))]) rfl rfl rfl rfl rfl rfl rfl rfl rfl rfl ?_; refine HL_nil ?_; refine HQ_blockN ?_; refine HQ_sel [2, 0] (L' := [_, _]) (by decide) rfl ?_; exact HQ_round (i + 1, some (ra, cap, sp)) ⟨by omega, rfl, by simp only; rw [hsn]; exact hra⟩ (by simp only; rw [hsn]; rfl)
  · rintro D i ⟨i2, row⟩ hfi ⟨him, he, hrow⟩
    simp only at he hrow
    obtain rfl : N = i := Eq.symm hfi
    obtain rfl := he
    refine HQ_blockN ?_; refine HQ_then ?_; refine hK3 _ _ _ _ ?_; clear hK3 K3; refine HC_seq fun K5 hK5 => ?_; refine HC_region ?_; refine HL_r rfl rfl rfl rfl (R_load (v := rowV N row) rfl (known_L (k := 1) rfl) rfl rfl) ?_; refine HL_r rfl rfl rfl rfl (R_assign rfl) ?_; refine HL_nil ?_; refine HQ_then ?_; refine hK5 _ _ _ _ ?_; clear hK5 K5; refine HC_ret ?_; refine HQ_mark (k := 0) rfl rfl ?_; refine HQ_post rfl rfl (.cons (res_tmp rfl) .nil) (fun w1 hs1 => ?_); exact ⟨⟨row, hrow⟩, rfl, hs1.weakL (.cons _ (.cons _ (List.sublist_append_left _ _)))⟩
  · exact fun _ _ _ h => h.elim
set_option maxRecDepth 10000 in
theorem P_need {n : Nat} (hn : n ≤ 4611686018427387904) : Pure Tryz.prog 184 [.int .i64 (n : Int)].toArray (.int .i64 (((n + 31) / 32 : Nat) : Int)) := by
  refine pure_of_HC Tryz.func184 rfl rfl fun w => ?_; refine HC_seq fun K1 hK1 => ?_; refine HC_region ?_; refine HL_r rfl rfl rfl rfl (R_assign rfl) ?_; refine HL_nil ?_; refine HQ_then ?_; refine hK1 _ _ _ _ ?_; clear hK1 K1; refine HC_seq fun K2 hK2 => ?_; refine HC_region ?_; refine HL_r rfl rfl rfl rfl (R_move rfl) ?_
  refine HL_r rfl rfl rfl rfl (R_pure rfl rfl rfl) ?_; refine HL_as (show _ = Value.int .i64 ((n + 32 : Nat) : Int) from by rw [wrap_i64 (by omega) (by omega)]; congr 1 <;> omega) ?_
  refine HL_r rfl rfl rfl rfl (R_pure rfl rfl rfl) ?_; refine HL_as (show _ = Value.int .i64 ((n + 31 : Nat) : Int) from by rw [wrap_i64 (by omega) (by omega)]; congr 1 <;> omega) ?_; refine HL_r rfl rfl rfl rfl (R_pure rfl rfl rfl) ?_; refine HL_as (show _ = Value.int .i64 (((n + 31) / 32 : Nat) : Int) from congrArg (Value.int .i64) (quo_i64 (by omega) (by decide) (by omega))) ?_; refine HL_r rfl rfl rfl rfl (R_assign rfl) ?_; refine HL_nil ?_; refine HQ_then ?_; refine hK2 _ _ _ _ ?_; clear hK2 K2; refine HC_ret ?_; refine HQ_post rfl rfl (.cons (res_tmp rfl) .nil) (fun w1 hs1 => ?_); exact ⟨rfl, hs1.keep⟩
end Go.Proofs.YtlcbfphioeppaaaGreatDoor
namespace Go.Proofs.YtlcbfphioeppaaaGreatDoor
set_option linter.all false
open Go.SL Go.RowKit Go.Shelf
/-! ### Roots of values, in plain Lean -/
def plainT (x : Ty) : Bool := decide (x.k = 1) || decide (x.k = 2)
def catB (items : List Vl) (x : Ty) : BS := (items.map fun v => putV v x).flatten
def rowM (k n : Int) (ins : List Ty) (items : List Vl) (rs : List BS) : BS :=
  if k = 7 then rootC rs ins.length else if plainT (ins.getD 0 default) = true then rootC (cutC (catB items (ins.getD 0 default))) ((n.toNat * (sizT (ins.getD 0 default)).toNat + 31) / 32) else rootC rs n.toNat
mutual
def rootV : Vl → Ty → BS
  | .mk a b c d bits _ items _ pick, t =>
    if t.k = 1 ∨ t.k = 2 then leW [a, b, c, d] 32 else if t.k = 4 then mixE (rowM t.k t.n t.ins items (rootL items t.k pick t.ins 0)) items.length
    else if t.k = 5 then rootC (cutC (packB bits)) ((t.n.toNat + 255) / 256) else if t.k = 6 then mixE (rootC (cutC (packB bits)) ((t.n.toNat + 255) / 256)) bits.length
    else if t.k = 8 then mixE ((rootL items t.k pick t.ins 0).headD []) pick.toNat else rowM t.k t.n t.ins items (rootL items t.k pick t.ins 0)
def rootL : List Vl → Int → Int → List Ty → Nat → List BS
  | [], _, _, _, _ => []
  | x :: xs, k, pick, ins, i => rootV x (inTy k pick ins i) :: rootL xs k pick ins (i + 1)
end
section
variable {a b c d : Nat} {bits : List Bool} {pb : Pl} {items : List Vl} {pi : Pl} {pick k n : Int} {p : Pl} {ins : List Ty}
theorem rootV_mk : rootV (.mk a b c d bits pb items pi pick) (.mk k n p ins) = if k = 1 ∨ k = 2 then leW [a, b, c, d] 32 else if k = 4 then mixE (rowM k n ins items (rootL items k pick ins 0)) items.length
    else if k = 5 then rootC (cutC (packB bits)) ((n.toNat + 255) / 256) else if k = 6 then mixE (rootC (cutC (packB bits)) ((n.toNat + 255) / 256)) bits.length
    else if k = 8 then mixE ((rootL items k pick ins 0).headD []) pick.toNat else rowM k n ins items (rootL items k pick ins 0) := by rw [rootV]; rfl
end
theorem rootL_len : ∀ (l : List Vl) (k pick : Int) (ins : List Ty) (i : Nat), (rootL l k pick ins i).length = l.length
  | [], _, _, _, _ => by rw [rootL]; rfl
  | x :: xs, k, pick, ins, i => by rw [rootL, List.length_cons, rootL_len xs, List.length_cons]
theorem rootL_n8 {k : Int} (h8 : k ≠ 8) (pick : Int) (ins : List Ty) : ∀ (l : List Vl) (i : Nat), rootL l k pick ins i = rootL l k 0 ins i
  | [], i => by rw [rootL, rootL]
  | x :: xs, i => by rw [rootL, rootL, rootL_n8 h8 pick ins xs (i + 1), inTy_n8 h8]
theorem rootL_mem : ∀ {l : List Vl} {k pick : Int} {ins : List Ty} {i : Nat} {s : BS}, s ∈ rootL l k pick ins i → ∃ j x, l[j]? = some x ∧ s = rootV x (inTy k pick ins (i + j))
  | [], _, _, _, _, _, h => by rw [rootL] at h; cases h
  | y :: ys, k, pick, ins, i, s, h => by
    rw [rootL] at h
    rcases List.mem_cons.1 h with rfl | h
    · exact ⟨0, y, rfl, rfl⟩
    · obtain ⟨j, x, h1, h2⟩ := rootL_mem h
      exact ⟨j + 1, x, h1, by rw [h2, show i + 1 + j = i + (j + 1) by omega]⟩
theorem rootL_take (k : Int) (ins : List Ty) : ∀ {l : List Vl} {i j : Nat} {x : Vl}, l[j]? = some x → (rootL l k 0 ins i).take (j + 1) = (rootL l k 0 ins i).take j ++ [rootV x (inTy k 0 ins (i + j))]
  | [], _, _, _, h => by simp at h
  | y :: ys, i, 0, x, h => by
    simp at h; subst h; rw [rootL]; rfl
  | y :: ys, i, j + 1, x, h => by
    rw [List.getElem?_cons_succ] at h; rw [rootL, List.take_succ_cons, List.take_succ_cons, rootL_take k ins h, show i + 1 + j = i + (j + 1) by omega]; rfl
theorem chk_in' {k n : Int} {p : Pl} {ins : List Ty} {d : Int} (hk : 1 ≤ k ∧ k ≤ 8) (ho : okForm k n ins.length = true) : chk (.mk k n p ins) d = if 6 ≤ d then 7 else chkL ins (d + 1) := by
  rw [chk, if_neg (by omega), if_neg (by rw [ho]; simp)]
theorem chkL_zero : ∀ {ins : List Ty} {d : Int}, (∀ x ∈ ins, chk x d = 0) → chkL ins d = 0
  | [], _, _ => by rw [chkL]
  | x :: xs, d, h => by
    rw [chkL, if_pos (h x List.mem_cons_self)]; exact chkL_zero fun y hy => h y (List.mem_cons_of_mem _ hy)
theorem chk_down' (t : Ty) : ∀ d : Int, chk t (d + 1) = 0 → chk t d = 0 := by
  induction t using Ty.ind with
  | h k n p ins ih =>
    intro d h
    obtain ⟨hk, ho, h6, hi⟩ := chk_mk h
    rw [chk_in' hk ho, if_neg (by omega)]; exact chkL_zero fun x hx => ih x hx (d + 1) (hi x hx)
theorem chk_dn {t : Ty} : ∀ {d : Nat}, chk t (d : Int) = 0 → chk t 0 = 0
  | 0, h => h
  | d + 1, h => chk_dn (d := d) (chk_down' t d (by rw [Int.natCast_add] at h; exact h))
theorem chk_sub {k n : Int} {p : Pl} {ins : List Ty} (h : chk (.mk k n p ins) 0 = 0) : ∀ x ∈ ins, chk x 0 = 0 := fun x hx => chk_dn (d := 1) ((chk_mk h).2.2.2 x hx)
/-- A number's type. -/
theorem plain_fix {x : Ty} (hc : chk x 0 = 0) (hp : plainT x = true) : isFix x = true ∧ 1 ≤ sizT x ∧ sizT x ≤ 32 ∧ ∀ v : Vl, fitT v x = 0 → ((putV v x).length : Int) = sizT x := by
  obtain ⟨k, n, p, ins⟩ := x
  obtain ⟨hk, hf, _, _⟩ := chk_mk hc
  have hk2 : k = 1 ∨ k = 2 := by
    unfold plainT at hp
    rw [Bool.or_eq_true] at hp; exact hp.imp of_decide_eq_true of_decide_eq_true
  unfold okForm at hf
  have hins : ins.length = 0 := by
    rcases hk2 with rfl | rfl
    all_goals generalize ins.length = m at hf ⊢
    all_goals simp at hf
    all_goals omega
  have hi : ins = [] := List.length_eq_zero_iff.1 hins
  subst hi
  rcases hk2 with rfl | rfl
  · have hn : 1 ≤ n ∧ n ≤ 32 := by simp at hf; omega
    refine ⟨isFix_iff.2 ⟨hc, by rw [fixT, fixL]; rfl⟩, by rw [sizT, if_pos rfl]; exact hn.1, by rw [sizT, if_pos rfl]; exact hn.2, fun v _ => ?_⟩
    obtain ⟨a, b, c, d, bits, pb, items, pi, pick⟩ := v
    rw [putV_mk, if_pos rfl, sizT, if_pos rfl, leW_len _ (by omega)]; omega
  · refine ⟨isFix_iff.2 ⟨hc, by rw [fixT, fixL]; rfl⟩, by rw [sizT, if_neg (by decide), if_pos rfl]; decide, by rw [sizT, if_neg (by decide), if_pos rfl]; decide, fun v _ => ?_⟩
    obtain ⟨a, b, c, d, bits, pb, items, pi, pick⟩ := v
    rw [putV_mk, if_neg (by decide), if_pos rfl, sizT, if_neg (by decide), if_pos rfl, leW_len _ (by decide)]
    rfl
theorem cat_len' {x : Ty} {z : Nat} : ∀ {items : List Vl}, (∀ v ∈ items, (putV v x).length = z) → (catB items x).length = items.length * z
  | [], _ => by unfold catB; simp
  | v :: l, h => by
    have ih := cat_len' (items := l) fun y hy => h y (List.mem_cons_of_mem _ hy)
    unfold catB at ih ⊢
    rw [List.map_cons, List.flatten_cons, List.length_append, ih, h v List.mem_cons_self, List.length_cons, Nat.succ_mul, Nat.add_comm]
theorem fit_more {a b c d : Nat} {bits : List Bool} {pb : Pl} {items : List Vl} {pi : Pl} {pick k n dp : Int} {p : Pl} {ins : List Ty} (hc : chk (.mk k n p ins) dp = 0) (h : fitT (.mk a b c d bits pb items pi pick) (.mk k n p ins) = 0) :
    (k = 3 ∨ k = 4 → 1 ≤ n ∧ n ≤ 512 ∧ (items.length : Int) ≤ n ∧ ins.length = 1) ∧ (k = 5 ∨ k = 6 → 1 ≤ n ∧ n ≤ 512 ∧ (bits.length : Int) ≤ n) ∧ (k = 7 → items.length = ins.length ∧ 1 ≤ ins.length ∧ ins.length ≤ 16) := by
  obtain ⟨h1, h2, _⟩ := fit_split h
  obtain ⟨hk, hf, _, _⟩ := chk_mk hc
  rw [ofT_mk k n ins.length a b c d bits pb items pi pick _ rfl] at h2; simp only [onlyB_mk] at h2
  unfold okForm at hf
  have h9 : k = 1 ∨ k = 2 ∨ k = 3 ∨ k = 4 ∨ k = 5 ∨ k = 6 ∨ k = 7 ∨ k = 8 := by omega
  rcases h9 with rfl | rfl | rfl | rfl | rfl | rfl | rfl | rfl
  all_goals generalize items.length = I at *
  all_goals generalize bits.length = J at *
  all_goals generalize ins.length = K at *
  all_goals simp at h1 h2 hf ⊢
  all_goals omega
theorem need_bits {bits : List Bool} {n : Int} (h : (bits.length : Int) ≤ n) : (cutC (packB bits)).length ≤ (n.toNat + 255) / 256 := by
  rw [cutC_len]
  unfold cutN
  rw [packB_len]; omega
theorem rootV_len (v : Vl) : ∀ (t : Ty) (dp : Nat), chk t (dp : Int) = 0 → fitT v t = 0 → (rootV v t).length = 32 := by
  induction v using Vl.ind with
  | h a b c d bits pb items pi pick ih =>
  intro t dp hck hfit
  obtain ⟨k, n, p, ins⟩ := t
  obtain ⟨hk8, ho, h6, hci⟩ := chk_mk hck
  obtain ⟨hf1, hf2, hf3⟩ := fit_split hfit
  obtain ⟨q1, q2, q3⟩ := fit_more hck hfit
  have hxl : ∀ i, i < items.length → inX k pick i < ins.length := fun i hi => inX_lt (v := .mk a b c d bits pb items pi pick) hck hf2 hi
  have hrs : ∀ s ∈ rootL items k pick ins 0, s.length = 32 := fun s hs => by
    obtain ⟨j, x, h1, rfl⟩ := rootL_mem hs
    have hlt := (List.getElem?_eq_some_iff.1 h1).1
    rw [Nat.zero_add]
    have hty := inTy_get (hxl j hlt)
    exact ih x (List.mem_of_getElem? h1) _ (dp + 1) (hci _ hty.2) (by have := fitL_get hf3 h1; rwa [Nat.zero_add] at this)
  have hrl := rootL_len items k pick ins 0
  have hrow : k = 3 ∨ k = 4 ∨ k = 7 → (rowM k n ins items (rootL items k pick ins 0)).length = 32 := fun hk => by
    unfold rowM
    split
    · rename_i h7
      exact rootC_len (by have := q3 h7; omega) hrs
    · rename_i h7
      have := q1 (by omega)
      split
      · rename_i hp
        have hin0 : ins.getD 0 default ∈ ins := by
          match ins, this.2.2.2 with
          | [x], _ => exact List.mem_cons_self
        have hc0 : chk (ins.getD 0 default) 0 = 0 := chk_sub (chk_dn hck) _ hin0
        obtain ⟨f1, f2, f3, f4⟩ := plain_fix hc0 hp
        refine rootC_len ?_ (cutC_32 _); rw [cutC_len]
        unfold cutN
        have hz : ∀ v ∈ items, (putV v (ins.getD 0 default)).length = (sizT (ins.getD 0 default)).toNat := fun v hv => by
          obtain ⟨j, hj⟩ := List.getElem?_of_mem hv
          have hg := fitL_get hf3 hj
          rw [Nat.zero_add] at hg
          have he : inTy k pick ins j = ins.getD 0 default := by unfold inTy inX; rw [if_neg h7, if_neg (by omega)]
          rw [he] at hg
          have := f4 v hg
          omega
        rw [cat_len' hz]
        have hm : items.length * (sizT (ins.getD 0 default)).toNat ≤ n.toNat * (sizT (ins.getD 0 default)).toNat := Nat.mul_le_mul_right _ (by omega)
        omega
      · exact rootC_len (by omega) hrs
  rw [rootV_mk]
  split
  · exact leW_len _ (Nat.le_refl _)
  · split
    · exact kec_len _
    · split
      · rename_i h5
        exact rootC_len (need_bits (q2 (by omega)).2.2) (cutC_32 _)
      · split
        · exact kec_len _
        · split
          · exact kec_len _
          · exact hrow (by omega)
end Go.Proofs.YtlcbfphioeppaaaGreatDoor
namespace Go.Proofs.YtlcbfphioeppaaaGreatDoor
set_option linter.all false
open Go.SL Go.RowKit Go.Shelf
section
variable {c : Cx} {l : List (Nat × Value)} {L E : List (Nat × Obj)} {X : XP} {Q : Exit → Act → World → Prop} {d : List Deferred}
variable {ops : Array Oper} {rest : List Nat} {i k : Nat} {v : Value} {o : Oper} {tb : Kbs} {S : List (Nat × Obj)} {T : List (Nat × Obj) → Act → Prop}
theorem HB_callT {α : Type} {T0 L0 Rl : List (Nat × Obj)} {f : Operand} {args : Array Operand} {at_ : Array TypeId} {g : FuncId} {vs : List Value} {V : α → Value} {LL : α → List (Nat × Obj)} {ty : TypeId} {ps : String} {af : Array Edge} {gd : Option (Nat × Bool)}
    (hp : E.Perm (T0 ++ L0)) (hk : nth ops.toList k = some ⟨some i, .call ⟨.value f, args, at_⟩, ty, ps, af, gd⟩) (hg : goes l ops ⟨some i, .call ⟨.value f, args, at_⟩, ty, ps, af, gd⟩ = some true) (hi : Nat.ble (i + 1) c.n = true) (hA : tb k = .turn) (hca : callArgs l f args = some (g, vs)) (eg : Enters c.P g)
    (hpt : PureT c.P g vs.toArray V T0 LL Rl) (hR : ∀ p ∈ Rl, known c L0 p.1 p.2) (hS : ∀ x, SubS S (LL x ++ L0)) (h : ∀ x, HB c d ((i, V x) :: l) (LL x ++ L0) X S ops tb rest T) : HB c d l E X S ops tb (k :: rest) T := fun a hf => by
  refine ⟨_, nth_arr hk, ?_⟩; rw [hA]; refine .inl ⟨α, V, fun x => LL x ++ L0, ⟨goes_wanted hf hg, fun w hs => ?_⟩, fun x => ⟨hS x, h x _ (hf.put (Nat.le_of_ble_eq_true hi))⟩⟩
  have hs := hs.perm hp
  obtain ⟨hd1, _, hd3⟩ := List.pairwise_append.1 hs.distinct
  refine act_call hf hca eg ((hpt.run w (fun p hp => (hs.own p (List.mem_append_left _ hp)).2.2) (fun p hp => ?_) hd1 (fun p hp q hq => ?_)).mono fun _ _ ⟨x, he, hk, h1, h2⟩ => ⟨V x, he, x, rfl, hs.turnT hk h1 h2⟩)
  · exact (hR p hp).elim (fun h => (hs.own _ (List.mem_append_right _ h)).2.2) hs.readR
  · rcases hR p hp with h | h
    · exact fun e => hd3 q hq _ h e.symm
    · rintro e
      obtain ⟨h1, _, h3⟩ := hs.ext _ h
      have h3 := lt_of_some h3
      rcases (hs.own q (List.mem_append_left _ hq)).1 with h4 | h4
      · exact h1 (e ▸ h4)
      · simp only at h3 e; omega
end
/-! ### The roots of items; the root of bits -/
theorem rowNe {n : Nat} {xs : List Value} (h : xs.length = n) : rowOk 1 n xs (some (0, n, [])) := ⟨by rw [h, Nat.mul_one], by simp⟩
set_option maxRecDepth 10000 in
theorem T_mroots {R : List (Nat × Obj)} {k n : Int} {p : Pl} {ins : List Ty} {items : List Vl} {pi : Pl} (ht : Ty.In R (.mk k n p ins)) (h8 : k ≠ 8) (hs : Seg R items.length (vlsC items) pi) (hl : items.length ≤ 600) (hx : ∀ i, i < items.length → inX k 0 i < ins.length)
    (hb : ∀ (i : Nat) x, items[i]? = some x → PureR Tryz.prog 60 [(inTy k 0 ins i).val, x.val].toArray (strV (rootV x (inTy k 0 ins i))) R) :
    PureT (α := { row : Row // rowOk 1 items.length (chC (rootL items k 0 ins 0)) row }) Tryz.prog 112 [Ty.val (.mk k n p ins), plV items.length pi].toArray (fun x => rowV items.length x.1) [] (fun x => rowL 9 (chC (rootL items k 0 ins 0)) x.1) R := by
  cases ht with
  | @mk k n p ins hk hn hlt hst hit =>
  have hRL := rootL_len items k 0 ins 0
  obtain ⟨RS, hRS⟩ : ∃ x, x = rootL items k 0 ins 0 := ⟨_, rfl⟩
  have htk := fun i x (h : items[i]? = some x) => rootL_take k ins (i := 0) h
  simp only [← hRS, Nat.zero_add] at htk; rw [← hRS] at hRL ⊢; refine pureT_of_HC Tryz.func112 rfl rfl fun w => ?_; refine HC_seq fun K1 hK1 => ?_; refine HC_region ?_; refine HL_box (cs := #[_, _, _]) rfl rfl rfl rfl fun r1 => ?_; refine HL_r rfl rfl rfl rfl (R_assign rfl) ?_; refine HL_nil ?_; refine HQ_then ?_; refine hK1 _ _ _ _ ?_; clear hK1 K1; refine HC_seq fun K2 hK2 => ?_; refine HC_region ?_; refine HL_r rfl rfl rfl rfl (R_assign rfl) ?_; refine HL_nil ?_; refine HQ_then ?_; refine hK2 _ _ _ _ ?_; clear hK2 K2; refine HC_seq fun K3 hK3 => ?_; refine HC_seq fun K4 hK4 => ?_; refine HC_region ?_; refine HL_r rfl rfl rfl rfl (R_move rfl) ?_; refine HL_r rfl rfl rfl rfl (R_lenPl rfl hs rfl) ?_; refine HL_r rfl rfl rfl rfl (R_move rfl) ?_; refine HL_nil ?_; refine HQ_then ?_; refine hK4 _ _ _ _ ?_; clear hK4 K4; refine HC_block ?_; refine HC_loop (σ := Nat × Row) (fun q => q.1 ≤ items.length ∧ rowOk 1 q.1 (chC (RS.take q.1)) q.2) (fun q => [(2, pt0 r1), (5, rowV q.1 q.2), (9, plV items.length pi), (10, .int .i64 (items.length : Int)), (11, .int .i64 (q.1 : Int))]) (fun q => tBlk r1 (.mk k n p ins) :: rowL 9 (chC (RS.take q.1)) q.2) (fun _ _ _ => True) (fun q => items.length - q.1) (0, none) ⟨Nat.zero_le _, by rw [List.take_zero]; exact ⟨rfl, rfl⟩⟩ (.cons rfl (.cons rfl (.cons rfl (.cons rfl (.cons rfl .nil))))) (List.Sublist.refl _) (fun _ _ h => h) ?_; rintro ⟨i, row⟩ ⟨hi1, hrow⟩; simp only at hi1 hrow; change HC _ _ [(2, _), (5, rowV i row), (9, _), (10, _), (11, .int .i64 (i : Int))] ((r1, _) :: rowL _ (chC (RS.take i)) row) _ _ _; refine HC_seq fun K5 hK5 => ?_; refine HC_region ?_; refine HL_r rfl rfl rfl rfl (R_pure rfl rfl rfl) ?_; refine HL_nil ?_; refine HQ_then ?_; refine hK5 _ _ _ _ ?_; clear hK5 K5; refine HC_seq fun K6 hK6 => ?_; refine HC_cond rfl (fun h7 => ?_) (fun h7 => ?_)
  · try exact Bool.noConfusion h7
    try simp only [Z1, Z2, Z3, Z4, Z5, Z6, Z7, Z8, Z9, Z10, Z11, Z12, Z13] at h7
    refine HC_skip ?_; refine HQ_then ?_; refine hK6 _ _ _ _ ?_; clear hK6 K6; refine HC_seq fun K8 hK8 => ?_; refine HC_block ?_; refine HC_seq fun K9 hK9 => ?_
    have hil : i < items.length := by omega
    have hix := itm_get hil
    have hbi := hb i _ hix.1
    have hty := inTy_get (hx i hil)
    have hi0 : 0 < ins.length := Nat.lt_of_le_of_lt (Nat.zero_le _) (hx i hil)
    have hy0 : ins[0]? = some (ins.getD 0 default) := by rw [List.getD_eq_getElem?_getD, List.getElem?_eq_getElem hi0]; rfl
    have htki := htk i _ hix.1
    obtain ⟨sv, hsv⟩ : ∃ x, x = rootV (itm items i) (inTy k 0 ins i) := ⟨_, rfl⟩
    rw [← hsv] at hbi htki; refine HC_region ?_; refine HL_r rfl rfl rfl rfl (R_move rfl) ?_
    refine HL_r rfl rfl rfl rfl (R_indexPl (j := i) rfl hs rfl rfl rfl (by first | rfl | omega) (by omega)) ?_; refine HL_r rfl rfl rfl rfl (R_loadVl (fun q hq => Or.inr hq) rfl hs hix.1 rfl rfl) ?_; refine HL_alloc (cs := #[.int .u64 0, .int .u64 0, .int .u64 0, .int .u64 0, .slice none 0 0, .slice none 0 0, .int .i64 0]) rfl rfl rfl rfl fun rv => ?_; refine HL_r rfl rfl rfl rfl (R_assign rfl) ?_; refine HL_storeArr (k := 0) (n := 7) (ys := (itm items i).cells) rfl rfl rfl rfl rfl (itm items i).len rfl (itm items i).one rfl ?_; refine HL_nil ?_; refine HQ_then ?_; refine hK9 _ _ _ _ ?_; clear hK9 K9; refine HC_seq fun K10 hK10 => ?_; refine HC_region ?_
    refine HL_r rfl rfl rfl rfl (R_fieldAddr rfl rfl (by first | (simp only [Nat.zero_add, Nat.reduceAdd, Nat.reduceMul, Nat.zero_mul, Nat.mul_one, Nat.add_zero]; exact rfl) | exact rfl)) ?_; refine HL_r rfl rfl rfl rfl (R_load rfl (known_L (k := 1) rfl) rfl rfl) ?_; refine HL_r rfl rfl rfl rfl (R_indexPl (j := 0) rfl hst rfl rfl rfl rfl (by omega)) ?_; refine HL_r rfl rfl rfl rfl (R_loadTy (fun q hq => Or.inr hq) rfl hst hy0 rfl rfl) ?_; refine HL_alloc (cs := #[.int .i64 0, .int .i64 0, .slice none 0 0]) rfl rfl rfl rfl fun rt => ?_; refine HL_storeArr (k := 0) (n := 3) (ys := (ins.getD 0 default).cells) rfl rfl rfl rfl rfl (ins.getD 0 default).len rfl (ins.getD 0 default).one rfl ?_; refine HL_nil ?_; refine HQ_then ?_; refine hK10 _ _ _ _ ?_; clear hK10 K10; refine HC_seq fun K11 hK11 => ?_; refine HC_seq fun K12 hK12 => ?_; refine HC_region ?_
    refine HL_r rfl rfl rfl rfl (R_fieldAddr rfl rfl (by first | (simp only [Nat.zero_add, Nat.reduceAdd, Nat.reduceMul, Nat.zero_mul, Nat.mul_one, Nat.add_zero]; exact rfl) | exact rfl)) ?_; refine HL_r rfl rfl rfl rfl (R_load rfl (known_L (k := 2) rfl) rfl rfl) ?_; refine HL_r rfl rfl rfl rfl (R_pure rfl rfl rfl) ?_; refine HL_nil ?_; refine HQ_then ?_; refine hK12 _ _ _ _ ?_; clear hK12 K12; refine HC_cond rfl (fun h13 => ?_) (fun h13 => ?_)
    · try exact Bool.noConfusion h13
      try simp only [Z1, Z2, Z3, Z4, Z5, Z6, Z7, Z8, Z9, Z10, Z11, Z12, Z13] at h13
      refine HC_region ?_
      refine HL_r rfl rfl rfl rfl (R_fieldAddr rfl rfl (by first | (simp only [Nat.zero_add, Nat.reduceAdd, Nat.reduceMul, Nat.zero_mul, Nat.mul_one, Nat.add_zero]; exact rfl) | exact rfl)) ?_; refine HL_r rfl rfl rfl rfl (R_load rfl (known_L (k := 2) rfl) rfl rfl) ?_; refine HL_r rfl rfl rfl rfl (R_move rfl) ?_; refine HL_r rfl rfl rfl rfl (R_indexPl (j := inX k 0 i) rfl hst rfl rfl rfl (by unfold inX; rw [if_pos (by assumption)]) (hx i hil)) ?_; refine HL_r rfl rfl rfl rfl (R_loadTy (fun q hq => Or.inr hq) rfl hst hty.1 rfl rfl) ?_; refine HL_storeArr (k := 0) (n := 3) (ys := (inTy k 0 ins i).cells) rfl rfl rfl rfl rfl (inTy k 0 ins i).len (by rw [List.size_toArray]; exact Ty.len _) (inTy k 0 ins i).one rfl ?_; refine HL_nil ?_; refine HQ_then ?_; refine hK11 _ _ _ _ ?_; clear hK11 K11
      (have h7 : k = 7 := by assumption
       skip)
      refine HC_region ?_; refine HL_r rfl rfl rfl rfl (R_move rfl) ?_; refine HL_r rfl rfl rfl rfl (R_loadArr (xs := (inTy k 0 ins i).cells) (n := 3) rfl (known_L (k := 0) rfl) rfl rfl (inTy k 0 ins i).len) ?_; refine HL_r rfl rfl rfl rfl (R_loadArr (xs := (itm items i).cells) (n := 7) rfl (known_L (k := 1) rfl) rfl rfl (itm items i).len) ?_; refine HL_callR rfl rfl rfl (enters_of Tryz.func60 (by kernel_rfl) rfl) hbi (fun q hq => Or.inr hq) ?_; refine HL_buildSlice (vs := [_]) (zs := [_]) (r := [_]) rfl rfl rfl rfl rfl rfl rfl rfl rfl (by show (madeCells #[_] _).toList = _; rw [made_one]; exact rfl) rfl fun r2 => ?_; refine HL_appendRow (L0 := [_, _, _, _]) (xs := chC (RS.take i)) (row := row) (n := i) (sz := 1) (b := 16) (news := [strV sv]) (List.perm_append_comm (l₁ := [_, _, _, _])) rfl rfl rfl rfl (known_L (k := 0) rfl) rfl rfl rfl rfl rfl (by decide) rfl rfl rfl (by decide) hrow (by omega) (by omega) fun ra cap sp hra => ?_; refine HL_r rfl rfl rfl rfl (R_assign rfl) ?_; refine HL_nil ?_; refine HQ_blockN ?_; refine HQ_then ?_; refine hK8 _ _ _ _ ?_; clear hK8 K8; refine HC_region ?_
      refine HL_r rfl rfl rfl rfl (R_pure rfl rfl rfl) ?_; refine HL_as (show _ = Value.int .i64 ((i + 1 : Nat) : Int) from by rw [wrap_i64 (by omega) (by omega)]; congr 1 <;> omega) ?_; refine HL_r rfl rfl rfl rfl (R_move rfl) ?_; refine HL_nil ?_; refine HQ_then ?_; refine HQ_sel [4, 0] (L' := [_, _]) (by decide) rfl ?_; exact HQ_again (i + 1, some (ra, cap, sp)) ⟨by simp only; omega, by simp only; rw [htki, chC_snoc]; exact hra⟩ (by simp only; omega) (.cons rfl (.cons rfl (.cons rfl (.cons rfl (.cons rfl .nil))))) (by simp only; rw [htki, chC_snoc]; exact List.Sublist.refl _) (fun _ _ h => h)
    · try exact Bool.noConfusion h13
      try simp only [Z1, Z2, Z3, Z4, Z5, Z6, Z7, Z8, Z9, Z10, Z11, Z12, Z13] at h13
      refine HC_skip ?_; refine HQ_then ?_; refine hK11 _ _ _ _ ?_; clear hK11 K11
      (have h7 : ¬ k = 7 := by assumption
       have e : ins.getD 0 default = inTy k 0 ins i := by unfold inTy inX; rw [if_neg h7, if_neg h8]
       rw [e])
      refine HC_region ?_; refine HL_r rfl rfl rfl rfl (R_move rfl) ?_; refine HL_r rfl rfl rfl rfl (R_loadArr (xs := (inTy k 0 ins i).cells) (n := 3) rfl (known_L (k := 0) rfl) rfl rfl (inTy k 0 ins i).len) ?_; refine HL_r rfl rfl rfl rfl (R_loadArr (xs := (itm items i).cells) (n := 7) rfl (known_L (k := 1) rfl) rfl rfl (itm items i).len) ?_; refine HL_callR rfl rfl rfl (enters_of Tryz.func60 (by kernel_rfl) rfl) hbi (fun q hq => Or.inr hq) ?_; refine HL_buildSlice (vs := [_]) (zs := [_]) (r := [_]) rfl rfl rfl rfl rfl rfl rfl rfl rfl (by show (madeCells #[_] _).toList = _; rw [made_one]; exact rfl) rfl fun r3 => ?_; refine HL_appendRow (L0 := [_, _, _, _]) (xs := chC (RS.take i)) (row := row) (n := i) (sz := 1) (b := 16) (news := [strV sv]) (List.perm_append_comm (l₁ := [_, _, _, _])) rfl rfl rfl rfl (known_L (k := 0) rfl) rfl rfl rfl rfl rfl (by decide) rfl rfl rfl (by decide) hrow (by omega) (by omega) fun ra cap sp hra => ?_; refine HL_r rfl rfl rfl rfl (R_assign rfl) ?_; refine HL_nil ?_; refine HQ_blockN ?_; refine HQ_then ?_; refine hK8 _ _ _ _ ?_; clear hK8 K8; refine HC_region ?_
      refine HL_r rfl rfl rfl rfl (R_pure rfl rfl rfl) ?_; refine HL_as (show _ = Value.int .i64 ((i + 1 : Nat) : Int) from by rw [wrap_i64 (by omega) (by omega)]; congr 1 <;> omega) ?_; refine HL_r rfl rfl rfl rfl (R_move rfl) ?_; refine HL_nil ?_; refine HQ_then ?_; refine HQ_sel [4, 0] (L' := [_, _]) (by decide) rfl ?_; exact HQ_again (i + 1, some (ra, cap, sp)) ⟨by simp only; omega, by simp only; rw [htki, chC_snoc]; exact hra⟩ (by simp only; omega) (.cons rfl (.cons rfl (.cons rfl (.cons rfl (.cons rfl .nil))))) (by simp only; rw [htki, chC_snoc]; exact List.Sublist.refl _) (fun _ _ h => h)
  · try exact Bool.noConfusion h7
    try simp only [Z1, Z2, Z3, Z4, Z5, Z6, Z7, Z8, Z9, Z10, Z11, Z12, Z13] at h7
    refine HC_exit ?_; refine HQ_thenE ?_; clear hK6 K6; refine HQ_thenE ?_; refine HQ_blockE ?_; refine HQ_then ?_; refine hK3 _ _ _ _ ?_; clear hK3 K3; refine HC_seq fun K14 hK14 => ?_
    obtain rfl : i = items.length := by omega
    rw [List.take_of_length_le (by omega)] at hrow ⊢; refine HC_region ?_; refine HL_r rfl rfl rfl rfl (R_move rfl) ?_; refine HL_r rfl rfl rfl rfl (R_assign rfl) ?_; refine HL_nil ?_; refine HQ_then ?_; refine hK14 _ _ _ _ ?_; clear hK14 K14; refine HC_ret ?_; refine HQ_post rfl rfl (.cons (res_tmp rfl) .nil) (fun w1 hs1 => ?_); exact ⟨⟨row, hrow⟩, rfl, hs1.weakL (.cons _ (List.Sublist.refl _))⟩
end Go.Proofs.YtlcbfphioeppaaaGreatDoor
namespace Go.Proofs.YtlcbfphioeppaaaGreatDoor
set_option linter.all false
open Go.SL Go.RowKit Go.Shelf
/-! ### Rows of chunks; whether a type is a number's; the root of bits -/
abbrev RowOf (l : List BS) : Type := { row : Row // rowOk 1 l.length (chC l) row }
def rowP0 (l : List BS) : RowOf l := ⟨some (0, l.length, []), rowNe (by unfold chC; rw [List.length_map])⟩
abbrev rV {l : List BS} (x : RowOf l) : Value := plV l.length (rowP x.1)
abbrev rL {l : List BS} (x : RowOf l) : List (Nat × Obj) := rowL 9 (chC l) x.1
theorem rV_eq {l : List BS} (x : RowOf l) : rV x = rowV l.length x.1 := rowP_V _ _ fun h => by
  have h2 := x.2
  rw [h] at h2; exact h2.1
theorem rV_fun (l : List BS) : (fun x : RowOf l => rV x) = fun x => rowV l.length x.1 := funext fun x => rV_eq x
theorem T_cutP {s : BS} (hl : s.length ≤ 1000000) : PureT (α := RowOf (cutC s)) Tryz.prog 183 [strV s].toArray (fun x => rV x) [] (fun x => rL x) [] := by
  have h := T_cut hl
  rw [← cutC_len] at h; rw [rV_fun]; exact h
theorem T_mrootsP {R : List (Nat × Obj)} {k n : Int} {p : Pl} {ins : List Ty} {items : List Vl} {pi : Pl} (ht : Ty.In R (.mk k n p ins)) (h8 : k ≠ 8) (hs : Seg R items.length (vlsC items) pi) (hl : items.length ≤ 600) (hx : ∀ i, i < items.length → inX k 0 i < ins.length)
    (hb : ∀ (i : Nat) x, items[i]? = some x → PureR Tryz.prog 60 [(inTy k 0 ins i).val, x.val].toArray (strV (rootV x (inTy k 0 ins i))) R) :
    PureT (α := RowOf (rootL items k 0 ins 0)) Tryz.prog 112 [Ty.val (.mk k n p ins), plV items.length pi].toArray (fun x => rV x) [] (fun x => rL x) R := by
  have h := T_mroots ht h8 hs hl hx hb
  rw [rV_fun]
  have e := rootL_len items k 0 ins 0
  generalize rootL items k 0 ins 0 = RS at h e ⊢
  rw [← e] at h; rw [← e]; exact h
set_option maxRecDepth 10000 in
theorem P_mplain (t : Ty) : Pure Tryz.prog 182 [t.val].toArray (.bool (plainT t)) := by
  obtain ⟨k, n, p, ins⟩ := t
  refine pure_of_HC Tryz.func182 rfl rfl fun w => ?_; refine HC_seq fun K1 hK1 => ?_; refine HC_region ?_; refine HL_box (cs := #[_, _, _]) rfl rfl rfl rfl fun r1 => ?_; refine HL_r rfl rfl rfl rfl (R_assign rfl) ?_; refine HL_nil ?_; refine HQ_then ?_; refine hK1 _ _ _ _ ?_; clear hK1 K1; refine HC_seq fun K2 hK2 => ?_; refine HC_region ?_
  refine HL_r rfl rfl rfl rfl (R_fieldAddr rfl rfl (by first | (simp only [Nat.zero_add, Nat.reduceAdd, Nat.reduceMul, Nat.zero_mul, Nat.mul_one, Nat.add_zero]; exact rfl) | exact rfl)) ?_; refine HL_r rfl rfl rfl rfl (R_load rfl (known_L (k := 0) rfl) rfl rfl) ?_; refine HL_r rfl rfl rfl rfl (R_pure rfl rfl rfl) ?_; refine HL_r rfl rfl rfl rfl (R_move rfl) ?_
  refine HL_case 6 rfl (fun hb3 => ?_) (fun hb3 => ?_) <;> (try simp only [Z1, Z2, Z3, Z4, Z5, Z6, Z7, Z8, Z9, Z10, Z11, Z12, Z13] at hb3) <;> first | (refine HL_r rfl rfl rfl rfl (R_fieldAddr rfl rfl (by first | (simp only [Nat.zero_add, Nat.reduceAdd, Nat.reduceMul, Nat.zero_mul, Nat.mul_one, Nat.add_zero]; exact rfl) | exact rfl)) ?_) | (refine HL_skip rfl rfl rfl ?_)
  all_goals first
    | (refine HL_r rfl rfl rfl rfl (R_load rfl (known_L (k := 0) rfl) rfl rfl) ?_)
    | (refine HL_skip rfl rfl rfl ?_)
  all_goals first
    | (refine HL_r rfl rfl rfl rfl (R_pure rfl rfl rfl) ?_)
    | (refine HL_skip rfl rfl rfl ?_)
  all_goals first
    | (refine HL_r rfl rfl rfl rfl (R_pickT rfl rfl) ?_)
    | (refine HL_r rfl rfl rfl rfl (R_pickF rfl rfl) ?_)
  all_goals refine HL_r rfl rfl rfl rfl (R_assign rfl) ?_
  all_goals refine HL_nil ?_
  all_goals (
   refine HQ_then ?_; refine hK2 _ _ _ _ ?_; clear hK2 K2; refine HC_ret ?_; refine HQ_post rfl rfl (.cons (res_tmp rfl) .nil) (fun w1 hs1 => ?_); refine ⟨?_, hs1.keep⟩
   simp_all [resVal, plainT, Ty.k]
   all_goals first | done | rfl
   skip)
theorem need_8 (n : Nat) : ((n + 7) / 8 + 31) / 32 = (n + 255) / 256 := by omega
set_option maxRecDepth 10000 in
theorem S_mbits {R : List (Nat × Obj)} {l : List Bool} {k : Int} {n : Nat} {p pb : Pl} {ins : List Ty} (hl : l.length ≤ n) (hn : n ≤ 512) (hs : Seg R l.length (bitsC l) pb) :
    PureR Tryz.prog 109 [Ty.val (.mk k (n : Int) p ins), plV l.length pb].toArray (strV (rootC (cutC (packB l)) ((n + 255) / 256))) R := by
  obtain ⟨N, hN⟩ : ∃ N, N = (l.length + 7) / 8 := ⟨_, rfl⟩
  have hpB : packB l = packS l N l.length := by rw [hN]; rfl
  have hnb := need_bits (bits := l) (n := (n : Int)) (by omega)
  rw [Int.toNat_natCast] at hnb
  have hc32 := cutC_32 (packB l)
  have hcut := T_cutP (s := packB l) (by rw [packB_len]; omega)
  rw [hpB] at hnb hc32 hcut ⊢; refine pureR_of_HC Tryz.func109 rfl rfl fun w => ?_; refine HC_seq fun K1 hK1 => ?_; refine HC_region ?_; refine HL_box (cs := #[_, _, _]) rfl rfl rfl rfl fun r1 => ?_; refine HL_r rfl rfl rfl rfl (R_assign rfl) ?_; refine HL_nil ?_; refine HQ_then ?_; refine hK1 _ _ _ _ ?_; clear hK1 K1; refine HC_seq fun K2 hK2 => ?_; refine HC_region ?_; refine HL_r rfl rfl rfl rfl (R_move rfl) ?_; refine HL_r rfl rfl rfl rfl (R_lenPl rfl hs rfl) ?_
  refine HL_r rfl rfl rfl rfl (R_pure rfl rfl rfl) ?_; refine HL_as (show _ = Value.int .i64 ((l.length + 8 : Nat) : Int) from by rw [wrap_i64 (by omega) (by omega)]; congr 1 <;> omega) ?_
  refine HL_r rfl rfl rfl rfl (R_pure rfl rfl rfl) ?_; refine HL_as (show _ = Value.int .i64 ((l.length + 7 : Nat) : Int) from by rw [wrap_i64 (by omega) (by omega)]; congr 1 <;> omega) ?_; refine HL_r rfl rfl rfl rfl (R_pure rfl rfl rfl) ?_; refine HL_as (show _ = Value.int .i64 ((N : Nat) : Int) from congrArg (Value.int .i64) (by rw [quo_i64 (by omega) (by decide) (by omega), hN]; rfl)) ?_; refine HL_make (n := N) (b := 1) rfl rfl rfl rfl rfl rfl rfl rfl rfl (by omega) (by omega) fun rm => ?_; rw [show List.replicate N (Value.int .u8 0) = (packS l N 0).map bV from by rw [packS, List.map_replicate]; rfl]; refine HL_r rfl rfl rfl rfl (R_assign rfl) ?_; refine HL_nil ?_; refine HQ_then ?_; refine hK2 _ _ _ _ ?_; clear hK2 K2; refine HC_seq fun K3 hK3 => ?_; refine HC_seq fun K4 hK4 => ?_; refine HC_region ?_; refine HL_r rfl rfl rfl rfl (R_move rfl) ?_; refine HL_r rfl rfl rfl rfl (R_lenPl rfl hs rfl) ?_; refine HL_r rfl rfl rfl rfl (R_move rfl) ?_; refine HL_nil ?_; refine HQ_then ?_; refine hK4 _ _ _ _ ?_; clear hK4 K4; refine HC_block ?_; refine HC_loop (σ := Nat) (fun i => i ≤ l.length) (fun i => [(2, pt0 r1), (5, .slice (some ⟨rm, 0, none⟩) N N), (14, plV l.length pb), (15, .int .i64 (l.length : Int)), (16, .int .i64 (i : Int))]) (fun i => [(rm, .cells ((packS l N i).map bV).toArray 5 (0, 0)), tBlk r1 (.mk k (n : Int) p ins)]) (fun _ _ _ => True) (fun i => l.length - i) 0 (Nat.zero_le _) (.cons rfl (.cons rfl (.cons rfl (.cons rfl (.cons rfl .nil))))) (List.Sublist.refl _) (fun _ _ h => h) ?_; intro i hi1; change HC _ _ _ ((rm, _) :: (r1, _) :: []) _ _ _; refine HC_seq fun K5 hK5 => ?_; refine HC_region ?_; refine HL_r rfl rfl rfl rfl (R_pure rfl rfl rfl) ?_; refine HL_nil ?_; refine HQ_then ?_; refine hK5 _ _ _ _ ?_; clear hK5 K5; refine HC_seq fun K6 hK6 => ?_; refine HC_cond rfl (fun h7 => ?_) (fun h7 => ?_)
  · try exact Bool.noConfusion h7
    try simp only [Z1, Z2, Z3, Z4, Z5, Z6, Z7, Z8, Z9, Z10, Z11, Z12, Z13] at h7
    refine HC_skip ?_; refine HQ_then ?_; refine hK6 _ _ _ _ ?_; clear hK6 K6; refine HC_seq fun K8 hK8 => ?_; refine HC_block ?_; refine HC_seq fun K9 hK9 => ?_
    have hil : i < l.length := by omega
    have hi8 : i / 8 < N := by omega
    have hyb : l[i]? = some (l.getD i false) := by rw [List.getD_eq_getElem?_getD, List.getElem?_eq_getElem hil]; rfl
    refine HC_region ?_; refine HL_r rfl rfl rfl rfl (R_move rfl) ?_
    refine HL_r rfl rfl rfl rfl (R_indexPl (j := i) rfl hs rfl rfl rfl (by first | rfl | omega) (by omega)) ?_; refine HL_r rfl rfl rfl rfl (R_loadBit (fun q hq => Or.inr hq) rfl hs hyb rfl) ?_; refine HL_r rfl rfl rfl rfl (R_assign rfl) ?_; refine HL_r rfl rfl rfl rfl (R_assign rfl) ?_; refine HL_nil ?_; refine HQ_then ?_; refine hK9 _ _ _ _ ?_; clear hK9 K9; refine HC_seq fun K10 hK10 => ?_; refine HC_region ?_; refine HL_r rfl rfl rfl rfl (R_move rfl) ?_; refine HL_nil ?_; refine HQ_then ?_; refine hK10 _ _ _ _ ?_; clear hK10 K10; refine HC_cond rfl (fun h11 => ?_) (fun h11 => ?_)
    · try exact Bool.noConfusion h11
      try simp only [Z1, Z2, Z3, Z4, Z5, Z6, Z7, Z8, Z9, Z10, Z11, Z12, Z13] at h11
      have hbt : l.getD i false = true := by assumption
      have hst1 : packS l N (i + 1) = (packS l N i).set (i / 8) (UInt8.ofNat (((packS l N i).getD (i / 8) 0).toNat ||| 2 ^ (i % 8))) := by rw [packS, if_pos hbt]
      obtain ⟨Y, hY⟩ : ∃ Y, Y = packS l N i := ⟨_, rfl⟩
      have hYl : Y.length = N := by rw [hY]; exact packS_len l N i
      rw [← hY] at hst1 ⊢
      refine HC_drawB [] [(0, .pure), (1, .pure), (2, .pure), (3, .pure), (5, .pure), (6, .pure), (7, .pure), (8, .pure), (9, .pure), (10, .turn)] 11 [0, 1, 2, 3, 4, 5, 6, 7, 8, 9, 10] (by kernel_rfl) (by kernel_rfl) (by first | exact (fun _ h => nomatch h) | simp [SubS] | (intro p hp; simp [hp])) ?_; refine HB_p (k := 0) rfl rfl rfl rfl rfl (fun _ hS => (R_move rfl)) ?_; refine HB_p (k := 1) rfl rfl rfl rfl rfl (fun _ hS => (R_move rfl)) ?_
      refine HB_p (k := 2) rfl rfl rfl rfl rfl (fun _ _ => (R_pure rfl rfl rfl)) ?_; refine HB_as (show _ = Value.int .i64 ((i / 8 : Nat) : Int) from congrArg (Value.int .i64) (by first | exact rem_nat _ _ | exact quo_i64 (by omega) (by decide) (by omega) | (rw [wrap_i64 (by omega) (by omega)]; omega))) ?_; refine HB_p (k := 3) rfl rfl rfl rfl rfl (fun _ _ => R_indexS (j := (i / 8)) (m := 1) (off' := (i / 8)) rfl rfl rfl rfl (by omega) (by omega) (by omega)) ?_; refine HB_r (k := 4) rfl rfl rfl rfl rfl (R_load rfl (known_L (k := 0) rfl) rfl (by rw [nth_eq]; exact mapV_get (by omega))) ?_; refine HB_p (k := 5) rfl rfl rfl rfl rfl (fun _ hS => (R_move rfl)) ?_
      refine HB_p (k := 6) rfl rfl rfl rfl rfl (fun _ _ => (R_pure rfl rfl rfl)) ?_; refine HB_as (show _ = Value.int .i64 ((i % 8 : Nat) : Int) from congrArg (Value.int .i64) (by first | exact rem_nat _ _ | exact quo_i64 (by omega) (by decide) (by omega) | (rw [wrap_i64 (by omega) (by omega)]; omega))) ?_; refine HB_p (k := 7) rfl rfl rfl rfl rfl (fun _ _ => R_shl (n := i % 8) (b := ((2 ^ (i % 8) : Nat) : Int)) rfl rfl rfl (show _ ≤ 8 from by omega) (shl_u8 (by omega))) ?_; refine HB_p (k := 8) rfl rfl rfl rfl rfl (fun _ _ => R_bits8 (op := .or) (m := (Y.getD (i / 8) 0).toNat) (n := 2 ^ (i % 8)) rfl rfl rfl (u8_lt _) (Nat.pow_lt_pow_right (by decide) (by omega) : 2 ^ (i % 8) < 2 ^ 8) rfl) ?_; refine HB_as (or_byte _ (by omega)) ?_; refine HB_p (k := 9) rfl rfl rfl rfl rfl (fun _ _ => R_indexS (j := (i / 8)) (m := 1) (off' := (i / 8)) rfl rfl rfl rfl (by omega) (by omega) (by omega)) ?_; refine HB_store (k := 10) (q := 0) (cs' := ((packS l N (i + 1)).map bV).toArray) rfl rfl rfl rfl rfl rfl rfl rfl (by simp; omega) (by rw [set_mapV0, hst1]) rfl (fun _ h => nomatch h) ?_; refine HB_end ?_; refine HL_nil ?_; refine HQ_blockN ?_; refine HQ_then ?_; refine hK8 _ _ _ _ ?_; clear hK8 K8; refine HC_region ?_
      refine HL_r rfl rfl rfl rfl (R_pure rfl rfl rfl) ?_; refine HL_as (show _ = Value.int .i64 ((i + 1 : Nat) : Int) from by rw [wrap_i64 (by omega) (by omega)]; congr 1 <;> omega) ?_; refine HL_r rfl rfl rfl rfl (R_move rfl) ?_; refine HL_nil ?_; refine HQ_then ?_; exact HQ_again (i + 1) (by omega) (by omega) (.cons rfl (.cons rfl (.cons rfl (.cons rfl (.cons rfl .nil))))) (List.Sublist.refl _) (fun _ _ h => h)
    · try exact Bool.noConfusion h11
      try simp only [Z1, Z2, Z3, Z4, Z5, Z6, Z7, Z8, Z9, Z10, Z11, Z12, Z13] at h11
      refine HC_skip ?_; refine HQ_blockN ?_; refine HQ_then ?_; refine hK8 _ _ _ _ ?_; clear hK8 K8; refine HC_region ?_
      refine HL_r rfl rfl rfl rfl (R_pure rfl rfl rfl) ?_; refine HL_as (show _ = Value.int .i64 ((i + 1 : Nat) : Int) from by rw [wrap_i64 (by omega) (by omega)]; congr 1 <;> omega) ?_; refine HL_r rfl rfl rfl rfl (R_move rfl) ?_; refine HL_nil ?_; refine HQ_then ?_
      (have hst0 : packS l N (i + 1) = packS l N i := by rw [packS, if_neg (by simp_all)]
       exact HQ_again (i + 1) (by omega) (by omega) (.cons rfl (.cons rfl (.cons rfl (.cons rfl (.cons rfl .nil))))) (by rw [hst0]; exact List.Sublist.refl _) (fun _ _ h => h))
  · try exact Bool.noConfusion h7
    try simp only [Z1, Z2, Z3, Z4, Z5, Z6, Z7, Z8, Z9, Z10, Z11, Z12, Z13] at h7
    refine HC_exit ?_; refine HQ_thenE ?_; clear hK6 K6; refine HQ_thenE ?_; refine HQ_blockE ?_; refine HQ_then ?_; refine hK3 _ _ _ _ ?_; clear hK3 K3; refine HC_seq fun K12 hK12 => ?_
    obtain rfl : i = l.length := by omega
    refine HC_drawB [] [(0, .pure), (2, .grow (geCall (rowP0 (cutC (packS l N l.length))) (fun x => rV x) (fun x => rL x))), (3, .pure), (5, .pure), (6, .pure), (7, .pure), (8, .pure), (10, .pure)] 11 [0, 1, 3, 4, 5, 6, 7, 2, 8, 9, 10] (by kernel_rfl) (by kernel_rfl) (by first | exact (fun _ h => nomatch h) | simp [SubS] | (intro p hp; simp [hp])) ?_; refine HB_p (k := 0) rfl rfl rfl rfl rfl (fun _ hS => (R_move rfl)) ?_; refine HB_r (k := 1) rfl rfl rfl rfl rfl (R_bytesStr (b := packS l N l.length) (row := some (rm, N, [])) (e := 5) (show _ = some (rowV (packS l N l.length).length _) from by rw [packS_len]; rfl) ⟨by rw [List.length_map]; omega, by rw [packS_len]; simp⟩ (fun p hp => .inl (by rw [List.mem_singleton.1 hp, List.append_nil]; exact List.mem_cons_self)) rfl rfl rfl) ?_
    refine HB_p (k := 3) rfl rfl rfl rfl rfl (fun _ hS => (R_fieldAddr rfl rfl (by first | (simp only [Nat.zero_add, Nat.reduceAdd, Nat.reduceMul, Nat.zero_mul, Nat.mul_one, Nat.add_zero]; exact rfl) | exact rfl))) ?_; refine HB_r (k := 4) rfl rfl rfl rfl rfl (R_load rfl (known_L (k := 1) rfl) rfl rfl) ?_
    refine HB_p (k := 5) rfl rfl rfl rfl rfl (fun _ _ => (R_pure rfl rfl rfl)) ?_; refine HB_as (show _ = Value.int .i64 ((n + 8 : Nat) : Int) from congrArg (Value.int .i64) (by first | exact rem_nat _ _ | exact quo_i64 (by omega) (by decide) (by omega) | (rw [wrap_i64 (by omega) (by omega)]; omega))) ?_
    refine HB_p (k := 6) rfl rfl rfl rfl rfl (fun _ _ => (R_pure rfl rfl rfl)) ?_; refine HB_as (show _ = Value.int .i64 ((n + 7 : Nat) : Int) from congrArg (Value.int .i64) (by first | exact rem_nat _ _ | exact quo_i64 (by omega) (by decide) (by omega) | (rw [wrap_i64 (by omega) (by omega)]; omega))) ?_
    refine HB_p (k := 7) rfl rfl rfl rfl rfl (fun _ _ => (R_pure rfl rfl rfl)) ?_; refine HB_as (show _ = Value.int .i64 (((n + 7) / 8 : Nat) : Int) from congrArg (Value.int .i64) (by first | exact rem_nat _ _ | exact quo_i64 (by omega) (by decide) (by omega) | (rw [wrap_i64 (by omega) (by omega)]; omega))) ?_; refine HB_callRE (k := 2) rfl rfl rfl rfl rfl (enters_of Tryz.func183 (by kernel_rfl) rfl) hcut (fun q hq => nomatch hq) fun x => ?_; refine HB_callP (k := 8) rfl rfl rfl rfl rfl (enters_of Tryz.func184 (by kernel_rfl) rfl) (P_need (n := (n + 7) / 8) (by omega)) ?_; rw [need_8]; refine HB_callR (k := 9) rfl rfl rfl rfl rfl (enters_of Tryz.func54 (by kernel_rfl) rfl) (S_mtree hnb (by omega) (rowP_seg x.2 (by decide)) hc32) (fun q hq => .inl (List.mem_append_left _ hq)) ?_; refine HB_p (k := 10) rfl rfl rfl rfl rfl (fun _ hS => (R_assign rfl)) ?_; refine HB_end ?_; refine HL_nil ?_; refine HQ_then ?_; refine hK12 _ _ _ _ ?_; clear hK12 K12; refine HC_ret ?_; refine HQ_post rfl rfl (.cons (res_tmp rfl) .nil) (fun w1 hs1 => ?_); exact ⟨rfl, hs1.keep⟩
end Go.Proofs.YtlcbfphioeppaaaGreatDoor
namespace Go.Proofs.YtlcbfphioeppaaaGreatDoor
set_option linter.all false
open Go.SL Go.RowKit Go.Shelf
/-! ### The root of a row of one type -/
section
variable {c : Cx} {l : List (Nat × Value)} {L E : List (Nat × Obj)} {X : XP} {Q : Exit → Act → World → Prop} {d : List Deferred}
variable {ops : Array Oper} {rest : List Nat} {i k : Nat} {v : Value} {o : Oper} {tb : Kbs} {S : List (Nat × Obj)} {T : List (Nat × Obj) → Act → Prop}
theorem HB_callRP {f : Operand} {args : Array Operand} {at_ : Array TypeId} {g : FuncId} {vs : List Value} {Rl : List (Nat × Obj)} {ty : TypeId} {ps : String} {af : Array Edge} {gd : Option (Nat × Bool)}
    (hk : nth ops.toList k = some ⟨some i, .call ⟨.value f, args, at_⟩, ty, ps, af, gd⟩) (hg : goes l ops ⟨some i, .call ⟨.value f, args, at_⟩, ty, ps, af, gd⟩ = some true) (hi : Nat.ble (i + 1) c.n = true) (hA : tb k = .pure) (hca : callArgs l f args = some (g, vs)) (eg : Enters c.P g)
    (hp : PureR c.P g vs.toArray v Rl) (hR : ∀ p ∈ Rl, p ∈ S ∨ p ∈ c.R) (h : HB c d ((i, v) :: l) E X S ops tb rest T) : HB c d l E X S ops tb (k :: rest) T := fun a hf => by
  refine ⟨_, nth_arr hk, ?_⟩; rw [hA]; exact ⟨v, .inl ⟨goes_wanted hf hg, fun E' hE' w hs => act_call hf hca eg ((hp.run w fun p hp => (hR p hp).elim (fun h => (hs.own _ (hE' p h)).2.2) hs.readR).mono fun _ _ ⟨he, hk⟩ => ⟨v, he, rfl, hk⟩)⟩, h _ (hf.put (Nat.le_of_ble_eq_true hi))⟩
end
theorem inTy_one {k : Int} (h7 : k ≠ 7) (h8 : k ≠ 8) (x : Ty) (i : Nat) : inTy k 0 [x] i = x := by unfold inTy inX; rw [if_neg h7, if_neg h8]; rfl
theorem catB_take {l : List Vl} {x : Ty} {i : Nat} {v : Vl} (h : l[i]? = some v) : catB (l.take (i + 1)) x = catB (l.take i) x ++ putV v x := by
  unfold catB
  rw [List.take_add_one, h]
  simp
theorem catB_le {x : Ty} : ∀ {l : List Vl}, (∀ v ∈ l, (putV v x).length ≤ 32) → (catB l x).length ≤ 32 * l.length
  | [], _ => by unfold catB; simp
  | v :: l, h => by
    have ih := catB_le (l := l) fun y hy => h y (List.mem_cons_of_mem _ hy)
    have h1 := h v List.mem_cons_self
    unfold catB at ih ⊢
    rw [List.map_cons, List.flatten_cons, List.length_append, List.length_cons]; omega
theorem putR_plain {x : Ty} {v : Vl} (hc : chk x 0 = 0) (hp : plainT x = true) (hf : fitT v x = 0) : putR x v = (putV v x, 0) ∧ (putV v x).length ≤ 32 := by
  obtain ⟨f1, f2, f3, f4⟩ := plain_fix hc hp
  have h1 := f4 v hf
  have h2 : (putV v x).length ≤ 32 := by omega
  have h3 : fitsT x v = 0 := by unfold fitsT; rw [if_pos hc]; exact hf
  unfold putR
  rw [if_neg (by rw [h3]; simp), if_neg (by omega)]; exact ⟨rfl, h2⟩
set_option maxHeartbeats 1000000 in
set_option maxRecDepth 10000 in
theorem S_mrow {R : List (Nat × Obj)} {k : Int} {n : Nat} {p pi : Pl} {x0 : Ty} {items : List Vl} (ht : Ty.In R (.mk k (n : Int) p [x0])) (h7 : k ≠ 7) (h8 : k ≠ 8) (hc : chk x0 0 = 0) (hs : Seg R items.length (vlsC items) pi) (hl : items.length ≤ n) (hn : n ≤ 512)
    (hfit : ∀ v ∈ items, fitT v x0 = 0) (hw : ∀ v ∈ items, wV v ≤ 20000) (hIn : ∀ v ∈ items, v.In R)
    (hb : ∀ (i : Nat) x, items[i]? = some x → PureR Tryz.prog 60 [x0.val, x.val].toArray (strV (rootV x x0)) R) :
    PureR Tryz.prog 105 [Ty.val (.mk k (n : Int) p [x0]), plV items.length pi].toArray (strV (rowM k (n : Int) [x0] items (rootL items k 0 [x0] 0))) R := by
  have hro := T_mrootsP ht h8 hs (by omega) (fun i _ => by unfold inX; rw [if_neg h7, if_neg h8]; exact Nat.lt_succ_self 0) (fun i x hx => by rw [inTy_one h7 h8]; exact hb i x hx)
  have hrl := rootL_len items k 0 [x0] 0
  have hr32 : ∀ s ∈ rootL items k 0 [x0] 0, s.length = 32 := fun s hs => by
    obtain ⟨j, x, h1, rfl⟩ := rootL_mem hs
    rw [inTy_one h7 h8]; exact rootV_len x x0 0 hc (hfit x (List.mem_of_getElem? h1))
  have hrt := fun (x : RowOf (rootL items k 0 [x0] 0)) => S_mtree (m := n) (by omega) (by omega) (rowP_seg (e := 9) x.2 (by decide)) hr32
  have hM : rowM k (n : Int) [x0] items (rootL items k 0 [x0] 0) = if plainT x0 = true then rootC (cutC (catB items x0)) ((n * (sizT x0).toNat + 31) / 32) else rootC (rootL items k 0 [x0] 0) n := by
    unfold rowM
    rw [if_neg h7]; rfl
  rw [hM]
  have hx0 := ht.sub x0 List.mem_cons_self
  have ht2 := ht
  cases ht with
  | @mk k n p ins hk hn2 hlt hst hit =>
  have hpl := P_mplain x0
  refine pureR_of_HC Tryz.func105 rfl rfl fun w => ?_; refine HC_seq fun K1 hK1 => ?_; refine HC_region ?_; refine HL_box (cs := #[_, _, _]) rfl rfl rfl rfl fun r1 => ?_; refine HL_r rfl rfl rfl rfl (R_assign rfl) ?_; refine HL_nil ?_; refine HQ_then ?_; refine hK1 _ _ _ _ ?_; clear hK1 K1; refine HC_seq fun K2 hK2 => ?_; refine HC_seq fun K3 hK3 => ?_; refine HC_region ?_
  refine HL_r rfl rfl rfl rfl (R_fieldAddr rfl rfl (by first | (simp only [Nat.zero_add, Nat.reduceAdd, Nat.reduceMul, Nat.zero_mul, Nat.mul_one, Nat.add_zero]; exact rfl) | exact rfl)) ?_; refine HL_r rfl rfl rfl rfl (R_load rfl (known_L (k := 0) rfl) rfl rfl) ?_
  refine HL_r rfl rfl rfl rfl (R_indexPl (j := 0) rfl hst rfl rfl rfl (by first | rfl | omega) (Nat.lt_succ_self 0)) ?_; refine HL_r rfl rfl rfl rfl (R_loadTy (fun q hq => Or.inr hq) rfl hst (show [x0][0]? = some x0 from rfl) rfl rfl) ?_; refine HL_callP rfl rfl rfl (enters_of Tryz.func182 (by kernel_rfl) rfl) hpl ?_; refine HL_r rfl rfl rfl rfl (R_pure rfl rfl rfl) ?_; refine HL_nil ?_; refine HQ_then ?_; refine hK3 _ _ _ _ ?_; clear hK3 K3; refine HC_cond rfl (fun h4 => ?_) (fun h4 => ?_)
  · try exact Bool.noConfusion h4
    try simp only [Z1, Z2, Z3, Z4, Z5, Z6, Z7, Z8, Z9, Z10, Z11, Z12, Z13] at h4
    refine HC_seq fun K5 hK5 => ?_
    refine HC_drawB [] [(1, .pure), (2, .grow (geCall (rowP0 (rootL items k 0 [x0] 0)) (fun x => rV x) (fun x => rL x))), (3, .pure), (6, .pure)] 7 [0, 1, 3, 4, 2, 5, 6] (by kernel_rfl) (by kernel_rfl) (by first | exact (fun _ h => nomatch h) | simp [SubS] | (intro p hp; simp [hp])) ?_; refine HB_r (k := 0) rfl rfl rfl rfl rfl (R_loadArr (xs := (Ty.mk k (n : Int) p [x0]).cells) (n := 3) rfl (known_L (k := 0) rfl) rfl rfl (Ty.mk k (n : Int) p [x0]).len) ?_; refine HB_p (k := 1) rfl rfl rfl rfl rfl (fun _ hS => (R_move rfl)) ?_
    refine HB_p (k := 3) rfl rfl rfl rfl rfl (fun _ hS => (R_fieldAddr rfl rfl (by first | (simp only [Nat.zero_add, Nat.reduceAdd, Nat.reduceMul, Nat.zero_mul, Nat.mul_one, Nat.add_zero]; exact rfl) | exact rfl))) ?_; refine HB_r (k := 4) rfl rfl rfl rfl rfl (R_load rfl (known_L (k := 0) rfl) rfl rfl) ?_; refine HB_callRE (k := 2) rfl rfl rfl rfl rfl (enters_of Tryz.func112 (by kernel_rfl) rfl) hro (fun q hq => .inr hq) fun x => ?_; refine HB_callR (k := 5) rfl rfl rfl rfl rfl (enters_of Tryz.func54 (by kernel_rfl) rfl) (hrt x) (fun q hq => .inl (List.mem_append_left _ hq)) ?_; refine HB_p (k := 6) rfl rfl rfl rfl rfl (fun _ hS => (R_assign rfl)) ?_; refine HB_end ?_; refine HL_nil ?_; refine HQ_then ?_; refine hK5 _ _ _ _ ?_; clear hK5 K5; refine HC_ret ?_; refine HQ_thenR ?_; clear hK2 K2; refine HQ_post rfl rfl (.cons (res_tmp rfl) .nil) (fun w1 hs1 => ?_); refine ⟨?_, hs1.keep⟩; rw [if_neg (by rw [Bool.not_eq_true]; assumption)]; rfl
  · try exact Bool.noConfusion h4
    try simp only [Z1, Z2, Z3, Z4, Z5, Z6, Z7, Z8, Z9, Z10, Z11, Z12, Z13] at h4
    refine HC_skip ?_; refine HQ_then ?_; refine hK2 _ _ _ _ ?_; clear hK2 K2; refine HC_seq fun K6 hK6 => ?_
    have hp : plainT x0 = true := by assumption
    obtain ⟨f1, f2, f3, f4⟩ := plain_fix hc hp
    obtain ⟨z, hz⟩ : ∃ z, z = (sizT x0).toNat := ⟨_, rfl⟩
    have hSz := S_Size hx0
    have hsz : sizeT x0 = (z : Int) := by unfold sizeT; rw [if_pos f1]; omega
    rw [hsz] at hSz
    have hnz : n * z ≤ 16384 := by
      have := Nat.mul_le_mul hn (show z ≤ 32 by omega)
      omega
    obtain ⟨C, hC⟩ : ∃ C, C = catB items x0 := ⟨_, rfl⟩
    have hCl : C.length = items.length * z := by rw [hC]; exact cat_len' fun v hv => by have := f4 v (hfit v hv); omega
    have hCn : C.length ≤ n * z := by rw [hCl]; exact Nat.mul_le_mul_right _ hl
    have hcn : (cutC C).length ≤ (n * z + 31) / 32 := by rw [cutC_len]; unfold cutN; omega
    refine HC_region ?_; refine HL_alloc (cs := #[_, _]) rfl rfl rfl rfl fun r2 => ?_; refine HL_nil ?_; refine HQ_then ?_; refine hK6 _ _ _ _ ?_; clear hK6 K6; refine HC_seq fun K7 hK7 => ?_; refine HC_seq fun K8 hK8 => ?_; refine HC_region ?_; refine HL_r rfl rfl rfl rfl (R_move rfl) ?_; refine HL_r rfl rfl rfl rfl (R_lenPl rfl hs rfl) ?_; refine HL_r rfl rfl rfl rfl (R_move rfl) ?_; refine HL_nil ?_; refine HQ_then ?_; refine hK8 _ _ _ _ ?_; clear hK8 K8; refine HC_block ?_; refine HC_loop (σ := Nat × Row × Bool) (fun q => q.1 ≤ items.length ∧ bOk (catB (items.take q.1) x0) q.2.1) (fun q => [(2, pt0 r1), (5, pt0 r2), (22, plV items.length pi), (23, .int .i64 (items.length : Int)), (24, .int .i64 (q.1 : Int))]) (fun q => bldL r2 (catB (items.take q.1) x0) q.2.1 q.2.2 ++ [tBlk r1 (Ty.mk k (n : Int) p [x0])]) (fun _ _ _ => True) (fun q => items.length - q.1) (0, none, false) ⟨Nat.zero_le _, bOk_nil⟩ (.cons rfl (.cons rfl (.cons rfl (.cons rfl (.cons rfl .nil))))) (List.Sublist.refl _) (fun _ _ h => h) ?_; rintro ⟨i, row, own⟩ ⟨hi1, hb1⟩; simp only at hi1 hb1; change HC _ _ [(2, _), (5, _), (22, _), (23, _), (24, .int .i64 (i : Int))] (bldL r2 (catB (items.take i) x0) row own ++ [tBlk r1 (Ty.mk k (n : Int) p [x0])]) _ _ _; refine HC_seq fun K9 hK9 => ?_; refine HC_region ?_; refine HL_r rfl rfl rfl rfl (R_pure rfl rfl rfl) ?_; refine HL_nil ?_; refine HQ_then ?_; refine hK9 _ _ _ _ ?_; clear hK9 K9; refine HC_seq fun K10 hK10 => ?_; refine HC_cond rfl (fun h11 => ?_) (fun h11 => ?_)
    · try exact Bool.noConfusion h11
      try simp only [Z1, Z2, Z3, Z4, Z5, Z6, Z7, Z8, Z9, Z10, Z11, Z12, Z13] at h11
      refine HC_skip ?_; refine HQ_then ?_; refine hK10 _ _ _ _ ?_; clear hK10 K10; refine HC_seq fun K12 hK12 => ?_; refine HC_block ?_; refine HC_seq fun K13 hK13 => ?_
      have hil : i < items.length := by omega
      have hix := itm_get hil
      have hpr := putR_plain hc hp (hfit _ hix.2)
      have hput := S_sPut hx0 (hIn _ hix.2) (hw _ hix.2)
      rw [hpr.1] at hput
      have hsn := catB_take (x := x0) hix.1
      have hcl := catB_le (x := x0) (l := items.take i) fun v hv => (putR_plain hc hp (hfit v (List.mem_of_mem_take hv))).2
      rw [List.length_take] at hcl
      have hp2 := hpr.2
      refine HC_region ?_
      refine HL_r rfl rfl rfl rfl (R_indexPl (j := i) rfl hs rfl rfl rfl (by first | rfl | omega) (by omega)) ?_; refine HL_r rfl rfl rfl rfl (R_loadVl (fun q hq => Or.inr hq) rfl hs hix.1 rfl rfl) ?_; refine HL_alloc (cs := #[.int .u64 0, .int .u64 0, .int .u64 0, .int .u64 0, .slice none 0 0, .slice none 0 0, .int .i64 0]) rfl rfl rfl rfl fun rv => ?_; refine HL_storeArr (k := 0) (n := 7) (ys := (itm items i).cells) rfl rfl rfl rfl rfl (itm items i).len rfl (itm items i).one rfl ?_; refine HL_nil ?_; refine HQ_then ?_; refine hK13 _ _ _ _ ?_; clear hK13 K13; refine HC_seq fun K14 hK14 => ?_; refine HC_draw 11 (by kernel_rfl) (by kernel_rfl) ?_
      refine HD_r rfl rfl rfl (R_fieldAddr rfl rfl (by first | (simp only [Nat.zero_add, Nat.reduceAdd, Nat.reduceMul, Nat.zero_mul, Nat.mul_one, Nat.add_zero]; exact rfl) | exact rfl)) ?_; refine HD_r rfl rfl rfl (R_load (v := plV 1 p) rfl (.inl (List.mem_cons_of_mem _ (List.mem_append_right _ List.mem_cons_self))) rfl rfl) ?_
      refine HD_r rfl rfl rfl (R_indexPl (j := 0) rfl hst rfl rfl rfl (by first | rfl | omega) (Nat.lt_succ_self 0)) ?_; refine HD_r rfl rfl rfl (R_loadTy (fun q hq => Or.inr hq) rfl hst (show [x0][0]? = some x0 from rfl) rfl rfl) ?_; refine HD_r rfl rfl rfl (R_loadArr (xs := (itm items i).cells) (n := 7) rfl (known_L (k := 0) rfl) rfl rfl (itm items i).len) ?_; refine HD_callR rfl rfl rfl (enters_of Tryz.func17 (by kernel_rfl) rfl) hput (fun q hq => Or.inr hq) ?_; refine HD_r rfl rfl rfl (R_move rfl) ?_; refine HD_r rfl rfl rfl (R_extract rfl rfl) ?_; refine HD_r rfl rfl rfl (R_extract rfl rfl) ?_; refine HD_r rfl rfl rfl (R_assign rfl) ?_; refine HD_r rfl rfl rfl (R_assign rfl) ?_; refine HD_end ?_; refine HL_nil ?_; refine HQ_then ?_; refine hK14 _ _ _ _ ?_; clear hK14 K14; refine HC_region ?_; refine HL_r rfl rfl rfl rfl (R_move rfl) ?_; refine HL_callT (T := bldL r2 (catB (items.take i) x0) row own) (L0 := _ :: [tBlk r1 (Ty.mk k (n : Int) p [x0])]) (Rl := []) List.perm_middle.symm rfl rfl rfl (enters_of Tryz.func123 (by kernel_rfl) rfl) (T_Write hb1 (s2 := putV (itm items i) x0) (by omega)) (fun q hq => nomatch hq) fun x => ?_
      obtain ⟨rowx, hbx⟩ := x
      refine HL_nil ?_; refine HQ_blockN ?_; refine HQ_then ?_; refine hK12 _ _ _ _ ?_; clear hK12 K12; refine HC_region ?_
      refine HL_r rfl rfl rfl rfl (R_pure rfl rfl rfl) ?_; refine HL_as (show _ = Value.int .i64 ((i + 1 : Nat) : Int) from by rw [wrap_i64 (by omega) (by omega)]; congr 1 <;> omega) ?_; refine HL_r rfl rfl rfl rfl (R_move rfl) ?_; refine HL_nil ?_; refine HQ_then ?_; refine HQ_subL (L' := bldL r2 (catB (items.take (i + 1)) x0) rowx true ++ [tBlk r1 (Ty.mk k (n : Int) p [x0])]) (by rw [hsn]; exact (List.Sublist.refl _).append (.cons _ (List.Sublist.refl _))) ?_; exact HQ_again (i + 1, rowx, true) ⟨by simp only; omega, by simp only; rw [hsn]; exact hbx⟩ (by simp only; omega) (.cons rfl (.cons rfl (.cons rfl (.cons rfl (.cons rfl .nil))))) (List.Sublist.refl _) (fun _ _ h => h)
    · try exact Bool.noConfusion h11
      try simp only [Z1, Z2, Z3, Z4, Z5, Z6, Z7, Z8, Z9, Z10, Z11, Z12, Z13] at h11
      refine HC_exit ?_; refine HQ_thenE ?_; clear hK10 K10; refine HQ_thenE ?_; refine HQ_blockE ?_; refine HQ_then ?_; refine hK7 _ _ _ _ ?_; clear hK7 K7; refine HC_seq fun K15 hK15 => ?_
      obtain rfl : i = items.length := by omega
      rw [List.take_length, ← hC] at hb1; rw [List.take_length, ← hC]; refine HC_drawB [tBlk r1 (Ty.mk k (n : Int) p [x0])] [(0, .turn), (1, .grow (geCall (rowP0 (cutC C)) (fun x => rV x) (fun x => rL x))), (2, .pure), (3, .pure), (4, .pure), (5, .pure), (6, .pure), (7, .pure), (8, .pure), (9, .pure), (10, .pure)] 11 [2, 3, 4, 5, 6, 7, 0, 1, 8, 9, 10] (by kernel_rfl) (by kernel_rfl) (fun p hp => List.mem_append_right _ hp) ?_
      refine HB_p (k := 2) rfl rfl rfl rfl rfl (fun _ hS => (R_fieldAddr rfl rfl (by first | (simp only [Nat.zero_add, Nat.reduceAdd, Nat.reduceMul, Nat.zero_mul, Nat.mul_one, Nat.add_zero]; exact rfl) | exact rfl))) ?_; refine HB_p (k := 3) rfl rfl rfl rfl rfl (fun E' hS => R_load (v := .int .i64 (n : Int)) rfl (.inl (hS _ List.mem_cons_self)) rfl rfl) ?_
      refine HB_p (k := 4) rfl rfl rfl rfl rfl (fun _ hS => (R_fieldAddr rfl rfl (by first | (simp only [Nat.zero_add, Nat.reduceAdd, Nat.reduceMul, Nat.zero_mul, Nat.mul_one, Nat.add_zero]; exact rfl) | exact rfl))) ?_; refine HB_p (k := 5) rfl rfl rfl rfl rfl (fun E' hS => R_load (v := plV 1 p) rfl (.inl (hS _ List.mem_cons_self)) rfl rfl) ?_
      refine HB_p (k := 6) rfl rfl rfl rfl rfl (fun E' hS => R_indexPl (j := 0) rfl hst rfl rfl rfl (by first | rfl | omega) (Nat.lt_succ_self 0)) ?_; refine HB_p (k := 7) rfl rfl rfl rfl rfl (fun E' hS => R_loadTy (fun q hq => Or.inr hq) rfl hst (show [x0][0]? = some x0 from rfl) rfl rfl) ?_; refine HB_callT (k := 0) (T0 := bldL r2 C row own) (L0 := [tBlk r1 (Ty.mk k (n : Int) p [x0])]) (Rl := []) (List.Perm.refl _) rfl rfl rfl rfl rfl (enters_of Tryz.func125 (by kernel_rfl) rfl) (T_bStr hb1 (by omega)) (fun q hq => nomatch hq) (fun _ p hp => hp) fun u => ?_; refine HB_callRE (k := 1) rfl rfl rfl rfl rfl (enters_of Tryz.func183 (by kernel_rfl) rfl) (T_cutP (s := C) (by omega)) (fun q hq => nomatch hq) fun x => ?_; refine HB_callRP (k := 8) rfl rfl rfl rfl rfl (enters_of Tryz.func25 (by kernel_rfl) rfl) hSz (fun q hq => .inr hq) ?_; refine HB_p (k := 9) rfl rfl rfl rfl rfl (fun _ _ => (R_pure rfl rfl rfl)) ?_; refine HB_as (show _ = Value.int .i64 ((n * z : Nat) : Int) from congrArg (Value.int .i64) (by rw [← Int.natCast_mul]; exact wrap_i64 (by omega) (by omega))) ?_; refine HB_callP (k := 10) rfl rfl rfl rfl rfl (enters_of Tryz.func184 (by kernel_rfl) rfl) (P_need (n := n * z) (by omega)) ?_; refine HB_end ?_; refine HL_callR rfl rfl rfl (enters_of Tryz.func54 (by kernel_rfl) rfl) (S_mtree hcn (by omega) (rowP_seg x.2 (by decide)) (cutC_32 _)) (fun q hq => .inl (List.mem_append_left _ hq)) ?_; refine HL_r rfl rfl rfl rfl (R_assign rfl) ?_; refine HL_nil ?_; refine HQ_then ?_; refine hK15 _ _ _ _ ?_; clear hK15 K15; refine HC_ret ?_; refine HQ_post rfl rfl (.cons (res_tmp rfl) .nil) (fun w1 hs1 => ?_); refine ⟨?_, hs1.keep⟩; rw [if_pos hp, ← hz, ← hC]; rfl
end Go.Proofs.YtlcbfphioeppaaaGreatDoor
namespace Go.Proofs.YtlcbfphioeppaaaGreatDoor
set_option linter.all false
open Go.SL Go.RowKit Go.Shelf
/-! ### Rows: what stands in the front, and the rest; where parts stand -/
def frontL (head : Nat) : List (Ty × List UInt8) → Nat → List UInt8
  | [], _ => []
  | (x, s) :: l, n => if isFix x then s ++ frontL head l n else (leR (head + n) 4).1 ++ frontL head l (n + s.length)
def tailL : List (Ty × List UInt8) → List UInt8
  | [] => []
  | (x, s) :: l => if isFix x then tailL l else s ++ tailL l
theorem rowF_eq (head : Nat) : ∀ (l : List (Ty × List UInt8)) (f th : List UInt8), rowF head l f th = (f ++ frontL head l th.length) ++ (th ++ tailL l)
  | [], f, th => by rw [rowF, frontL, tailL]; simp
  | (x, s) :: l, f, th => by
    rw [rowF, frontL, tailL]
    split
    · rw [rowF_eq head l]; simp
    · rw [rowF_eq head l, List.length_append]; simp
theorem leR4 {n : Nat} (h : n < 4294967296) : (leR n 4).1 = leN n 4 := by
  unfold leR
  rw [if_neg]
  · rfl
  · have := (beN_len (n := n) (k := 4) (by omega) (by decide)).2 (by simpa using h)
    omega
theorem leR4_len' {n : Nat} (h : n < 4294967296) : (leR n 4).1.length = 4 := by rw [leR4 h, leN_len]
/-- What is fixed has its size. -/
def Sized (l : List (Ty × List UInt8)) : Prop := ∀ p ∈ l, isFix p.1 = true → (p.2.length : Int) = sizT p.1
def sumB : List (Ty × List UInt8) → Nat
  | [] => 0
  | p :: l => p.2.length + 4 + sumB l
theorem front_len (head : Nat) : ∀ (l : List (Ty × List UInt8)) (n : Nat), Sized l → head + n + sumB l < 4294967296 → ((frontL head l n).length : Int) = begL (l.map Prod.fst)
  | [], _, _, _ => rfl
  | (x, s) :: l, n, hs, hb => by
    rw [sumB] at hb; simp only at hb
    have hs2 : Sized l := fun p hp => hs p (List.mem_cons_of_mem _ hp)
    rw [frontL, List.map_cons, begL, begT]
    simp only
    by_cases hf : isFix x = true
    · rw [if_pos hf, if_pos hf, List.length_append]
      have h1 := hs _ List.mem_cons_self hf
      have h2 := front_len head l n hs2 (by omega)
      simp only at h1; omega
    · rw [if_neg hf, if_neg hf, List.length_append, leR4_len' (by omega)]
      have h2 := front_len head l (n + s.length) hs2 (by omega)
      omega
def tailN : List (Ty × List UInt8) → Nat
  | [] => 0
  | (x, s) :: l => if isFix x then tailN l else s.length + tailN l
theorem tail_len : ∀ l : List (Ty × List UInt8), (tailL l).length = tailN l
  | [] => rfl
  | (x, s) :: l => by
    rw [tailL, tailN]
    split
    · exact tail_len l
    · rw [List.length_append, tail_len l]
/-! where parts stand -/
def offL (s : List UInt8) (head : Nat) : List Ty → Nat → Nat → Bool → Option (List Nat)
  | [], _, _, op => if op = false ∧ head ≠ s.length then none else some [s.length]
  | x :: xs, at_, last, op => if isFix x then offL s head xs (at_ + (sizT x).toNat) last op else
      if (op = false ∧ leV ((s.drop at_).take 4) ≠ head) ∨ leV ((s.drop at_).take 4) < last ∨ s.length < leV ((s.drop at_).take 4) then none
      else (offL s head xs (at_ + 4) (leV ((s.drop at_).take 4)) true).map fun r => leV ((s.drop at_).take 4) :: r
def partL (s : List UInt8) : List Ty → Nat → List Nat → List (List UInt8)
  | [], _, _ => []
  | x :: xs, at_, os => if isFix x then (s.drop at_).take (sizT x).toNat :: partL s xs (at_ + (sizT x).toNat) os else
      (s.take (os.getD 1 0)).drop (os.getD 0 0) :: partL s xs (at_ + 4) os.tail
def offE (head : Nat) : List (Ty × List UInt8) → Nat → List Nat
  | [], n => [head + n]
  | (x, s) :: l, n => if isFix x then offE head l n else (head + n) :: offE head l (n + s.length)
theorem offE_head (head : Nat) : ∀ (l : List (Ty × List UInt8)) (n : Nat), ∃ r, offE head l n = (head + n) :: r
  | [], n => ⟨[], rfl⟩
  | (x, s) :: l, n => by
    rw [offE]
    split
    · exact offE_head head l n
    · exact ⟨_, rfl⟩
theorem offL_put (head : Nat) (s : List UInt8) : ∀ (l : List (Ty × List UInt8)) (pre tp : List UInt8) (n last : Nat) (op : Bool), Sized l → s = pre ++ frontL head l n ++ (tp ++ tailL l) → head = pre.length + (frontL head l n).length → tp.length = n →
    last ≤ head + n → (op = false → n = 0) → head + n + sumB l < 4294967296 → offL s head (l.map Prod.fst) pre.length last op = some (offE head l n)
  | [], pre, tp, n, last, op, _, hs, hh, ht, hl, ho, hb => by
    have hlen : s.length = head + n := by rw [hs, hh, tailL]; simp [ht, frontL]
    rw [List.map_nil, offL, offE, hlen, if_neg]; rintro ⟨h1, h2⟩
    have := ho h1
    omega
  | (x, t) :: l, pre, tp, n, last, op, hz, hs, hh, ht, hl, ho, hb => by
    rw [sumB] at hb; simp only at hb
    have hz2 : Sized l := fun p hp => hz p (List.mem_cons_of_mem _ hp)
    rw [List.map_cons, offL, offE]
    by_cases hf : isFix x = true
    · rw [if_pos hf, if_pos hf]
      have h1 := hz _ List.mem_cons_self hf
      simp only at h1
      have e1 : pre.length + (sizT x).toNat = (pre ++ t).length := by rw [List.length_append]; omega
      rw [frontL, if_pos hf] at hs hh; rw [tailL, if_pos hf] at hs; rw [e1]; exact offL_put head s l (pre ++ t) tp n last op hz2 (by rw [hs]; simp) (by rw [List.length_append] at hh ⊢; omega) ht hl ho (by omega)
    · rw [if_neg hf, if_neg hf]
      rw [frontL, if_neg hf] at hs hh; rw [tailL, if_neg hf] at hs
      have hle := leR4 (n := head + n) (by omega)
      rw [hle] at hs hh
      have hlow : leV ((s.drop pre.length).take 4) = head + n := by
        rw [hs, List.append_assoc, List.append_assoc, List.drop_left' rfl, List.take_left' (leN_len _ _)]; exact leV_leN 4 _ (by simp; omega)
      have hsl : s.length = pre.length + (4 + (frontL head l (n + t.length)).length) + (n + (t.length + tailN l)) := by
        rw [hs]; simp only [List.length_append, leN_len, ht, tail_len]
      have hh2 : head = pre.length + (4 + (frontL head l (n + t.length)).length) := by rw [List.length_append, leN_len] at hh; exact hh
      rw [hlow, if_neg (by
        rintro (⟨h1, h2⟩ | h1 | h1)
        · have := ho h1; omega
        · omega
        · omega)]
      have e1 : pre.length + 4 = (pre ++ leN (head + n) 4).length := by rw [List.length_append, leN_len]
      rw [e1, offL_put head s l (pre ++ leN (head + n) 4) (tp ++ t) (n + t.length) (head + n) true hz2 (by rw [hs]; simp) (by rw [List.length_append, leN_len]; omega) (by rw [List.length_append, ht]) (by omega) (fun h => by cases h) (by omega)]
      rfl
theorem partL_put (head : Nat) (s : List UInt8) : ∀ (l : List (Ty × List UInt8)) (pre tp : List UInt8) (n : Nat), Sized l → s = pre ++ frontL head l n ++ (tp ++ tailL l) → head = pre.length + (frontL head l n).length → tp.length = n →
    head + n + sumB l < 4294967296 → partL s (l.map Prod.fst) pre.length (offE head l n) = l.map Prod.snd
  | [], _, _, _, _, _, _, _, _ => rfl
  | (x, t) :: l, pre, tp, n, hz, hs, hh, ht, hb => by
    rw [sumB] at hb; simp only at hb
    have hz2 : Sized l := fun p hp => hz p (List.mem_cons_of_mem _ hp)
    rw [List.map_cons, List.map_cons, partL, offE]
    by_cases hf : isFix x = true
    · rw [if_pos hf, if_pos hf]
      have h1 := hz _ List.mem_cons_self hf
      simp only at h1
      have e1 : pre.length + (sizT x).toNat = (pre ++ t).length := by rw [List.length_append]; omega
      rw [frontL, if_pos hf] at hs hh; rw [tailL, if_pos hf] at hs; rw [e1, partL_put head s l (pre ++ t) tp n hz2 (by rw [hs]; simp) (by rw [List.length_append] at hh ⊢; omega) ht (by omega)]
      congr 1
      rw [hs, show (sizT x).toNat = t.length by omega]; simp only [List.append_assoc]; rw [List.drop_left' rfl, List.take_left' rfl]
    · rw [if_neg hf, if_neg hf]
      rw [frontL, if_neg hf] at hs hh; rw [tailL, if_neg hf] at hs
      have hle := leR4 (n := head + n) (by omega)
      rw [hle] at hs hh
      have e1 : pre.length + 4 = (pre ++ leN (head + n) 4).length := by rw [List.length_append, leN_len]
      obtain ⟨r, hr⟩ := offE_head head l (n + t.length)
      rw [List.tail_cons, e1, partL_put head s l (pre ++ leN (head + n) 4) (tp ++ t) (n + t.length) hz2 (by rw [hs]; simp) (by rw [List.length_append] at hh ⊢; rw [leN_len] at hh ⊢; omega) (by rw [List.length_append, ht]) (by omega)]
      congr 1
      rw [hr]
      show (s.take (head + (n + t.length))).drop (head + n) = t
      obtain ⟨A, hA⟩ : ∃ A, A = pre ++ (leN (head + n) 4 ++ frontL head l (n + t.length)) ++ tp := ⟨_, rfl⟩
      have e2 : s = A ++ (t ++ tailL l) := by rw [hs, hA]; simp
      have e3 : A.length = head + n := by rw [hA, List.length_append, List.length_append, ht]; omega
      rw [e2, ← Nat.add_assoc, ← e3, List.take_length_add_append, List.drop_left' rfl, List.take_left' rfl]
end Go.Proofs.YtlcbfphioeppaaaGreatDoor
namespace Go.Proofs.YtlcbfphioeppaaaGreatDoor
set_option linter.all false
open Go.SL Go.RowKit Go.Shelf
mutual
def erV : Vl → Vl
  | .mk a b c d bits _ items _ pick => .mk a b c d bits none (erL items) none pick
def erL : List Vl → List Vl
  | [] => []
  | x :: xs => erV x :: erL xs
end
theorem erL_map : ∀ l : List Vl, erL l = l.map erV
  | [] => by rw [erL]; rfl
  | x :: xs => by rw [erL, erL_map xs]; rfl
def v0L : Vl := .mk 0 0 0 0 [] none [] none 0
def mkNum (w : List Nat) : Vl := .mk (w.getD 0 0) (w.getD 1 0) (w.getD 2 0) (w.getD 3 0) [] none [] none 0
def mkBits (l : List Bool) : Vl := .mk 0 0 0 0 l none [] none 0
def mkItems (l : List Vl) (pick : Int) : Vl := .mk 0 0 0 0 [] none l none pick
def manyT (k n : Int) (ins : List Ty) (s : List UInt8) : Nat × Int :=
  if k = 7 then (ins.length, 0) else if k = 3 then (n.toNat, 0) else if s = [] then (0, 0)
  else if isFix (inTy k 0 ins 0) then (if s.length % (sizT (inTy k 0 ins 0)).toNat ≠ 0 then (0, 2) else if n < ((s.length / (sizT (inTy k 0 ins 0)).toNat : Nat) : Int) then (0, 5) else (s.length / (sizT (inTy k 0 ins 0)).toNat, 0))
  else if s.length < 4 ∨ leV (s.take 4) % 4 ≠ 0 ∨ leV (s.take 4) = 0 then (0, 2) else if n < ((leV (s.take 4) / 4 : Nat) : Int) then (0, 5) else (leV (s.take 4) / 4, 0)
abbrev Gf : Type := List UInt8 → Vl × Int
def runG : List (Gf × List UInt8) → List Vl × Int
  | [] => ([], 0)
  | (f, s) :: r => if (f s).2 ≠ 0 then ([], (f s).2) else if (runG r).2 ≠ 0 then ([], (runG r).2) else ((f s).1 :: (runG r).1, 0)
def topB (s : List UInt8) : Nat → Nat
  | 0 => 0
  | i + 1 => if bitAt s i = true then i else topB s i
def g0 : Gf := fun _ => (v0L, 0)
def rowT (k n : Int) (ins : List Ty) (fs : List Gf) (s : List UInt8) : Vl × Int :=
  if (manyT k n ins s).2 ≠ 0 then (v0L, (manyT k n ins s).2)
  else if (s.length : Int) < begL (tysN k ins (manyT k n ins s).1) then (v0L, 2)
  else match offL s (begL (tysN k ins (manyT k n ins s).1)).toNat (tysN k ins (manyT k n ins s).1) 0 (begL (tysN k ins (manyT k n ins s).1)).toNat false with
    | none => (v0L, 2)
    | some os =>
      let r := runG (((List.range (manyT k n ins s).1).map fun i => fs.getD (inX k 0 i) g0).zip (partL s (tysN k ins (manyT k n ins s).1) 0 os))
      if r.2 ≠ 0 then (v0L, r.2) else (mkItems r.1 0, 0)
def decT (k n : Int) (p : Pl) (ins : List Ty) (fs : List Gf) (s : List UInt8) : Vl × Int :=
  if isFix (.mk k n p ins) = true ∧ (s.length : Int) ≠ sizT (.mk k n p ins) then (v0L, 2)
  else if k = 1 then (mkNum (numD s), 0)
  else if k = 2 then (if 1 < (s.getD 0 0).toNat then (v0L, 2) else (mkNum (numD s), 0))
  else if k = 5 then (if ((unpackB s (8 * s.length)).drop n.toNat).any id then (v0L, 8) else (mkBits (unpackB s n.toNat), 0))
  else if k = 6 then (if s.getLast? = none ∨ s.getLast? = some 0 then (v0L, 2) else if n < (topB s (8 * s.length) : Int) then (v0L, 5) else (mkBits (unpackB s (topB s (8 * s.length))), 0))
  else if k = 8 then (match s with
    | [] => (v0L, 2)
    | b :: r => if ins.length ≤ b.toNat then (v0L, 9) else if (fs.getD b.toNat g0 r).2 ≠ 0 then (v0L, (fs.getD b.toNat g0 r).2) else (mkItems [(fs.getD b.toNat g0 r).1] b.toNat, 0))
  else rowT k n ins fs s
mutual
def getT : Ty → List UInt8 → Vl × Int
  | .mk k n p ins, s => decT k n p ins (getF ins) s
def getF : List Ty → List Gf
  | [] => []
  | x :: xs => getT x :: getF xs
end
theorem getF_map : ∀ l : List Ty, getF l = l.map getT
  | [] => by rw [getF]; rfl
  | x :: xs => by rw [getF, getF_map xs]; rfl
theorem getF_at {ins : List Ty} {i : Nat} {x : Ty} (h : ins[i]? = some x) : (getF ins).getD i g0 = getT x := by
  rw [getF_map, List.getD_eq_getElem?_getD, List.getElem?_map, h]; rfl
theorem runG_ok : ∀ {l : List (Gf × List UInt8)} {vs : List Vl}, l.length = vs.length → (∀ (i : Nat) f s v, l[i]? = some (f, s) → vs[i]? = some v → f s = (v, 0)) → runG l = (vs, 0)
  | [], [], _, _ => rfl
  | [], _ :: _, h, _ => by simp at h
  | _ :: _, [], h, _ => by simp at h
  | (f, s) :: l, v :: vs, h, hg => by
    have h1 := hg 0 f s v rfl rfl
    have h2 := runG_ok (l := l) (vs := vs) (by simpa using h) fun i f' s' v' hl hv => hg (i + 1) f' s' v' (by simpa using hl) (by simpa using hv)
    rw [runG, h1, if_neg (by simp), h2, if_neg (by simp)]
/-! what is put is got again -/
theorem dg_zero {w : List Nat} {n t : Nat} (h : (bytesW w).length ≤ n) (h1 : n ≤ t) (h2 : t < 32) : dg w t = 0 := by
  have e := bytesW_pad w
  have hb := bytesW_len w
  have h3 : (beD w 32)[31 - t]? = some 0 := by
    rw [← e, List.getElem?_append_left (by rw [List.length_replicate]; omega), List.getElem?_replicate, if_pos (by omega)]
  rw [beD_get w (show 31 - t < 32 by omega), show 32 - 1 - (31 - t) = t by omega] at h3
  have h4 := dg_lt w t
  have h5 : (UInt8.ofNat (dg w t)).toNat = (0 : UInt8).toNat := by rw [Option.some.inj h3]
  rw [UInt8.toNat_ofNat', Nat.mod_eq_of_lt h4] at h5; exact h5
theorem putL_mem : ∀ {l : List Vl} {k pick : Int} {ins : List Ty} {i : Nat} {q : Ty × List UInt8}, q ∈ putL l k pick ins i → ∃ j x, l[j]? = some x ∧ q = (inTy k pick ins (i + j), putV x (inTy k pick ins (i + j)))
  | [], _, _, _, _, _, h => by rw [putL] at h; cases h
  | y :: ys, k, pick, ins, i, q, h => by
    rw [putL] at h
    rcases List.mem_cons.1 h with rfl | h
    · exact ⟨0, y, rfl, rfl⟩
    · obtain ⟨j, x, h1, h2⟩ := putL_mem h
      exact ⟨j + 1, x, h1, by rw [h2, show i + 1 + j = i + (j + 1) by omega]⟩
theorem all_fix_tail : ∀ {l : List (Ty × List UInt8)}, (∀ p ∈ l, isFix p.1 = true) → tailN l = 0
  | [], _ => by rw [tailN]
  | (x, s) :: l, h => by
    have h1 := h _ List.mem_cons_self
    rw [tailN, if_pos h1]; exact all_fix_tail fun p hp => h p (List.mem_cons_of_mem _ hp)
theorem front_fix (head : Nat) : ∀ {l : List (Ty × List UInt8)} (n : Nat), (∀ p ∈ l, isFix p.1 = true) → Sized l → ((frontL head l n).length : Int) = begL (l.map Prod.fst)
  | [], _, _, _ => rfl
  | (x, s) :: l, n, hf, hs => by
    have h1 := hf _ List.mem_cons_self
    have h2 := hs _ List.mem_cons_self h1
    have h3 := front_fix head n (l := l) (fun p hp => hf p (List.mem_cons_of_mem _ hp)) fun p hp => hs p (List.mem_cons_of_mem _ hp)
    simp only at h1 h2; rw [frontL, List.map_cons, begL, begT, if_pos h1, if_pos h1, List.length_append]
    simp only
    omega
theorem begL_sum : ∀ {l : List (Ty × List UInt8)}, Sized l → begL (l.map Prod.fst) ≤ (sumB l : Nat)
  | [], _ => by rw [List.map_nil, begL, sumB]; exact Int.le_refl _
  | (x, s) :: l, h => by
    have h1 := begL_sum (l := l) fun p hp => h p (List.mem_cons_of_mem _ hp)
    have h2 := h _ List.mem_cons_self
    rw [List.map_cons, begL, begT, sumB]; simp only at h2 ⊢
    split
    · rename_i h3
      have := h2 h3
      omega
    · omega
theorem sumB_rest : ∀ l : List (Ty × List UInt8), sumB l = restB l
  | [] => rfl
  | p :: l => by rw [sumB, restB_cons, sumB_rest l]
theorem begL_same {k : Int} {ins : List Ty} {x : Ty} : ∀ m : Nat, (∀ i, i < m → inTy k 0 ins i = x) → begL (tysN k ins m) = m * begT x
  | 0, _ => by rw [show tysN k ins 0 = [] from rfl, begL]; simp
  | m + 1, h => by
    rw [begL_snoc, begL_same m fun i hi => h i (by omega), h m (by omega), Int.natCast_add, Int.add_mul]
    simp
theorem tysN_7 (ins : List Ty) : tysN 7 ins ins.length = ins := by
  apply List.ext_getElem?
  intro i
  unfold tysN
  rw [List.getElem?_map]
  by_cases h : i < ins.length
  · rw [List.getElem?_range h, List.getElem?_eq_getElem h]
    show some (ins.getD (inX 7 0 i) default) = _
    rw [show inX 7 0 i = i from if_pos rfl, List.getD_eq_getElem?_getD, List.getElem?_eq_getElem h]; rfl
  · rw [List.getElem?_eq_none (by rw [List.length_range]; omega), List.getElem?_eq_none (by omega)]; rfl
theorem begL_siz : ∀ {l : List Ty}, (∀ x ∈ l, isFix x = true) → begL l = sizL l
  | [], _ => by rw [begL, sizL]
  | x :: xs, h => by rw [begL, sizL, begT, if_pos (h x List.mem_cons_self), begL_siz fun y hy => h y (List.mem_cons_of_mem _ hy)]
section
variable {a b c d : Nat} {bits : List Bool} {pb : Pl} {items : List Vl} {pi : Pl} {pick k n : Int} {p : Pl} {ins : List Ty}
theorem fit_all (hc : chk (.mk k n p ins) 0 = 0) (h : fitT (.mk a b c d bits pb items pi pick) (.mk k n p ins) = 0) :
    (k = 1 → bits.length = 0 ∧ items.length = 0 ∧ pick = 0 ∧ ((bytesW [a, b, c, d]).length : Int) ≤ n) ∧
    (k = 2 → bits.length = 0 ∧ items.length = 0 ∧ pick = 0 ∧ (a = 0 ∨ a = 1) ∧ b = 0 ∧ c = 0 ∧ d = 0) ∧
    (k = 3 ∨ k = 4 ∨ k = 7 → a = 0 ∧ b = 0 ∧ c = 0 ∧ d = 0 ∧ bits.length = 0 ∧ pick = 0) ∧
    (k = 5 ∨ k = 6 → a = 0 ∧ b = 0 ∧ c = 0 ∧ d = 0 ∧ items.length = 0 ∧ pick = 0) ∧
    (k = 8 → a = 0 ∧ b = 0 ∧ c = 0 ∧ d = 0 ∧ bits.length = 0) ∧ (k = 3 → (items.length : Int) = n) ∧ (k = 5 → (bits.length : Int) = n) := by
  obtain ⟨h1, h2, _⟩ := fit_split h
  obtain ⟨hk, hf, _, _⟩ := chk_mk hc
  rw [ofT_mk k n ins.length a b c d bits pb items pi pick _ rfl] at h2; simp only [onlyB_mk] at h2
  unfold okForm at hf
  have h9 : k = 1 ∨ k = 2 ∨ k = 3 ∨ k = 4 ∨ k = 5 ∨ k = 6 ∨ k = 7 ∨ k = 8 := by omega
  rcases h9 with rfl | rfl | rfl | rfl | rfl | rfl | rfl | rfl
  all_goals generalize items.length = I at *
  all_goals generalize bits.length = J at *
  all_goals generalize ins.length = K at *
  all_goals generalize (bytesW [a, b, c, d]).length = Z at *
  all_goals simp at h1 h2 hf ⊢
  all_goals omega
theorem fit_row (hc : chk (.mk k n p ins) 0 = 0) (h : fitT (.mk a b c d bits pb items pi pick) (.mk k n p ins) = 0) (h8 : k ≠ 8) {j : Nat} {x : Vl} (hx : items[j]? = some x) : ins[inX k 0 j]? = some (inTy k 0 ins j) ∧ inTy k 0 ins j ∈ ins ∧ chk (inTy k 0 ins j) 0 = 0 ∧ fitT x (inTy k 0 ins j) = 0 := by
  obtain ⟨_, h2, h3⟩ := fit_split h
  have hlt := (List.getElem?_eq_some_iff.1 hx).1
  have hin := inX_lt (v := .mk a b c d bits pb items pi pick) hc h2 hlt
  have hg := fitL_get h3 hx
  rw [Nat.zero_add, inTy_n8 h8] at hg
  have e : inX k (Vl.pick (.mk a b c d bits pb items pi pick)) j = inX k 0 j := by unfold inX; rw [if_neg h8, if_neg h8]
  rw [e] at hin
  have hty := inTy_get hin
  exact ⟨hty.1, hty.2, chk_sub hc _ hty.2, hg⟩
end
theorem sized_of {items : List Vl} {k : Int} {ins : List Ty} (h : ∀ (j : Nat) x, items[j]? = some x → isFix (inTy k 0 ins j) = true → ((putV x (inTy k 0 ins j)).length : Int) = sizT (inTy k 0 ins j)) : Sized (putL items k 0 ins 0) := by
  intro q hq hf
  obtain ⟨j, x, h1, rfl⟩ := putL_mem hq
  rw [Nat.zero_add] at hf ⊢; exact h j x h1 hf
theorem fix_len (v : Vl) : ∀ t, chk t 0 = 0 → fitT v t = 0 → fixT t = true → ((putV v t).length : Int) = sizT t := by
  induction v using Vl.ind with
  | h a b c d bits pb items pi pick ih =>
  intro t hc hf hx
  obtain ⟨k, n, p, ins⟩ := t
  obtain ⟨hk8, ho, _, _⟩ := chk_mk hc
  obtain ⟨m1, m2, m3, m4⟩ := fit_many hc hf
  obtain ⟨q1, q2, q3⟩ := fit_more hc hf
  obtain ⟨g1, g2, g3, g4, g5, g6, g7⟩ := fit_all hc hf
  have hrow := fun (h8 : k ≠ 8) (j : Nat) x (h : items[j]? = some x) => fit_row hc hf h8 h
  rw [fixT, Bool.and_eq_true] at hx
  have hne : (k ≠ 4 ∧ k ≠ 6) ∧ k ≠ 8 := by simpa using hx.1
  have hfx := fixL_mem.1 hx.2
  rw [putV_mk, sizT]
  by_cases h1 : k = 1
  · have := m3 h1
    rw [if_pos h1, if_pos h1, leW_len _ (by omega)]; omega
  rw [if_neg h1, if_neg h1]
  by_cases h2 : k = 2
  · rw [if_pos h2, if_pos h2, leW_len _ (by decide)]; rfl
  rw [if_neg h2, if_neg h2]
  by_cases h5 : k = 5
  · have := g7 h5
    rw [if_pos h5, if_pos h5, packB_len]; omega
  have hall : ∀ q ∈ putL items k 0 ins 0, isFix q.1 = true := fun q hq => by
    obtain ⟨j, x, e1, rfl⟩ := putL_mem hq
    obtain ⟨_, r1, r2, _⟩ := hrow hne.2 j x e1
    rw [Nat.zero_add]; exact isFix_iff.2 ⟨r2, hfx _ r1⟩
  have hsz : Sized (putL items k 0 ins 0) := sized_of fun j x e1 _ => by
    obtain ⟨_, r1, r2, r3⟩ := hrow hne.2 j x e1
    exact ih x (List.mem_of_getElem? e1) _ r2 r3 (hfx _ r1)
  rw [if_neg h5, if_neg h5, if_neg hne.1.2, if_neg hne.2, putL_n8 hne.2, rowF_eq, List.nil_append, List.nil_append, List.length_append, tail_len, all_fix_tail hall, Int.natCast_add, front_fix _ _ hall hsz, tysN_put]
  by_cases h3 : k = 3
  · obtain ⟨w1, w2, w3, w4⟩ := q1 (.inl h3)
    have w5 := g6 h3
    match ins, w4 with
    | [x], _ =>
    rw [if_pos h3, begL_same (x := x) _ fun i _ => by subst h3; rfl, begT, if_pos (isFix_iff.2 ⟨chk_sub hc _ List.mem_cons_self, hfx _ List.mem_cons_self⟩), w5, sizL, sizL]
    simp
  · have h7 : k = 7 := by omega
    subst h7; rw [if_neg h3, (q3 rfl).1, tysN_7, begL_siz fun x hx => isFix_iff.2 ⟨chk_sub hc _ hx, hfx _ hx⟩]
    simp
theorem pack_tail (l : List Bool) : ((unpackB (packB l) (8 * (packB l).length)).drop l.length).any id = false := by
  rw [List.any_eq_false]; intro b hb
  obtain ⟨j, hj⟩ := List.getElem?_of_mem hb
  rw [List.getElem?_drop] at hj
  have hlt : l.length + j < 8 * (packB l).length := by
    have := (List.getElem?_eq_some_iff.1 hj).1
    rw [unpackB_len] at this; exact this
  rw [unpackB_get _ hlt] at hj; rw [packB_len] at hlt; rw [pack_bit l hlt, List.getD_eq_getElem?_getD, List.getElem?_eq_none (by omega)] at hj
  cases hj; simp
theorem topB_eq {s : List UInt8} {L : Nat} (h1 : bitAt s L = true) : ∀ N : Nat, L < N → (∀ i, L < i → i < N → bitAt s i = false) → topB s N = L
  | 0, h, _ => by omega
  | N + 1, h, h2 => by
    rw [topB]
    by_cases e : L = N
    · subst e; rw [if_pos h1]
    · rw [if_neg (by rw [h2 N (by omega) (by omega)]; decide)]
      exact topB_eq h1 N (by omega) fun i hi hj => h2 i hi (by omega)
theorem pack_end (bits : List Bool) : topB (packB (bits ++ [true])) (8 * (packB (bits ++ [true])).length) = bits.length ∧ unpackB (packB (bits ++ [true])) bits.length = bits ∧ (packB (bits ++ [true])).getLast? ≠ none ∧ (packB (bits ++ [true])).getLast? ≠ some 0 := by
  have hl : (bits ++ [true]).length = bits.length + 1 := by rw [List.length_append]; rfl
  have hn := packB_len (bits ++ [true])
  rw [hl] at hn
  have hb : ∀ i, i < 8 * (packB (bits ++ [true])).length → bitAt (packB (bits ++ [true])) i = (bits ++ [true]).getD i false := fun i hi => pack_bit _ (by rw [hl]; rw [hn] at hi; exact hi)
  have h1 : bitAt (packB (bits ++ [true])) bits.length = true := by
    rw [hb _ (by omega), List.getD_eq_getElem?_getD, List.getElem?_append_right (Nat.le_refl _), Nat.sub_self]; rfl
  refine ⟨topB_eq h1 _ (by omega) fun i h2 h3 => ?_, ?_, ?_, ?_⟩
  · rw [hb _ h3, List.getD_eq_getElem?_getD, List.getElem?_eq_none (by omega)]; rfl
  · apply List.ext_getElem?
    intro i
    by_cases hi : i < bits.length
    · rw [unpackB_get _ hi, hb _ (by omega), List.getD_eq_getElem?_getD, List.getElem?_append_left hi, List.getElem?_eq_getElem hi]; rfl
    · rw [List.getElem?_eq_none (by rw [unpackB_len]; omega), List.getElem?_eq_none (by omega)]
  · rw [Ne, List.getLast?_eq_none_iff]
    intro e; rw [e] at hn; simp at hn; omega
  · rw [List.getLast?_eq_getElem?]
    intro e
    have e2 : (packB (bits ++ [true])).getD (bits.length / 8) 0 = 0 := by
      rw [List.getD_eq_getElem?_getD, show bits.length / 8 = (packB (bits ++ [true])).length - 1 by omega, e]; rfl
    unfold bitAt at h1
    rw [e2] at h1; simp at h1
theorem row_put {l : List (Ty × List UInt8)} {H : Nat} {s : List UInt8} (hH : begL (l.map Prod.fst) = (H : Int)) (hz : Sized l) (hs : s = rowF H l [] []) (hb : H + sumB l < 4294967296) :
    s.length = H + tailN l ∧ offL s H (l.map Prod.fst) 0 H false = some (offE H l 0) ∧ partL s (l.map Prod.fst) 0 (offE H l 0) = l.map Prod.snd := by
  rw [rowF_eq, List.nil_append, List.nil_append, List.length_nil] at hs
  have hf := front_len H l 0 hz (by omega)
  rw [hH] at hf; refine ⟨by rw [hs, List.length_append, tail_len]; omega, ?_, ?_⟩
  · exact offL_put H s l [] [] 0 H false hz (by rw [hs]; simp) (by simp only [List.length_nil]; omega) rfl (Nat.le_refl _) (fun _ => rfl) (by omega)
  · exact partL_put H s l [] [] 0 hz (by rw [hs]; simp) (by simp only [List.length_nil]; omega) rfl (by omega)
theorem erV_mk (a b c d : Nat) (bits : List Bool) (pb : Pl) (items : List Vl) (pi : Pl) (pick : Int) : erV (.mk a b c d bits pb items pi pick) = .mk a b c d bits none (erL items) none pick := by rw [erV]
set_option maxRecDepth 10000 in
theorem get_put {R : List (Nat × Obj)} {v : Vl} (hv : v.In R) : ∀ t, chk t 0 = 0 → fitT v t = 0 → wV v ≤ 20000 → getT t (putV v t) = (erV v, 0) := by
  induction hv with
  | @mk a b c d bits pb items pi pick ha hb hcc hd hlb hsb hl hs hp hi ih =>
  intro t hc hf hw
  obtain ⟨k, n, p, ins⟩ := t
  obtain ⟨hk8, ho, _, _⟩ := chk_mk hc
  obtain ⟨m1, m2, m3, m4⟩ := fit_many hc hf
  obtain ⟨q1, q2, q3⟩ := fit_more hc hf
  obtain ⟨g1, g2, g3, g4, g5, g6, g7⟩ := fit_all hc hf
  have hwd : WOk [a, b, c, d] := ⟨rfl, fun x hx => by simp at hx; rcases hx with rfl | rfl | rfl | rfl <;> assumption⟩
  have hrow := fun (h8 : k ≠ 8) (j : Nat) x (h : items[j]? = some x) => fit_row hc hf h8 h
  have hfl := fix_len _ _ hc hf
  rw [getT]
  unfold decT
  rw [if_neg (fun h => h.2 (hfl (isFix_iff.1 h.1).2)), erV_mk, putV_mk]
  by_cases h1 : k = 1
  · obtain ⟨e1, e2, rfl, e4⟩ := g1 h1
    obtain rfl := List.length_eq_zero_iff.1 e1
    obtain rfl := List.length_eq_zero_iff.1 e2
    have := m3 h1
    rw [if_pos h1, if_pos h1, num_le hwd (by omega) fun t h3 h4 => dg_zero (n := n.toNat) (by omega) h3 h4, erL]; rfl
  rw [if_neg h1, if_neg h1]
  by_cases h2 : k = 2
  · obtain ⟨e1, e2, rfl, e4, rfl, rfl, rfl⟩ := g2 h2
    obtain rfl := List.length_eq_zero_iff.1 e1
    obtain rfl := List.length_eq_zero_iff.1 e2
    have hz : (bytesW [a, 0, 0, 0]).length ≤ 1 := by rcases e4 with rfl | rfl <;> decide +kernel
    have h01 : ¬ 1 < ((leW [a, 0, 0, 0] 1).getD 0 0).toNat := by rcases e4 with rfl | rfl <;> decide +kernel
    rw [if_pos h2, if_pos h2, if_neg h01, num_le hwd (by decide) fun t h3 h4 => dg_zero hz h3 h4, erL]; rfl
  rw [if_neg h2, if_neg h2]
  by_cases h5 : k = 5
  · obtain ⟨rfl, rfl, rfl, rfl, e2, rfl⟩ := g4 (.inl h5)
    obtain rfl := List.length_eq_zero_iff.1 e2
    have hn := g7 h5
    rw [if_pos h5, if_pos h5, show n.toNat = bits.length by omega, pack_tail, if_neg (by decide), unpack_pack, erL]; rfl
  rw [if_neg h5, if_neg h5]
  by_cases h6 : k = 6
  · obtain ⟨rfl, rfl, rfl, rfl, e2, rfl⟩ := g4 (.inr h6)
    obtain rfl := List.length_eq_zero_iff.1 e2
    obtain ⟨w1, w2, w3⟩ := q2 (.inr h6)
    obtain ⟨t1, t2, t3, t4⟩ := pack_end bits
    rw [if_pos h6, if_pos h6, if_neg (by rintro (h | h); exact t3 h; exact t4 h), t1, if_neg (by omega), t2, erL]; rfl
  rw [if_neg h6, if_neg h6]
  by_cases h8 : k = 8
  · obtain ⟨rfl, rfl, rfl, rfl, e1⟩ := g5 h8
    obtain rfl := List.length_eq_zero_iff.1 e1
    obtain ⟨w1, w2, w3, w4⟩ := m4 h8
    subst h8
    match items, w1 with
    | [x], _ =>
    obtain ⟨_, f2, f3⟩ := fit_split hf
    have hg := fitL_get (j := 0) (x := x) f3 rfl
    have hin := inX_lt (v := .mk 0 0 0 0 [] pb [x] pi pick) (i := 0) hc f2 (Nat.lt_succ_self 0)
    have hty := inTy_get hin
    have hx := ih x List.mem_cons_self _ (chk_sub hc _ hty.2) hg (Nat.le_trans (wV_sub List.mem_cons_self) hw)
    have hbt : (UInt8.ofNat pick.toNat).toNat = pick.toNat := by rw [UInt8.toNat_ofNat']; omega
    have hF := getF_at hty.1
    rw [show inX 8 (Vl.pick (.mk 0 0 0 0 [] pb [x] pi pick)) 0 = pick.toNat from rfl] at hF; rw [if_pos rfl, if_pos rfl, putL]; simp only [List.headD_cons, hbt]; rw [if_neg (by omega), hF]; rw [show inTy 8 (Vl.pick (.mk 0 0 0 0 [] pb [x] pi pick)) ins 0 = inTy 8 pick ins 0 from rfl] at *; rw [hx]; simp only [ne_eq, not_true_eq_false, if_false]; rw [erL, erL, mkItems]
    congr 2
    omega
  rw [if_neg h8, if_neg h8, putL_n8 h8, tysN_put]
  obtain ⟨rfl, rfl, rfl, rfl, e1, rfl⟩ := g3 (by omega)
  obtain rfl := List.length_eq_zero_iff.1 e1
  have hsz : Sized (putL items k 0 ins 0) := sized_of fun j x e1 hfx => by
    obtain ⟨_, r1, r2, r3⟩ := hrow h8 j x e1
    exact fix_len x _ r2 r3 (isFix_iff.1 hfx).2
  have hbl := begL_le (tysN k ins items.length)
  obtain ⟨H, hH⟩ : ∃ H, H = (begL (tysN k ins items.length)).toNat := ⟨_, rfl⟩
  have hHi : begL (tysN k ins items.length) = (H : Int) := by omega
  have hbs := begL_sum hsz
  have hrl := restB_le items k 0 ins items 0
  rw [← sumB_rest] at hrl
  have hwl : wL items ≤ 20000 := by rw [wV] at hw; omega
  rw [tysN_put, hHi] at hbs; rw [← hH]
  obtain ⟨s, hS⟩ : ∃ s, s = rowF H (putL items k 0 ins 0) [] [] := ⟨_, rfl⟩
  obtain ⟨o1, o2, o3⟩ := row_put (l := putL items k 0 ins 0) (by rw [tysN_put]; exact hHi) hsz hS (by omega)
  rw [tysN_put] at o2 o3; rw [← hS]
  have hmany : manyT k n ins s = (items.length, 0) := by
    unfold manyT
    by_cases h7 : k = 7
    · rw [if_pos h7, (q3 h7).1]
    · rw [if_neg h7]
      by_cases h3 : k = 3
      · have := g6 h3
        rw [if_pos h3, show n.toNat = items.length by omega]
      · rw [if_neg h3]
        have h4 : k = 4 := by omega
        subst h4
        obtain ⟨w1, w2, w3, w4⟩ := q1 (.inr rfl)
        have hsm : ∀ i, i < items.length → inTy 4 0 ins i = inTy 4 0 ins 0 := fun i _ => rfl
        have hbe := begL_same items.length hsm
        rw [hHi] at hbe
        cases items with
        | nil =>
          rw [putL, rowF] at hS; rw [if_pos (by rw [hS]; rfl)]; rfl
        | cons x xs =>
          obtain ⟨_, r1, r2, r3⟩ := hrow h8 0 x rfl
          have hbT := begT_le (inTy 4 0 ins 0)
          have hpos : 0 < H := by
            have : (1 : Int) * begT (inTy 4 0 ins 0) ≤ ((x :: xs).length : Int) * begT (inTy 4 0 ins 0) := Int.mul_le_mul_of_nonneg_right (by rw [List.length_cons]; omega) (by omega)
            omega
          rw [if_neg (by intro e; rw [e] at o1; simp at o1; omega)]
          by_cases hfx : isFix (inTy 4 0 ins 0) = true
          · have hall : ∀ q ∈ putL (x :: xs) 4 0 ins 0, isFix q.1 = true := fun q hq => by
              obtain ⟨j, y, e1, rfl⟩ := putL_mem hq
              exact hfx
            rw [all_fix_tail hall] at o1; rw [begT, if_pos hfx] at hbe hbT
            obtain ⟨z, hz⟩ : ∃ z, z = (sizT (inTy 4 0 ins 0)).toNat := ⟨_, rfl⟩
            have hzi : sizT (inTy 4 0 ins 0) = (z : Int) := by omega
            rw [hzi] at hbe
            have hHe : H = (x :: xs).length * z := by exact_mod_cast hbe
            have hdv : s.length / z = (x :: xs).length := by rw [o1, Nat.add_zero, hHe]; exact Nat.mul_div_cancel _ (by omega)
            rw [if_pos hfx, ← hz, if_neg (by rw [o1, Nat.add_zero, hHe, Nat.mul_mod_left]; simp), hdv, if_neg (by omega)]
          · rw [begT, if_neg hfx] at hbe
            have htk : s.take 4 = leN H 4 := by
              rw [hS, rowF_eq, List.nil_append, List.nil_append, List.length_nil, putL, frontL, if_neg hfx, Nat.add_zero, leR4 (by omega), List.append_assoc, List.take_left' (leN_len _ _)]
            have hlv : leV (s.take 4) = H := by rw [htk]; exact leV_leN 4 _ (by simp; omega)
            rw [if_neg hfx, hlv, if_neg (by omega), if_neg (by omega), show H / 4 = (x :: xs).length by omega]
  unfold rowT
  rw [hmany]; simp only [ne_eq, not_true_eq_false, if_false]; rw [hHi, if_neg (by omega), Int.toNat_natCast, o2]
  simp only
  rw [o3]
  have hrun : runG (((List.range items.length).map fun i => (getF ins).getD (inX k 0 i) g0).zip ((putL items k 0 ins 0).map Prod.snd)) = (erL items, 0) := by
    refine runG_ok (by rw [List.length_zip, List.length_map, List.length_map, List.length_range, putL_len, erL_map, List.length_map]; omega) fun i f s v h1 h2 => ?_; rw [erL_map, List.getElem?_map] at h2
    obtain ⟨x, hx, rfl⟩ := Option.map_eq_some_iff.1 h2
    obtain ⟨r0, r1, r2, r3⟩ := hrow h8 i x hx
    have hlt := (List.getElem?_eq_some_iff.1 hx).1
    rw [List.getElem?_zip_eq_some] at h1; simp only at h1
    obtain ⟨h3, h4⟩ := h1
    rw [List.getElem?_map, List.getElem?_range hlt, Option.map_some, getF_at r0] at h3; rw [List.getElem?_map, putL_get hx, Option.map_some, Nat.zero_add] at h4
    cases h3; cases h4
    exact ih x (List.mem_of_getElem? hx) _ r2 r3 (Nat.le_trans (wV_sub (List.mem_of_getElem? hx)) hw)
  rw [hrun]; simp only [ne_eq, not_true_eq_false, if_false]
  rfl
/-! the places of rows tell nothing -/
theorem putL_er (k pick : Int) (ins : List Ty) : ∀ (l : List Vl), (∀ x ∈ l, ∀ t, putV (erV x) t = putV x t) → ∀ i : Nat, putL (erL l) k pick ins i = putL l k pick ins i
  | [], _, i => by rw [erL]
  | x :: xs, h, i => by rw [erL, putL, putL, h x List.mem_cons_self, putL_er k pick ins xs (fun y hy => h y (List.mem_cons_of_mem _ hy))]
theorem put_er (v : Vl) : ∀ t, putV (erV v) t = putV v t := by
  induction v using Vl.ind with
  | h a b c d bits pb items pi pick ih =>
  intro t
  obtain ⟨k, n, p, ins⟩ := t
  rw [erV_mk, putV_mk, putV_mk, putL_er k pick ins items ih]
theorem rootL_er (k pick : Int) (ins : List Ty) : ∀ (l : List Vl), (∀ x ∈ l, ∀ t, rootV (erV x) t = rootV x t) → ∀ i : Nat, rootL (erL l) k pick ins i = rootL l k pick ins i
  | [], _, i => by rw [erL]
  | x :: xs, h, i => by rw [erL, rootL, rootL, h x List.mem_cons_self, rootL_er k pick ins xs (fun y hy => h y (List.mem_cons_of_mem _ hy))]
theorem catB_er (x : Ty) (l : List Vl) : catB (erL l) x = catB l x := by
  unfold catB
  rw [erL_map, List.map_map]
  congr 1
  exact List.map_congr_left fun v _ => put_er v x
theorem root_er (v : Vl) : ∀ t, rootV (erV v) t = rootV v t := by
  induction v using Vl.ind with
  | h a b c d bits pb items pi pick ih =>
  intro t
  obtain ⟨k, n, p, ins⟩ := t
  have hl : (erL items).length = items.length := by rw [erL_map, List.length_map]
  rw [erV_mk, rootV_mk, rootV_mk, rootL_er k pick ins items ih, hl]
  unfold rowM
  rw [catB_er]
/-- Values of the same bytes are the same, and have the same root. -/
theorem put_inj {R : List (Nat × Obj)} {v w : Vl} (hv : v.In R) (hw : w.In R) {t : Ty} (hc : chk t 0 = 0) (h1 : fitT v t = 0) (h2 : fitT w t = 0) (hwv : wV v ≤ 20000) (hww : wV w ≤ 20000) (h : putV v t = putV w t) : erV v = erV w := by
  have e1 := get_put hv t hc h1 hwv
  have e2 := get_put hw t hc h2 hww
  rw [h, e2] at e1; exact (Prod.mk.inj e1).1.symm
theorem root_inj {R : List (Nat × Obj)} {v w : Vl} (hv : v.In R) (hw : w.In R) {t : Ty} (hc : chk t 0 = 0) (h1 : fitT v t = 0) (h2 : fitT w t = 0) (hwv : wV v ≤ 20000) (hww : wV w ≤ 20000) (h : putV v t = putV w t) : rootV v t = rootV w t := by
  rw [← root_er v, ← root_er w, put_inj hv hw hc h1 h2 hwv hww h]
end Go.Proofs.YtlcbfphioeppaaaGreatDoor
namespace Go.Proofs.YtlcbfphioeppaaaGreatDoor
set_option linter.all false
open Go.SL Go.RowKit Go.Shelf
/-! ### The root of a value -/
section
variable {R : List (Nat × Obj)} {k n : Int} {p : Pl} {ins : List Ty} {a b c d : Nat} {bits : List Bool} {pb : Pl} {items : List Vl} {pi : Pl} {pick : Int} {s : BS}
set_option maxRecDepth 10000 in
theorem S_c1 (h : PureR Tryz.prog 105 [Ty.val (.mk k n p ins), plV items.length pi].toArray (strV s) R) : PureR Tryz.prog 104 [Ty.val (.mk k n p ins), Vl.val (.mk a b c d bits pb items pi pick)].toArray (strV s) R := by
  refine pureR_of_HC Tryz.func104 rfl rfl fun w => ?_; refine HC_seq fun K1 hK1 => ?_; refine HC_region ?_; refine HL_box (cs := #[_, _, _]) rfl rfl rfl rfl fun r1 => ?_; refine HL_box (cs := #[_, _, _, _, _, _, _]) rfl rfl rfl rfl fun r2 => ?_; refine HL_r rfl rfl rfl rfl (R_assign rfl) ?_; refine HL_nil ?_; refine HQ_then ?_; refine hK1 _ _ _ _ ?_; clear hK1 K1; refine HC_seq fun K2 hK2 => ?_; refine HC_region ?_; refine HL_r rfl rfl rfl rfl (R_loadArr (xs := (Ty.mk k n p ins).cells) (n := 3) rfl (known_L (k := 1) rfl) rfl rfl (Ty.mk k n p ins).len) ?_
  refine HL_r rfl rfl rfl rfl (R_fieldAddr rfl rfl (by first | (simp only [Nat.zero_add, Nat.reduceAdd, Nat.reduceMul, Nat.zero_mul, Nat.mul_one, Nat.add_zero]; exact rfl) | exact rfl)) ?_; refine HL_r rfl rfl rfl rfl (R_load rfl (known_L (k := 0) rfl) rfl rfl) ?_; refine HL_callR rfl rfl rfl (enters_of Tryz.func105 (by kernel_rfl) rfl) h (fun q hq => Or.inr hq) ?_; refine HL_r rfl rfl rfl rfl (R_assign rfl) ?_; refine HL_nil ?_; refine HQ_then ?_; refine hK2 _ _ _ _ ?_; clear hK2 K2; refine HC_ret ?_; refine HQ_post rfl rfl (.cons (res_tmp rfl) .nil) (fun w1 hs1 => ?_); exact ⟨rfl, hs1.keep⟩
set_option maxRecDepth 10000 in
theorem S_c2 (hs : Seg R items.length (vlsC items) pi) (h32 : s.length = 32) (hl : items.length ≤ 512) (h : PureR Tryz.prog 105 [Ty.val (.mk k n p ins), plV items.length pi].toArray (strV s) R) : PureR Tryz.prog 106 [Ty.val (.mk k n p ins), Vl.val (.mk a b c d bits pb items pi pick)].toArray (strV (mixE s items.length)) R := by
  refine pureR_of_HC Tryz.func106 rfl rfl fun w => ?_; refine HC_seq fun K1 hK1 => ?_; refine HC_region ?_; refine HL_box (cs := #[_, _, _]) rfl rfl rfl rfl fun r1 => ?_; refine HL_box (cs := #[_, _, _, _, _, _, _]) rfl rfl rfl rfl fun r2 => ?_; refine HL_r rfl rfl rfl rfl (R_assign rfl) ?_; refine HL_nil ?_; refine HQ_then ?_; refine hK1 _ _ _ _ ?_; clear hK1 K1; refine HC_seq fun K2 hK2 => ?_
  refine HC_drawB [] [(1, .pure), (4, .pure), (6, .pure), (7, .pure), (8, .pure)] 9 [0, 1, 2, 4, 5, 6, 3, 7, 8] (by kernel_rfl) (by kernel_rfl) (by first | exact (fun _ h => nomatch h) | simp [SubS] | (intro p hp; simp [hp])) ?_; refine HB_r (k := 0) rfl rfl rfl rfl rfl (R_loadArr (xs := (Ty.mk k n p ins).cells) (n := 3) rfl (known_L (k := 1) rfl) rfl rfl (Ty.mk k n p ins).len) ?_
  refine HB_p (k := 1) rfl rfl rfl rfl rfl (fun _ hS => (R_fieldAddr rfl rfl (by first | (simp only [Nat.zero_add, Nat.reduceAdd, Nat.reduceMul, Nat.zero_mul, Nat.mul_one, Nat.add_zero]; exact rfl) | exact rfl))) ?_; refine HB_r (k := 2) rfl rfl rfl rfl rfl (R_load rfl (known_L (k := 0) rfl) rfl rfl) ?_
  refine HB_p (k := 4) rfl rfl rfl rfl rfl (fun _ hS => (R_fieldAddr rfl rfl (by first | (simp only [Nat.zero_add, Nat.reduceAdd, Nat.reduceMul, Nat.zero_mul, Nat.mul_one, Nat.add_zero]; exact rfl) | exact rfl))) ?_; refine HB_r (k := 5) rfl rfl rfl rfl rfl (R_load rfl (known_L (k := 0) rfl) rfl rfl) ?_; refine HB_p (k := 6) rfl rfl rfl rfl rfl (fun _ hS => (R_lenPl rfl hs rfl)) ?_; refine HB_callR (k := 3) rfl rfl rfl rfl rfl (enters_of Tryz.func105 (by kernel_rfl) rfl) h (fun q hq => Or.inr hq) ?_; refine HB_callP (k := 7) rfl rfl rfl rfl rfl (enters_of Tryz.func107 (by kernel_rfl) rfl) (P_mix (by omega) (by omega)) ?_; refine HB_p (k := 8) rfl rfl rfl rfl rfl (fun _ hS => (R_assign rfl)) ?_; refine HB_end ?_; refine HL_nil ?_; refine HQ_then ?_; refine hK2 _ _ _ _ ?_; clear hK2 K2; refine HC_ret ?_; refine HQ_post rfl rfl (.cons (res_tmp rfl) .nil) (fun w1 hs1 => ?_); exact ⟨rfl, hs1.keep⟩
set_option maxRecDepth 10000 in
theorem S_c3 (h : PureR Tryz.prog 109 [Ty.val (.mk k n p ins), plV bits.length pb].toArray (strV s) R) : PureR Tryz.prog 108 [Ty.val (.mk k n p ins), Vl.val (.mk a b c d bits pb items pi pick)].toArray (strV s) R := by
  refine pureR_of_HC Tryz.func108 rfl rfl fun w => ?_; refine HC_seq fun K1 hK1 => ?_; refine HC_region ?_; refine HL_box (cs := #[_, _, _]) rfl rfl rfl rfl fun r1 => ?_; refine HL_box (cs := #[_, _, _, _, _, _, _]) rfl rfl rfl rfl fun r2 => ?_; refine HL_r rfl rfl rfl rfl (R_assign rfl) ?_; refine HL_nil ?_; refine HQ_then ?_; refine hK1 _ _ _ _ ?_; clear hK1 K1; refine HC_seq fun K2 hK2 => ?_; refine HC_region ?_; refine HL_r rfl rfl rfl rfl (R_loadArr (xs := (Ty.mk k n p ins).cells) (n := 3) rfl (known_L (k := 1) rfl) rfl rfl (Ty.mk k n p ins).len) ?_
  refine HL_r rfl rfl rfl rfl (R_fieldAddr rfl rfl (by first | (simp only [Nat.zero_add, Nat.reduceAdd, Nat.reduceMul, Nat.zero_mul, Nat.mul_one, Nat.add_zero]; exact rfl) | exact rfl)) ?_; refine HL_r rfl rfl rfl rfl (R_load rfl (known_L (k := 0) rfl) rfl rfl) ?_; refine HL_callR rfl rfl rfl (enters_of Tryz.func109 (by kernel_rfl) rfl) h (fun q hq => Or.inr hq) ?_; refine HL_r rfl rfl rfl rfl (R_assign rfl) ?_; refine HL_nil ?_; refine HQ_then ?_; refine hK2 _ _ _ _ ?_; clear hK2 K2; refine HC_ret ?_; refine HQ_post rfl rfl (.cons (res_tmp rfl) .nil) (fun w1 hs1 => ?_); exact ⟨rfl, hs1.keep⟩
set_option maxRecDepth 10000 in
theorem S_c4 (hs : Seg R bits.length (bitsC bits) pb) (h32 : s.length = 32) (hl : bits.length ≤ 512) (h : PureR Tryz.prog 109 [Ty.val (.mk k n p ins), plV bits.length pb].toArray (strV s) R) : PureR Tryz.prog 110 [Ty.val (.mk k n p ins), Vl.val (.mk a b c d bits pb items pi pick)].toArray (strV (mixE s bits.length)) R := by
  refine pureR_of_HC Tryz.func110 rfl rfl fun w => ?_; refine HC_seq fun K1 hK1 => ?_; refine HC_region ?_; refine HL_box (cs := #[_, _, _]) rfl rfl rfl rfl fun r1 => ?_; refine HL_box (cs := #[_, _, _, _, _, _, _]) rfl rfl rfl rfl fun r2 => ?_; refine HL_r rfl rfl rfl rfl (R_assign rfl) ?_; refine HL_nil ?_; refine HQ_then ?_; refine hK1 _ _ _ _ ?_; clear hK1 K1; refine HC_seq fun K2 hK2 => ?_
  refine HC_drawB [] [(1, .pure), (4, .pure), (6, .pure), (7, .pure), (8, .pure)] 9 [0, 1, 2, 4, 5, 6, 3, 7, 8] (by kernel_rfl) (by kernel_rfl) (by first | exact (fun _ h => nomatch h) | simp [SubS] | (intro p hp; simp [hp])) ?_; refine HB_r (k := 0) rfl rfl rfl rfl rfl (R_loadArr (xs := (Ty.mk k n p ins).cells) (n := 3) rfl (known_L (k := 1) rfl) rfl rfl (Ty.mk k n p ins).len) ?_
  refine HB_p (k := 1) rfl rfl rfl rfl rfl (fun _ hS => (R_fieldAddr rfl rfl (by first | (simp only [Nat.zero_add, Nat.reduceAdd, Nat.reduceMul, Nat.zero_mul, Nat.mul_one, Nat.add_zero]; exact rfl) | exact rfl))) ?_; refine HB_r (k := 2) rfl rfl rfl rfl rfl (R_load rfl (known_L (k := 0) rfl) rfl rfl) ?_
  refine HB_p (k := 4) rfl rfl rfl rfl rfl (fun _ hS => (R_fieldAddr rfl rfl (by first | (simp only [Nat.zero_add, Nat.reduceAdd, Nat.reduceMul, Nat.zero_mul, Nat.mul_one, Nat.add_zero]; exact rfl) | exact rfl))) ?_; refine HB_r (k := 5) rfl rfl rfl rfl rfl (R_load rfl (known_L (k := 0) rfl) rfl rfl) ?_; refine HB_p (k := 6) rfl rfl rfl rfl rfl (fun _ hS => (R_lenPl rfl hs rfl)) ?_; refine HB_callR (k := 3) rfl rfl rfl rfl rfl (enters_of Tryz.func109 (by kernel_rfl) rfl) h (fun q hq => Or.inr hq) ?_; refine HB_callP (k := 7) rfl rfl rfl rfl rfl (enters_of Tryz.func107 (by kernel_rfl) rfl) (P_mix (by omega) (by omega)) ?_; refine HB_p (k := 8) rfl rfl rfl rfl rfl (fun _ hS => (R_assign rfl)) ?_; refine HB_end ?_; refine HL_nil ?_; refine HQ_then ?_; refine hK2 _ _ _ _ ?_; clear hK2 K2; refine HC_ret ?_; refine HQ_post rfl rfl (.cons (res_tmp rfl) .nil) (fun w1 hs1 => ?_); exact ⟨rfl, hs1.keep⟩
set_option maxRecDepth 10000 in
theorem S_c5 {l : List BS} (hst : Seg R ins.length (tysC ins) p) (hl : l.length ≤ ins.length) (hn : ins.length ≤ 16) (h32 : ∀ s ∈ l, s.length = 32) (h : PureT (α := RowOf l) Tryz.prog 112 [Ty.val (.mk k n p ins), plV items.length pi].toArray (fun x => rV x) [] (fun x => rL x) R) :
    PureR Tryz.prog 111 [Ty.val (.mk k n p ins), Vl.val (.mk a b c d bits pb items pi pick)].toArray (strV (rootC l ins.length)) R := by
  refine pureR_of_HC Tryz.func111 rfl rfl fun w => ?_; refine HC_seq fun K1 hK1 => ?_; refine HC_region ?_; refine HL_box (cs := #[_, _, _]) rfl rfl rfl rfl fun r1 => ?_; refine HL_box (cs := #[_, _, _, _, _, _, _]) rfl rfl rfl rfl fun r2 => ?_; refine HL_r rfl rfl rfl rfl (R_assign rfl) ?_; refine HL_nil ?_; refine HQ_then ?_; refine hK1 _ _ _ _ ?_; clear hK1 K1; refine HC_seq fun K2 hK2 => ?_
  refine HC_drawB [] [(1, .pure), (3, .grow (geCall (rowP0 l) (fun x => rV x) (fun x => rL x))), (4, .pure), (6, .pure), (8, .pure)] 9 [0, 1, 2, 4, 5, 6, 3, 7, 8] (by kernel_rfl) (by kernel_rfl) (by first | exact (fun _ h => nomatch h) | simp [SubS] | (intro p hp; simp [hp])) ?_; refine HB_r (k := 0) rfl rfl rfl rfl rfl (R_loadArr (xs := (Ty.mk k n p ins).cells) (n := 3) rfl (known_L (k := 1) rfl) rfl rfl (Ty.mk k n p ins).len) ?_
  refine HB_p (k := 1) rfl rfl rfl rfl rfl (fun _ hS => (R_fieldAddr rfl rfl (by first | (simp only [Nat.zero_add, Nat.reduceAdd, Nat.reduceMul, Nat.zero_mul, Nat.mul_one, Nat.add_zero]; exact rfl) | exact rfl))) ?_; refine HB_r (k := 2) rfl rfl rfl rfl rfl (R_load rfl (known_L (k := 0) rfl) rfl rfl) ?_
  refine HB_p (k := 4) rfl rfl rfl rfl rfl (fun _ hS => (R_fieldAddr rfl rfl (by first | (simp only [Nat.zero_add, Nat.reduceAdd, Nat.reduceMul, Nat.zero_mul, Nat.mul_one, Nat.add_zero]; exact rfl) | exact rfl))) ?_; refine HB_r (k := 5) rfl rfl rfl rfl rfl (R_load rfl (known_L (k := 1) rfl) rfl rfl) ?_; refine HB_p (k := 6) rfl rfl rfl rfl rfl (fun _ hS => (R_lenPl rfl hst rfl)) ?_; refine HB_callRE (k := 3) rfl rfl rfl rfl rfl (enters_of Tryz.func112 (by kernel_rfl) rfl) h (fun q hq => .inr hq) fun x => ?_; refine HB_callR (k := 7) rfl rfl rfl rfl rfl (enters_of Tryz.func54 (by kernel_rfl) rfl) (S_mtree hl (by omega) (rowP_seg x.2 (by decide)) h32) (fun q hq => .inl (List.mem_append_left _ hq)) ?_; refine HB_p (k := 8) rfl rfl rfl rfl rfl (fun _ hS => (R_assign rfl)) ?_; refine HB_end ?_; refine HL_nil ?_; refine HQ_then ?_; refine hK2 _ _ _ _ ?_; clear hK2 K2; refine HC_ret ?_; refine HQ_post rfl rfl (.cons (res_tmp rfl) .nil) (fun w1 hs1 => ?_); exact ⟨rfl, hs1.keep⟩
set_option maxRecDepth 10000 in
theorem S_c6 {m : Nat} {y : Ty} {x : Vl} (hst : Seg R ins.length (tysC ins) p) (hs : Seg R items.length (vlsC items) pi) (hm : m ≤ 8) (hy : ins[m]? = some y) (hx : items[0]? = some x) (h32 : s.length = 32) (h : PureR Tryz.prog 60 [y.val, x.val].toArray (strV s) R) :
    PureR Tryz.prog 113 [Ty.val (.mk k n p ins), Vl.val (.mk a b c d bits pb items pi (m : Int))].toArray (strV (mixE s m)) R := by
  have hm1 := (List.getElem?_eq_some_iff.1 hy).1
  have hm2 := (List.getElem?_eq_some_iff.1 hx).1
  refine pureR_of_HC Tryz.func113 rfl rfl fun w => ?_; refine HC_seq fun K1 hK1 => ?_; refine HC_region ?_; refine HL_box (cs := #[_, _, _]) rfl rfl rfl rfl fun r1 => ?_; refine HL_box (cs := #[_, _, _, _, _, _, _]) rfl rfl rfl rfl fun r2 => ?_; refine HL_r rfl rfl rfl rfl (R_assign rfl) ?_; refine HL_nil ?_; refine HQ_then ?_; refine hK1 _ _ _ _ ?_; clear hK1 K1; refine HC_seq fun K2 hK2 => ?_
  refine HC_drawB [] [(0, .pure), (2, .pure), (4, .pure), (6, .pure), (8, .pure), (11, .pure), (13, .pure), (14, .pure)] 15 [0, 1, 2, 3, 4, 5, 6, 7, 8, 9, 11, 12, 10, 13, 14] (by kernel_rfl) (by kernel_rfl) (by first | exact (fun _ h => nomatch h) | simp [SubS] | (intro p hp; simp [hp])) ?_
  refine HB_p (k := 0) rfl rfl rfl rfl rfl (fun _ hS => (R_fieldAddr rfl rfl (by first | (simp only [Nat.zero_add, Nat.reduceAdd, Nat.reduceMul, Nat.zero_mul, Nat.mul_one, Nat.add_zero]; exact rfl) | exact rfl))) ?_; refine HB_r (k := 1) rfl rfl rfl rfl rfl (R_load rfl (known_L (k := 1) rfl) rfl rfl) ?_
  refine HB_p (k := 2) rfl rfl rfl rfl rfl (fun _ hS => (R_fieldAddr rfl rfl (by first | (simp only [Nat.zero_add, Nat.reduceAdd, Nat.reduceMul, Nat.zero_mul, Nat.mul_one, Nat.add_zero]; exact rfl) | exact rfl))) ?_; refine HB_r (k := 3) rfl rfl rfl rfl rfl (R_load rfl (known_L (k := 0) rfl) rfl rfl) ?_; refine HB_p (k := 4) rfl rfl rfl rfl rfl (fun E' hS => R_indexPl (j := m) rfl hst rfl rfl rfl rfl hm1) ?_; refine HB_r (k := 5) rfl rfl rfl rfl rfl (R_loadTy (fun q hq => Or.inr hq) rfl hst hy rfl rfl) ?_
  refine HB_p (k := 6) rfl rfl rfl rfl rfl (fun _ hS => (R_fieldAddr rfl rfl (by first | (simp only [Nat.zero_add, Nat.reduceAdd, Nat.reduceMul, Nat.zero_mul, Nat.mul_one, Nat.add_zero]; exact rfl) | exact rfl))) ?_; refine HB_r (k := 7) rfl rfl rfl rfl rfl (R_load rfl (known_L (k := 0) rfl) rfl rfl) ?_
  refine HB_p (k := 8) rfl rfl rfl rfl rfl (fun E' hS => R_indexPl (j := 0) rfl hs rfl rfl rfl (by first | rfl | omega) hm2) ?_; refine HB_r (k := 9) rfl rfl rfl rfl rfl (R_loadVl (fun q hq => Or.inr hq) rfl hs hx rfl rfl) ?_
  refine HB_p (k := 11) rfl rfl rfl rfl rfl (fun _ hS => (R_fieldAddr rfl rfl (by first | (simp only [Nat.zero_add, Nat.reduceAdd, Nat.reduceMul, Nat.zero_mul, Nat.mul_one, Nat.add_zero]; exact rfl) | exact rfl))) ?_; refine HB_r (k := 12) rfl rfl rfl rfl rfl (R_load rfl (known_L (k := 0) rfl) rfl rfl) ?_; refine HB_callR (k := 10) rfl rfl rfl rfl rfl (enters_of Tryz.func60 (by kernel_rfl) rfl) h (fun q hq => Or.inr hq) ?_; refine HB_callP (k := 13) rfl rfl rfl rfl rfl (enters_of Tryz.func107 (by kernel_rfl) rfl) (P_mix (by omega) (by omega)) ?_; refine HB_p (k := 14) rfl rfl rfl rfl rfl (fun _ hS => (R_assign rfl)) ?_; refine HB_end ?_; refine HL_nil ?_; refine HQ_then ?_; refine hK2 _ _ _ _ ?_; clear hK2 K2; refine HC_ret ?_; refine HQ_post rfl rfl (.cons (res_tmp rfl) .nil) (fun w1 hs1 => ?_); exact ⟨rfl, hs1.keep⟩
set_option maxRecDepth 10000 in
theorem S_rootG {g : FuncId} (hlk : mapGet intEq (.int .i64 k) (rootM.toList.map kvOf) = some (.func (.func g) #[] #[])) (eg : Enters Tryz.prog g) (hg : PureR Tryz.prog g [Ty.val (.mk k n p ins), Vl.val (.mk a b c d bits pb items pi pick)].toArray (strV s) R) :
    PureR Tryz.prog 60 [Ty.val (.mk k n p ins), Vl.val (.mk a b c d bits pb items pi pick)].toArray (strV s) R := by
  refine pureR_of_HC Tryz.func60 rfl rfl fun w => ?_; refine HC_seq fun K1 hK1 => ?_; refine HC_region ?_; refine HL_box (cs := #[_, _, _]) rfl rfl rfl rfl fun r1 => ?_; refine HL_box (cs := #[_, _, _, _, _, _, _]) rfl rfl rfl rfl fun r2 => ?_; refine HL_r rfl rfl rfl rfl (R_assign rfl) ?_; refine HL_nil ?_; refine HQ_then ?_; refine hK1 _ _ _ _ ?_; clear hK1 K1; refine HC_seq fun K2 hK2 => ?_; refine HC_region ?_; refine HL_makeMap rfl rfl fun rm => ?_; refine HL_insert (q := 0) (key := .int .i64 1) (val := .func (.func 103) #[] #[]) (keyI (t := 3) (by kernel_rfl)) rfl rfl rfl rfl rfl rfl ⟨_, rfl⟩ (by intro e he; simp at he) rfl rfl ?_
  refine HL_insert (q := 0) (key := .int .i64 2) (val := .func (.func 103) #[] #[]) (keyI (t := 3) (by kernel_rfl)) rfl rfl rfl rfl rfl rfl ⟨_, rfl⟩ (by intro e he; simp at he; rcases he with rfl <;> exact ⟨_, rfl⟩) rfl rfl ?_
  refine HL_insert (q := 0) (key := .int .i64 3) (val := .func (.func 104) #[] #[]) (keyI (t := 3) (by kernel_rfl)) rfl rfl rfl rfl rfl rfl ⟨_, rfl⟩ (by intro e he; simp at he; rcases he with rfl | rfl <;> exact ⟨_, rfl⟩) rfl rfl ?_
  refine HL_insert (q := 0) (key := .int .i64 4) (val := .func (.func 106) #[] #[]) (keyI (t := 3) (by kernel_rfl)) rfl rfl rfl rfl rfl rfl ⟨_, rfl⟩ (by intro e he; simp at he; rcases he with rfl | rfl | rfl <;> exact ⟨_, rfl⟩) rfl rfl ?_
  refine HL_insert (q := 0) (key := .int .i64 5) (val := .func (.func 108) #[] #[]) (keyI (t := 3) (by kernel_rfl)) rfl rfl rfl rfl rfl rfl ⟨_, rfl⟩ (by intro e he; simp at he; rcases he with rfl | rfl | rfl | rfl <;> exact ⟨_, rfl⟩) rfl rfl ?_
  refine HL_insert (q := 0) (key := .int .i64 6) (val := .func (.func 110) #[] #[]) (keyI (t := 3) (by kernel_rfl)) rfl rfl rfl rfl rfl rfl ⟨_, rfl⟩ (by intro e he; simp at he; rcases he with rfl | rfl | rfl | rfl | rfl <;> exact ⟨_, rfl⟩) rfl rfl ?_
  refine HL_insert (q := 0) (key := .int .i64 7) (val := .func (.func 111) #[] #[]) (keyI (t := 3) (by kernel_rfl)) rfl rfl rfl rfl rfl rfl ⟨_, rfl⟩ (by intro e he; simp at he; rcases he with rfl | rfl | rfl | rfl | rfl | rfl <;> exact ⟨_, rfl⟩) rfl rfl ?_
  refine HL_insert (q := 0) (key := .int .i64 8) (val := .func (.func 113) #[] #[]) (keyI (t := 3) (by kernel_rfl)) rfl rfl rfl rfl rfl rfl ⟨_, rfl⟩ (by intro e he; simp at he; rcases he with rfl | rfl | rfl | rfl | rfl | rfl | rfl <;> exact ⟨_, rfl⟩) rfl rfl ?_; change HL _ _ _ ((rm, .map rootM 8) :: _) _ _ _ _; refine HL_r rfl rfl rfl rfl (R_move rfl) ?_; refine HL_r rfl rfl rfl rfl (R_assign rfl) ?_; refine HL_nil ?_; refine HQ_then ?_; refine hK2 _ _ _ _ ?_; clear hK2 K2; refine HC_seq fun K3 hK3 => ?_; refine HC_region ?_; refine HL_r rfl rfl rfl rfl (R_move rfl) ?_
  refine HL_r rfl rfl rfl rfl (R_fieldAddr rfl rfl (by first | (simp only [Nat.zero_add, Nat.reduceAdd, Nat.reduceMul, Nat.zero_mul, Nat.mul_one, Nat.add_zero]; exact rfl) | exact rfl)) ?_; refine HL_r rfl rfl rfl rfl (R_load rfl (known_L (k := 2) rfl) rfl rfl) ?_; refine HL_r rfl rfl rfl rfl (R_lookup (v := .func (.func g) #[] #[]) (keyI (t := 3) (by kernel_rfl)) rfl rfl (known_L (k := 0) rfl) rfl rfl ⟨_, rfl⟩ rootM_dom (by show (mapGet intEq (.int .i64 k) (rootM.toList.map kvOf)).getD _ = _; rw [hlk]; rfl)) ?_; refine HL_r rfl rfl rfl rfl (R_loadA (vs := [_, _, _]) rfl (known_L (k := 2) rfl) rfl rfl rfl rfl) ?_; refine HL_r rfl rfl rfl rfl (R_loadA (vs := [_, _, _, _, _, _, _]) rfl (known_L (k := 1) rfl) rfl rfl rfl rfl) ?_; refine HL_callR rfl rfl rfl eg hg (fun q hq => Or.inr hq) ?_; refine HL_r rfl rfl rfl rfl (R_assign rfl) ?_; refine HL_nil ?_; refine HQ_then ?_; refine hK3 _ _ _ _ ?_; clear hK3 K3; refine HC_ret ?_; refine HQ_post rfl rfl (.cons (res_tmp rfl) .nil) (fun w1 hs1 => ?_); exact ⟨rfl, hs1.keep⟩
end
theorem rootL_one {l : List Vl} {k pick : Int} {ins : List Ty} (h : l.length = 1) : (rootL l k pick ins 0).headD [] = rootV (itm l 0) (inTy k pick ins 0) := by
  match l, h with
  | [x], _ => rw [rootL]; rfl
theorem rowM_len {a b c d : Nat} {bits : List Bool} {pb : Pl} {items : List Vl} {pi : Pl} {pick k n : Int} {p : Pl} {ins : List Ty} (hcz : chk (.mk k n p ins) 0 = 0) (hfit : fitT (.mk a b c d bits pb items pi pick) (.mk k n p ins) = 0) (hk : k = 3 ∨ k = 4 ∨ k = 7) : (rowM k n ins items (rootL items k 0 ins 0)).length = 32 := by
  obtain ⟨q1, q2, q3⟩ := fit_more hcz hfit
  have hrow := fun (j : Nat) x (h : items[j]? = some x) => fit_row hcz hfit (by omega) h
  have hrs : ∀ s ∈ rootL items k 0 ins 0, s.length = 32 := fun s hs => by
    obtain ⟨j, x, h1, rfl⟩ := rootL_mem hs
    rw [Nat.zero_add]
    obtain ⟨_, r1, r2, r3⟩ := hrow j x h1
    exact rootV_len x _ 0 r2 r3
  have hrl := rootL_len items k 0 ins 0
  unfold rowM
  by_cases h7 : k = 7
  · rw [if_pos h7]
    exact rootC_len (by have := q3 h7; omega) hrs
  · rw [if_neg h7]
    obtain ⟨w1, w2, w3, w4⟩ := q1 (by omega)
    match ins, w4 with
    | [x0], _ =>
    rw [show [x0].getD 0 default = x0 from rfl]
    by_cases hp : plainT x0 = true
    · rw [if_pos hp]
      have hc0 := chk_sub hcz _ List.mem_cons_self
      obtain ⟨f1, f2, f3, f4⟩ := plain_fix hc0 hp
      refine rootC_len ?_ (cutC_32 _); rw [cutC_len]
      unfold cutN
      have hz : ∀ v ∈ items, (putV v x0).length = (sizT x0).toNat := fun v hv => by
        obtain ⟨j, hj⟩ := List.getElem?_of_mem hv
        have hg := (hrow j v hj).2.2.2
        rw [inTy_one h7 (by omega)] at hg
        have := f4 v hg
        omega
      rw [cat_len' hz]
      have hm : items.length * (sizT x0).toNat ≤ n.toNat * (sizT x0).toNat := Nat.mul_le_mul_right _ (by omega)
      omega
    · rw [if_neg hp]
      exact rootC_len (by omega) hrs
set_option maxHeartbeats 1000000 in
set_option maxRecDepth 10000 in
theorem S_root {R : List (Nat × Obj)} {v : Vl} (hv : v.In R) : ∀ (t : Ty) (dp : Nat), t.In R → chk t (dp : Int) = 0 → fitT v t = 0 → wV v ≤ 20000 → PureR Tryz.prog 60 [t.val, v.val].toArray (strV (rootV v t)) R := by
  have hv0 := hv
  induction hv with
  | @mk a b c d bits pb items pi pick ha hb hcc hd hlb hsb hl hs hp hi ih =>
  intro t dp ht hck hfit hw
  obtain ⟨k, n, p, ins⟩ := t
  have ht0 := ht
  cases ht with
  | mk hk hn hlt hst hit =>
  obtain ⟨hk8, ho, h6, hci⟩ := chk_mk hck
  obtain ⟨hf1, hf2, hf3⟩ := fit_split hfit
  obtain ⟨m1, m2, m3, m4⟩ := fit_many hck hfit
  obtain ⟨q1, q2, q3⟩ := fit_more hck hfit
  have hcz := chk_dn hck
  have hrow := fun (h8 : k ≠ 8) (j : Nat) x (h : items[j]? = some x) => fit_row hcz hfit h8 h
  have hwi : ∀ x ∈ items, wV x ≤ 20000 := fun x hx => Nat.le_trans (wV_sub hx) hw
  have hrec : k ≠ 8 → ∀ (i : Nat) x, items[i]? = some x → PureR Tryz.prog 60 [(inTy k 0 ins i).val, x.val].toArray (strV (rootV x (inTy k 0 ins i))) R := fun h8 i x hx => by
    obtain ⟨_, r1, r2, r3⟩ := hrow h8 i x hx
    have hm := List.mem_of_getElem? hx
    exact ih x hm (hi x hm) _ 0 (hit _ r1) r2 r3 (hwi x hm)
  have hlen := rootV_len _ _ dp hck hfit
  rw [rootV_mk] at hlen ⊢
  by_cases h1 : k = 1
  · subst h1
    rw [if_pos (.inl rfl)]; exact S_rootG rfl (enters_of Tryz.func103 (by kernel_rfl) rfl) (P_number _ hv0).toR
  by_cases h2 : k = 2
  · subst h2
    rw [if_pos (.inr rfl)]; exact S_rootG rfl (enters_of Tryz.func103 (by kernel_rfl) rfl) (P_number _ hv0).toR
  rw [if_neg (by omega)] at hlen ⊢
  have hone : k ≠ 7 → k ≠ 8 → ∀ x0, ins = [x0] → ∀ N : Nat, n = (N : Int) → N ≤ 512 → items.length ≤ N → PureR Tryz.prog 105 [Ty.val (.mk k n p ins), plV items.length pi].toArray (strV (rowM k n ins items (rootL items k 0 ins 0))) R := fun h7 h8 x0 e N en hN hle => by
    subst e; subst en; refine S_mrow ht0 h7 h8 (chk_sub hcz _ List.mem_cons_self) hs hle hN (fun v hv => ?_) hwi hi fun i x hx => ?_
    · obtain ⟨j, hj⟩ := List.getElem?_of_mem hv
      have := (hrow h8 j v hj).2.2.2
      rwa [inTy_one h7 h8] at this
    · have := hrec h8 i x hx
      rwa [inTy_one h7 h8] at this
  by_cases h4 : k = 4
  · subst h4
    obtain ⟨w1, w2, w3, w4⟩ := q1 (.inr rfl)
    rw [if_pos rfl, rootL_n8 (by decide)] at hlen ⊢
    have hrl : (rowM 4 n ins items (rootL items 4 0 ins 0)).length = 32 := rowM_len hcz hfit (.inr (.inl rfl))
    obtain ⟨x0, hx0⟩ := List.length_eq_one_iff.1 w4
    exact S_rootG rfl (enters_of Tryz.func106 (by kernel_rfl) rfl) (S_c2 hs hrl m1 (hone (by decide) (by decide) x0 hx0 n.toNat (by omega) (by omega) (by omega)))
  rw [if_neg h4] at hlen ⊢
  by_cases h5 : k = 5
  · subst h5
    obtain ⟨w1, w2, w3⟩ := q2 (.inl rfl)
    rw [if_pos rfl] at hlen ⊢; refine S_rootG rfl (enters_of Tryz.func108 (by kernel_rfl) rfl) (S_c3 ?_)
    have := S_mbits (k := 5) (p := p) (ins := ins) (l := bits) (n := n.toNat) (by omega) (by omega) hsb
    rwa [show ((n.toNat : Nat) : Int) = n by omega] at this
  rw [if_neg h5] at hlen ⊢
  by_cases h6 : k = 6
  · subst h6
    obtain ⟨w1, w2, w3⟩ := q2 (.inr rfl)
    rw [if_pos rfl] at hlen ⊢; refine S_rootG rfl (enters_of Tryz.func110 (by kernel_rfl) rfl) (S_c4 hsb (rootC_len (need_bits w3) (cutC_32 _)) m2 ?_)
    have := S_mbits (k := 6) (p := p) (ins := ins) (l := bits) (n := n.toNat) (by omega) (by omega) hsb
    rwa [show ((n.toNat : Nat) : Int) = n by omega] at this
  rw [if_neg h6] at hlen ⊢
  by_cases h8 : k = 8
  · subst h8
    obtain ⟨w1, w2, w3, w4⟩ := m4 rfl
    obtain ⟨m, rfl⟩ : ∃ m : Nat, pick = (m : Int) := ⟨pick.toNat, by omega⟩
    have hx8 := itm_get (l := items) (i := 0) (by omega)
    have hg := fitL_get (j := 0) hf3 hx8.1
    have hin := inX_lt (v := .mk a b c d bits pb items pi (m : Int)) (i := 0) hcz hf2 (show 0 < items.length by omega)
    have hty := inTy_get hin
    have hX := ih _ hx8.2 (hi _ hx8.2) _ 0 (hit _ hty.2) (chk_sub hcz _ hty.2) hg (hwi _ hx8.2)
    have hXl := rootV_len _ _ 0 (chk_sub hcz _ hty.2) hg
    rw [if_pos rfl, rootL_one w1, Int.toNat_natCast]; exact S_rootG rfl (enters_of Tryz.func113 (by kernel_rfl) rfl) (S_c6 hst hs (by omega) (show ins[m]? = some _ from hty.1) hx8.1 hXl hX)
  rw [if_neg h8, rootL_n8 h8] at hlen ⊢
  by_cases h3 : k = 3
  · subst h3
    obtain ⟨w1, w2, w3, w4⟩ := q1 (.inl rfl)
    obtain ⟨x0, hx0⟩ := List.length_eq_one_iff.1 w4
    exact S_rootG rfl (enters_of Tryz.func104 (by kernel_rfl) rfl) (S_c1 (hone (by decide) (by decide) x0 hx0 n.toNat (by omega) (by omega) (by omega)))
  have h7 : k = 7 := by omega
  subst h7
  obtain ⟨w1, w2, w3⟩ := q3 rfl
  have hM : rowM 7 n ins items (rootL items 7 0 ins 0) = rootC (rootL items 7 0 ins 0) ins.length := by unfold rowM; rw [if_pos rfl]
  rw [hM]
  have hrl := rootL_len items 7 0 ins 0
  refine S_rootG rfl (enters_of Tryz.func111 (by kernel_rfl) rfl) (S_c5 hst (by omega) w3 (fun s hs => ?_) (T_mrootsP ht0 (by decide) hs (by omega) (fun i hi => ?_) (hrec (by decide))))
  · obtain ⟨j, x, h1, rfl⟩ := rootL_mem hs
    rw [Nat.zero_add]
    obtain ⟨_, r1, r2, r3⟩ := hrow (by decide) j x h1
    exact rootV_len x _ 0 r2 r3
  · show i < ins.length
    omega
def rootR (t : Ty) (v : Vl) : BS × Int := if fitsT t v ≠ 0 then ([], fitsT t v) else (rootV v t, 0)
set_option maxRecDepth 10000 in
theorem S_mRoot {R : List (Nat × Obj)} {t : Ty} {v : Vl} (ht : t.In R) (hv : v.In R) (hw : wV v ≤ 20000) : PureR Tryz.prog 32 [t.val, v.val].toArray (resS (rootR t v)) R := by
  have h1 := S_Fits ht hv
  have h2 := fun h => S_root hv t 0 ht (fits_split (t := t) (v := v) h).1 (fits_split h).2 hw
  unfold rootR
  generalize fitsT t v = e at h1 h2 ⊢
  generalize rootV v t = s at h2 ⊢
  obtain ⟨k, n, p, ins⟩ := t
  obtain ⟨a, b, c, d, bits, pb, items, pi, pick⟩ := v
  refine pureR_of_HC Tryz.func32 rfl rfl fun w => ?_; refine HC_seq fun K1 hK1 => ?_; refine HC_region ?_; refine HL_box (cs := #[_, _, _]) rfl rfl rfl rfl fun r1 => ?_; refine HL_box (cs := #[_, _, _, _, _, _, _]) rfl rfl rfl rfl fun r2 => ?_; refine HL_r rfl rfl rfl rfl (R_assign rfl) ?_; refine HL_r rfl rfl rfl rfl (R_assign rfl) ?_; refine HL_nil ?_; refine HQ_then ?_; refine hK1 _ _ _ _ ?_; clear hK1 K1; refine HC_seq fun K2 hK2 => ?_; refine HC_seq fun K3 hK3 => ?_; refine HC_region ?_; refine HL_r rfl rfl rfl rfl (R_loadA (vs := [_, _, _]) rfl (known_L (k := 1) rfl) rfl rfl rfl rfl) ?_; refine HL_r rfl rfl rfl rfl (R_loadA (vs := [_, _, _, _, _, _, _]) rfl (known_L (k := 0) rfl) rfl rfl rfl rfl) ?_; refine HL_callR rfl rfl rfl (enters_of Tryz.func22 (by kernel_rfl) rfl) h1 (fun q hq => Or.inr hq) ?_; refine HL_r rfl rfl rfl rfl (R_assign rfl) ?_; refine HL_nil ?_; refine HQ_then ?_; refine hK3 _ _ _ _ ?_; clear hK3 K3; refine HC_seq fun K4 hK4 => ?_; refine HC_region ?_; refine HL_r rfl rfl rfl rfl (R_move rfl) ?_; refine HL_r rfl rfl rfl rfl (R_pure rfl rfl rfl) ?_; refine HL_nil ?_; refine HQ_then ?_; refine hK4 _ _ _ _ ?_; clear hK4 K4; refine HC_cond rfl (fun h5 => ?_) (fun h5 => ?_)
  · try exact Bool.noConfusion h5
    try simp only [Z1, Z2, Z3, Z4, Z5, Z6, Z7, Z8, Z9, Z10, Z11, Z12, Z13] at h5
    refine HC_seq fun K6 hK6 => ?_; refine HC_region ?_; refine HL_r rfl rfl rfl rfl (R_move rfl) ?_; refine HL_r rfl rfl rfl rfl (R_assign rfl) ?_; refine HL_r rfl rfl rfl rfl (R_assign rfl) ?_; refine HL_nil ?_; refine HQ_then ?_; refine hK6 _ _ _ _ ?_; clear hK6 K6; refine HC_ret ?_; refine HQ_thenR ?_; clear hK2 K2; refine HQ_post rfl rfl (.cons (res_tmp rfl) (.cons (res_tmp rfl) .nil)) (fun w1 hs1 => ?_); refine ⟨?_, hs1.keep⟩; rw [if_pos (by omega)]; rfl
  · try exact Bool.noConfusion h5
    try simp only [Z1, Z2, Z3, Z4, Z5, Z6, Z7, Z8, Z9, Z10, Z11, Z12, Z13] at h5
    refine HC_skip ?_; refine HQ_then ?_; refine hK2 _ _ _ _ ?_; clear hK2 K2; refine HC_seq fun K7 hK7 => ?_; refine HC_region ?_; refine HL_r rfl rfl rfl rfl (R_loadA (vs := [_, _, _]) rfl (known_L (k := 1) rfl) rfl rfl rfl rfl) ?_; refine HL_r rfl rfl rfl rfl (R_loadA (vs := [_, _, _, _, _, _, _]) rfl (known_L (k := 0) rfl) rfl rfl rfl rfl) ?_; refine HL_callR rfl rfl rfl (enters_of Tryz.func60 (by kernel_rfl) rfl) (h2 (by omega)) (fun q hq => Or.inr hq) ?_; refine HL_r rfl rfl rfl rfl (R_assign rfl) ?_; refine HL_r rfl rfl rfl rfl (R_assign rfl) ?_; refine HL_nil ?_; refine HQ_then ?_; refine hK7 _ _ _ _ ?_; clear hK7 K7; refine HC_ret ?_; refine HQ_post rfl rfl (.cons (res_tmp rfl) (.cons (res_tmp rfl) .nil)) (fun w1 hs1 => ?_); refine ⟨?_, hs1.keep⟩; rw [if_neg (by omega)]; rfl
end Go.Proofs.YtlcbfphioeppaaaGreatDoor
namespace Go.Proofs.YtlcbfphioeppaaaGreatDoor
set_option linter.all false
open Go.SL Go.RowKit Go.Shelf
end Go.Proofs.YtlcbfphioeppaaaGreatDoor
namespace Go.Proofs.YtlcbfphioeppaaaGreatDoor
set_option linter.all false
open Go.SL Go.RowKit Go.Shelf
end Go.Proofs.YtlcbfphioeppaaaGreatDoor
