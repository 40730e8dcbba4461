import Derived.Test.YtdadaddakcidjaaDoorGk
namespace Go.Proofs.YtdadaddakcidjaaDoor
set_option linter.all false
open Go.SL Go.RowKit Go.Shelf
set_option maxRecDepth 10000 in
theorem S_Fits {R : List (Nat × Obj)} {t : Ty} {v : Vl} (ht : t.In R) (hv : v.In R) : PureR Tryd.prog 19 [t.val, v.val].toArray (.int .i64 (fitsT t v)) R := by
  have h1 := S_Check ht
  have h2 := S_fits hv t 0 ht
  obtain ⟨k, n, p, ins⟩ := t
  obtain ⟨a, b, c, d, bits, pb, items, pi, pick⟩ := v
  refine pureR_of_HC Tryd.func19 rfl rfl fun w => ?_
  refine HC_seq fun K1 hK1 => ?_
  refine HC_region ?_
  all_goals refine HL_box (cs := #[_, _, _]) rfl rfl rfl rfl fun r1 => ?_
  all_goals refine HL_box (cs := #[_, _, _, _, _, _, _]) rfl rfl rfl rfl fun r2 => ?_
  all_goals refine HL_r rfl rfl rfl rfl (R_assign rfl) ?_
  all_goals refine HL_nil ?_
  all_goals (
    refine HQ_then ?_
    refine hK1 _ _ _ _ ?_; clear hK1 K1
    refine HC_seq fun K2 hK2 => ?_
    refine HC_seq fun K3 hK3 => ?_
    refine HC_region ?_
    all_goals (refine HL_r rfl rfl rfl rfl (R_loadA (vs := [_, _, _]) rfl (known_L (k := 1) rfl) rfl rfl rfl rfl) ?_)
    all_goals refine HL_callR rfl rfl rfl (enters_of Tryd.func14 (by kernel_rfl) rfl) h1 (fun q hq => Or.inr hq) ?_
    all_goals refine HL_r rfl rfl rfl rfl (R_assign rfl) ?_
    all_goals refine HL_nil ?_
    all_goals (
      refine HQ_then ?_
      refine hK3 _ _ _ _ ?_; clear hK3 K3
      refine HC_seq fun K4 hK4 => ?_
      refine HC_region ?_
      all_goals refine HL_r rfl rfl rfl rfl (R_move rfl) ?_
      all_goals refine HL_r rfl rfl rfl rfl (R_pure rfl rfl rfl) ?_
      all_goals refine HL_nil ?_
      all_goals (
        refine HQ_then ?_
        refine hK4 _ _ _ _ ?_; clear hK4 K4
        refine HC_cond rfl (fun h5 => ?_) (fun h5 => ?_)
        · try exact Bool.noConfusion h5
          all_goals try simp only [decide_eq_true_eq, decide_eq_false_iff_not, beq_iff_eq, beq_eq_false_iff_ne, bne_iff_ne, bne_eq_false_iff_eq, Bool.not_eq_true', Bool.not_eq_false', ne_eq, Int.not_lt, Int.not_le, ge_iff_le, gt_iff_lt] at h5
          all_goals (
            refine HC_seq fun K6 hK6 => ?_
            refine HC_region ?_
            all_goals refine HL_r rfl rfl rfl rfl (R_move rfl) ?_
            all_goals refine HL_r rfl rfl rfl rfl (R_assign rfl) ?_
            all_goals refine HL_nil ?_
            all_goals (
              refine HQ_then ?_
              refine hK6 _ _ _ _ ?_; clear hK6 K6
              refine HC_ret ?_
              refine HQ_thenR ?_; clear hK2 K2
              refine HQ_post rfl rfl (.cons (res_tmp rfl) .nil) (fun w1 hs1 => ?_)
              refine ⟨?_, hs1.keep⟩
              first
                | (rw [fitsT, if_neg (by assumption)]; rfl)
                | (rw [fitsT, if_pos (by assumption)]; rfl)
              skip)
            skip)
        · try exact Bool.noConfusion h5
          all_goals try simp only [decide_eq_true_eq, decide_eq_false_iff_not, beq_iff_eq, beq_eq_false_iff_ne, bne_iff_ne, bne_eq_false_iff_eq, Bool.not_eq_true', Bool.not_eq_false', ne_eq, Int.not_lt, Int.not_le, ge_iff_le, gt_iff_lt] at h5
          all_goals (
            refine HC_skip ?_
            refine HQ_then ?_
            refine hK2 _ _ _ _ ?_; clear hK2 K2
            refine HC_seq fun K7 hK7 => ?_
            refine HC_region ?_
            all_goals (refine HL_r rfl rfl rfl rfl (R_loadA (vs := [_, _, _]) rfl (known_L (k := 1) rfl) rfl rfl rfl rfl) ?_)
            all_goals (refine HL_r rfl rfl rfl rfl (R_loadA (vs := [_, _, _, _, _, _, _]) rfl (known_L (k := 0) rfl) rfl rfl rfl rfl) ?_)
            all_goals refine HL_callR rfl rfl rfl (enters_of Tryd.func32 (by kernel_rfl) rfl) (h2 (by assumption)) (fun q hq => Or.inr hq) ?_
            all_goals refine HL_r rfl rfl rfl rfl (R_assign rfl) ?_
            all_goals refine HL_nil ?_
            all_goals (
              refine HQ_then ?_
              refine hK7 _ _ _ _ ?_; clear hK7 K7
              refine HC_ret ?_
              refine HQ_post rfl rfl (.cons (res_tmp rfl) .nil) (fun w1 hs1 => ?_)
              refine ⟨?_, hs1.keep⟩
              first
                | (rw [fitsT, if_neg (by assumption)]; rfl)
                | (rw [fitsT, if_pos (by assumption)]; rfl)
              skip)
            skip)
        skip)
      skip)
    skip)
def fewB (t : Ty) (v : Vl) : Bool := decide (typN t 60 9 ≤ 60) && decide (valN v 150 9 ≤ 150)
set_option maxRecDepth 10000 in
theorem S_Few {R : List (Nat × Obj)} {t : Ty} {v : Vl} (ht : t.In R) (hv : v.In R) : PureR Tryd.prog 9 [t.val, v.val].toArray (.bool (fewB t v)) R := by
  have h1 := S_ref_Types ht 60 9 (by omega) (by omega) (by omega) (by omega)
  have h2 := S_ref_Vals hv 150 9 (by omega) (by omega) (by omega) (by omega)
  obtain ⟨k, n, p, ins⟩ := t
  obtain ⟨a, b, c, d, bits, pb, items, pi, pick⟩ := v
  refine pureR_of_HC Tryd.func9 rfl rfl fun w => ?_
  refine HC_seq fun K1 hK1 => ?_
  refine HC_region ?_
  all_goals refine HL_box (cs := #[_, _, _]) rfl rfl rfl rfl fun r1 => ?_
  all_goals refine HL_box (cs := #[_, _, _, _, _, _, _]) rfl rfl rfl rfl fun r2 => ?_
  all_goals refine HL_r rfl rfl rfl rfl (R_assign rfl) ?_
  all_goals refine HL_nil ?_
  all_goals (
    refine HQ_then ?_
    refine hK1 _ _ _ _ ?_; clear hK1 K1
    refine HC_seq fun K2 hK2 => ?_
    refine HC_region ?_
    all_goals (refine HL_r rfl rfl rfl rfl (R_loadA (vs := [_, _, _]) rfl (known_L (k := 1) rfl) rfl rfl rfl rfl) ?_)
    all_goals refine HL_callR rfl rfl rfl (enters_of Tryd.func20 (by kernel_rfl) rfl) h1 (fun q hq => Or.inr hq) ?_
    all_goals refine HL_r rfl rfl rfl rfl (R_pure rfl rfl rfl) ?_
    all_goals refine HL_r rfl rfl rfl rfl (R_move rfl) ?_
    all_goals (refine HL_case 8 rfl (fun hb3 => ?_) (fun hb3 => ?_) <;> (try simp only [decide_eq_true_eq, decide_eq_false_iff_not, beq_iff_eq, beq_eq_false_iff_ne, bne_iff_ne, bne_eq_false_iff_eq, Bool.not_eq_true', Bool.not_eq_false', ne_eq, Int.not_lt, Int.not_le, ge_iff_le, gt_iff_lt] at hb3) <;> first | (refine HL_r rfl rfl rfl rfl (R_loadA (vs := [_, _, _, _, _, _, _]) rfl (known_L (k := 0) rfl) rfl rfl rfl rfl) ?_) | (refine HL_r rfl rfl rfl rfl (R_loadA (vs := [_, _, _, _, _, _, _]) rfl (known_L (k := 1) rfl) rfl rfl rfl rfl) ?_) | (refine HL_skip rfl rfl rfl ?_))
    all_goals first
      | (refine HL_callR rfl rfl rfl (enters_of Tryd.func21 (by kernel_rfl) rfl) h2 (fun q hq => Or.inr hq) ?_)
      | (refine HL_skip rfl rfl rfl ?_)
    all_goals first
      | (refine HL_r rfl rfl rfl rfl (R_pure rfl rfl rfl) ?_)
      | (refine HL_skip rfl rfl rfl ?_)
    all_goals first
      | (refine HL_r rfl rfl rfl rfl (R_pickT rfl rfl) ?_)
      | (refine HL_r rfl rfl rfl rfl (R_pickF rfl rfl) ?_)
    all_goals refine HL_r rfl rfl rfl rfl (R_assign rfl) ?_
    all_goals refine HL_nil ?_
    all_goals (
      refine HQ_then ?_
      refine hK2 _ _ _ _ ?_; clear hK2 K2
      refine HC_ret ?_
      refine HQ_post rfl rfl (.cons (res_tmp rfl) .nil) (fun w1 hs1 => ?_)
      refine ⟨?_, hs1.keep⟩
      simp_all [resVal, fewB]
      all_goals first | done | (intros; omega)
      skip)
    skip)
/-! what 'works' looks at -/
def wR (r2 r4 r7 r9 r11 r12 : Nat) : List (Nat × Obj) := [(r12, .cells #[.int .u64 0, .int .u64 0, .int .u64 0, .int .u64 0, .slice none 0 0, .slice (some ⟨r11, 0, none⟩) 1 1, .int .i64 0] 31 (0, 0)), (r11, .cells #[.int .u64 258, .int .u64 0, .int .u64 0, .int .u64 0, .slice none 0 0, .slice none 0 0, .int .i64 0] 31 (0, 0)), (r9, .cells #[.int .i64 1, .int .i64 2, .slice none 0 0, .int .i64 4, .int .i64 2, .slice (some ⟨r4, 0, none⟩) 1 1] 24 (0, 0)), (r7, .cells #[.int .u64 258, .int .u64 0, .int .u64 0, .int .u64 0, .slice none 0 0, .slice none 0 0, .int .i64 0, .int .u64 258, .int .u64 0, .int .u64 0, .int .u64 0, .slice none 0 0, .slice none 0 0, .int .i64 0, .int .u64 258, .int .u64 0, .int .u64 0, .int .u64 0, .slice none 0 0, .slice none 0 0, .int .i64 0] 31 (0, 0)), (r4, .cells #[.int .i64 1, .int .i64 2, .slice none 0 0] 24 (0, 0)), (r2, .cells #[.int .i64 1, .int .i64 2, .slice none 0 0] 24 (0, 0))]
def tTwo : Ty := .mk 1 2 none []
def tVec (r2 : Nat) : Ty := .mk 3 3 (some (⟨r2, 0, none⟩, 1)) [tTwo]
def tLst (r4 : Nat) : Ty := .mk 4 2 (some (⟨r4, 0, none⟩, 1)) [tTwo]
def tUni (r4 r9 : Nat) : Ty := .mk 8 0 (some (⟨r9, 0, none⟩, 2)) [tTwo, tLst r4]
def vNum (n : Nat) : Vl := .mk n 0 0 0 [] none [] none 0
def vThree (r7 : Nat) : Vl := .mk 0 0 0 0 [] none [vNum 258, vNum 258, vNum 258] (some (⟨r7, 0, none⟩, 3)) 0
def vInn (r11 : Nat) : Vl := .mk 0 0 0 0 [] none [vNum 258] (some (⟨r11, 0, none⟩, 1)) 0
def vPick (r11 r12 : Nat) : Vl := .mk 0 0 0 0 [] none [vInn r11] (some (⟨r12, 0, none⟩, 1)) 1
theorem kn6 {α : Type} {q a b c d e f : α} {L : List α} (ha : a ∈ L) (hb : b ∈ L) (hc : c ∈ L) (hd : d ∈ L) (he : e ∈ L) (hf : f ∈ L) (hq : q ∈ [a, b, c, d, e, f]) : q ∈ L := by
  simp only [List.mem_cons, List.not_mem_nil, or_false] at hq
  rcases hq with rfl | rfl | rfl | rfl | rfl | rfl <;> assumption
section
variable {R : List (Nat × Obj)}
theorem iz (z : Int) (h : -9223372036854775808 ≤ z ∧ z ≤ 9223372036854775807 := by decide) : I64 z := h
theorem uz (z : Nat) (h : z < 18446744073709551616 := by decide) : U64 z := h
theorem in_two : tTwo.In R := .mk (iz 1) (iz 2) (by simp) rfl (by simp)
theorem in_num (n : Nat) (h : n < 18446744073709551616) : (vNum n).In R := .mk h (uz 0) (uz 0) (uz 0) (by simp) rfl (by simp) rfl (iz 0) (by simp)
theorem in_vec {r2 r4 r7 r9 r11 r12 : Nat} : (tVec r2).In (wR r2 r4 r7 r9 r11 r12) := .mk (iz 3) (iz 3) (by simp) ⟨by simp, fun _ => ⟨rfl, _, _, _, mem_nth (n := 5) rfl, rfl⟩⟩ (by simp [in_two])
theorem in_lst {r2 r4 r7 r9 r11 r12 : Nat} : (tLst r4).In (wR r2 r4 r7 r9 r11 r12) := .mk (iz 4) (iz 2) (by simp) ⟨by simp, fun _ => ⟨rfl, _, _, _, mem_nth (n := 4) rfl, rfl⟩⟩ (by simp [in_two])
theorem in_uni {r2 r4 r7 r9 r11 r12 : Nat} : (tUni r4 r9).In (wR r2 r4 r7 r9 r11 r12) := .mk (iz 8) (iz 0) (by simp) ⟨by simp, fun _ => ⟨rfl, _, _, _, mem_nth (n := 2) rfl, rfl⟩⟩ (by simp [in_two, in_lst])
theorem in_three {r2 r4 r7 r9 r11 r12 : Nat} : (vThree r7).In (wR r2 r4 r7 r9 r11 r12) := .mk (uz 0) (uz 0) (uz 0) (uz 0) (by simp) rfl (by simp) ⟨by simp, fun _ => ⟨rfl, _, _, _, mem_nth (n := 3) rfl, rfl⟩⟩ (iz 0) (by simp [in_num])
theorem in_inn {r2 r4 r7 r9 r11 r12 : Nat} : (vInn r11).In (wR r2 r4 r7 r9 r11 r12) := .mk (uz 0) (uz 0) (uz 0) (uz 0) (by simp) rfl (by simp) ⟨by simp, fun _ => ⟨rfl, _, _, _, mem_nth (n := 1) rfl, rfl⟩⟩ (iz 0) (by simp [in_num])
theorem in_pick {r2 r4 r7 r9 r11 r12 : Nat} : (vPick r11 r12).In (wR r2 r4 r7 r9 r11 r12) := .mk (uz 0) (uz 0) (uz 0) (uz 0) (by simp) rfl (by simp) ⟨by simp, fun _ => ⟨rfl, _, _, _, mem_nth (n := 0) rfl, rfl⟩⟩ (iz 1) (by simp [in_inn])
theorem in_ty0 {k n : Int} (hk : I64 k) (hn : I64 n) : (Ty.mk k n none []).In R := .mk hk hn (by simp) rfl (by simp)
end
theorem f_1 (r2 : Nat) : chk (tVec r2) 0 = 0 := by kernel_rfl
theorem f_2 (r2 : Nat) : isFix (tVec r2) = true := by kernel_rfl
theorem f_3 (r2 : Nat) : sizeT (tVec r2) = 6 := by kernel_rfl
theorem f_4 (r4 : Nat) : isFix (tLst r4) = false := by kernel_rfl
theorem f_5 (r4 : Nat) : sizeT (tLst r4) = 0 := by kernel_rfl
theorem f_6 (r2 r7 : Nat) : fitsT (tVec r2) (vThree r7) = 0 := by kernel_rfl
theorem f_7 (r4 r7 : Nat) : fitsT (tLst r4) (vThree r7) = 5 := by kernel_rfl
theorem f_8 : fitsT tTwo (vNum 65536) = 2 := by kernel_rfl
theorem f_9 (r4 r9 r11 r12 : Nat) : fitsT (tUni r4 r9) (vPick r11 r12) = 0 := by kernel_rfl
theorem f_10 : chk (.mk 0 0 none []) 0 = 9 := by kernel_rfl
theorem f_11 : chk (.mk 1 3 none []) 0 = 2 := by kernel_rfl
theorem f_12 (r7 : Nat) : sameV (vThree r7) (vThree r7) = true := sameV_refl _
theorem f_13 (r7 r11 r12 : Nat) : sameV (vThree r7) (vPick r11 r12) = false := by kernel_rfl
set_option maxRecDepth 10000 in
theorem S_works : Pure Tryd.prog 8 [].toArray (.bool true) := by
  refine pure_of_HC Tryd.func8 rfl rfl fun w => ?_
  refine HC_seq fun K1 hK1 => ?_
  refine HC_region ?_
  all_goals refine HL_r rfl rfl rfl rfl (R_assign rfl) ?_
  all_goals refine HL_nil ?_
  all_goals (
    refine HQ_then ?_
    refine hK1 _ _ _ _ ?_; clear hK1 K1
    refine HC_seq fun K2 hK2 => ?_
    refine HC_region ?_
    all_goals refine HL_r rfl rfl rfl rfl (R_build (r := [_, _, _]) rfl rfl) ?_
    all_goals refine HL_alloc (cs := #[_, _, _]) rfl rfl rfl rfl fun r1 => ?_
    all_goals (refine HL_storeA (k := 0) (n := 3) (cs' := #[_, _, _]) (vs := #[_, _, _]) rfl rfl rfl rfl rfl rfl rfl (by exact Nat.le_of_ble_eq_true rfl) rfl (by first | (simp only [List.set_cons_zero, List.set_cons_succ]; exact rfl) | exact rfl) ?_)
    all_goals refine HL_nil ?_
    all_goals (
      refine HQ_then ?_
      refine hK2 _ _ _ _ ?_; clear hK2 K2
      refine HC_seq fun K3 hK3 => ?_
      refine HC_region ?_
      all_goals (refine HL_r rfl rfl rfl rfl (R_loadA (vs := [_, _, _]) rfl (known_L (k := 0) rfl) rfl rfl rfl rfl) ?_)
      all_goals refine HL_buildSlice (vs := [_]) (zs := [_, _, _]) (r := [_, _, _]) rfl rfl rfl rfl rfl rfl rfl rfl rfl (by rw [made_list]; exact rfl) rfl fun r2 => ?_
      all_goals refine HL_r rfl rfl rfl rfl (R_build (r := [_, _, _]) rfl rfl) ?_
      all_goals refine HL_alloc (cs := #[_, _, _]) rfl rfl rfl rfl fun r3 => ?_
      all_goals (refine HL_storeA (k := 0) (n := 3) (cs' := #[_, _, _]) (vs := #[_, _, _]) rfl rfl rfl rfl rfl rfl rfl (by exact Nat.le_of_ble_eq_true rfl) rfl (by first | (simp only [List.set_cons_zero, List.set_cons_succ]; exact rfl) | exact rfl) ?_)
      all_goals refine HL_nil ?_
      all_goals (
        refine HQ_then ?_
        refine hK3 _ _ _ _ ?_; clear hK3 K3
        refine HC_seq fun K4 hK4 => ?_
        refine HC_region ?_
        all_goals (refine HL_r rfl rfl rfl rfl (R_loadA (vs := [_, _, _]) rfl (known_L (k := 2) rfl) rfl rfl rfl rfl) ?_)
        all_goals refine HL_buildSlice (vs := [_]) (zs := [_, _, _]) (r := [_, _, _]) rfl rfl rfl rfl rfl rfl rfl rfl rfl (by rw [made_list]; exact rfl) rfl fun r4 => ?_
        all_goals refine HL_r rfl rfl rfl rfl (R_build (r := [_, _, _]) rfl rfl) ?_
        all_goals refine HL_alloc (cs := #[_, _, _]) rfl rfl rfl rfl fun r5 => ?_
        all_goals (refine HL_storeA (k := 0) (n := 3) (cs' := #[_, _, _]) (vs := #[_, _, _]) rfl rfl rfl rfl rfl rfl rfl (by exact Nat.le_of_ble_eq_true rfl) rfl (by first | (simp only [List.set_cons_zero, List.set_cons_succ]; exact rfl) | exact rfl) ?_)
        all_goals refine HL_nil ?_
        all_goals (
          refine HQ_then ?_
          refine hK4 _ _ _ _ ?_; clear hK4 K4
          refine HC_seq fun K5 hK5 => ?_
          refine HC_region ?_
          all_goals refine HL_r rfl rfl rfl rfl (R_build (r := [_, _, _, _]) rfl rfl) ?_
          all_goals refine HL_r rfl rfl rfl rfl (R_build (r := [_, _, _, _, _, _, _]) rfl rfl) ?_
          all_goals refine HL_alloc (cs := #[_, _, _, _, _, _, _]) rfl rfl rfl rfl fun r6 => ?_
          all_goals (refine HL_storeA (k := 0) (n := 7) (cs' := #[_, _, _, _, _, _, _]) (vs := #[_, _, _, _, _, _, _]) rfl rfl rfl rfl rfl rfl rfl (by exact Nat.le_of_ble_eq_true rfl) rfl (by first | (simp only [List.set_cons_zero, List.set_cons_succ]; exact rfl) | exact rfl) ?_)
          all_goals refine HL_nil ?_
          all_goals (
            refine HQ_then ?_
            refine hK5 _ _ _ _ ?_; clear hK5 K5
            refine HC_seq fun K6 hK6 => ?_
            refine HC_region ?_
            all_goals (refine HL_r rfl rfl rfl rfl (R_loadA (vs := [_, _, _, _, _, _, _]) rfl (known_L (k := 0) rfl) rfl rfl rfl rfl) ?_)
            all_goals (refine HL_r rfl rfl rfl rfl (R_loadA (vs := [_, _, _, _, _, _, _]) rfl (known_L (k := 0) rfl) rfl rfl rfl rfl) ?_)
            all_goals (refine HL_r rfl rfl rfl rfl (R_loadA (vs := [_, _, _, _, _, _, _]) rfl (known_L (k := 0) rfl) rfl rfl rfl rfl) ?_)
            all_goals refine HL_buildSlice (vs := [_, _, _]) (zs := [_, _, _, _, _, _, _, _, _, _, _, _, _, _, _, _, _, _, _, _, _]) (r := [_, _, _, _, _, _, _, _, _, _, _, _, _, _, _, _, _, _, _, _, _]) rfl rfl rfl rfl rfl rfl rfl rfl rfl (by rw [made_list]; exact rfl) rfl fun r7 => ?_
            all_goals refine HL_r rfl rfl rfl rfl (R_build (r := [_, _, _, _, _, _, _]) rfl rfl) ?_
            all_goals refine HL_alloc (cs := #[_, _, _, _, _, _, _]) rfl rfl rfl rfl fun r8 => ?_
            all_goals (refine HL_storeA (k := 0) (n := 7) (cs' := #[_, _, _, _, _, _, _]) (vs := #[_, _, _, _, _, _, _]) rfl rfl rfl rfl rfl rfl rfl (by exact Nat.le_of_ble_eq_true rfl) rfl (by first | (simp only [List.set_cons_zero, List.set_cons_succ]; exact rfl) | exact rfl) ?_)
            all_goals refine HL_nil ?_
            all_goals (
              refine HQ_then ?_
              refine hK6 _ _ _ _ ?_; clear hK6 K6
              refine HC_seq fun K7 hK7 => ?_
              refine HC_region ?_
              all_goals (refine HL_r rfl rfl rfl rfl (R_loadA (vs := [_, _, _]) rfl (known_L (k := 7) rfl) rfl rfl rfl rfl) ?_)
              all_goals (refine HL_r rfl rfl rfl rfl (R_loadA (vs := [_, _, _]) rfl (known_L (k := 3) rfl) rfl rfl rfl rfl) ?_)
              all_goals refine HL_buildSlice (vs := [_, _]) (zs := [_, _, _, _, _, _]) (r := [_, _, _, _, _, _]) rfl rfl rfl rfl rfl rfl rfl rfl rfl (by rw [made_list]; exact rfl) rfl fun r9 => ?_
              all_goals refine HL_r rfl rfl rfl rfl (R_build (r := [_, _, _]) rfl rfl) ?_
              all_goals refine HL_alloc (cs := #[_, _, _]) rfl rfl rfl rfl fun r10 => ?_
              all_goals (refine HL_storeA (k := 0) (n := 3) (cs' := #[_, _, _]) (vs := #[_, _, _]) rfl rfl rfl rfl rfl rfl rfl (by exact Nat.le_of_ble_eq_true rfl) rfl (by first | (simp only [List.set_cons_zero, List.set_cons_succ]; exact rfl) | exact rfl) ?_)
              all_goals refine HL_nil ?_
              all_goals (
                refine HQ_then ?_
                refine hK7 _ _ _ _ ?_; clear hK7 K7
                refine HC_seq fun K8 hK8 => ?_
                refine HC_region ?_
                all_goals (refine HL_r rfl rfl rfl rfl (R_loadA (vs := [_, _, _, _, _, _, _]) rfl (known_L (k := 4) rfl) rfl rfl rfl rfl) ?_)
                all_goals refine HL_buildSlice (vs := [_]) (zs := [_, _, _, _, _, _, _]) (r := [_, _, _, _, _, _, _]) rfl rfl rfl rfl rfl rfl rfl rfl rfl (by rw [made_list]; exact rfl) rfl fun r11 => ?_
                all_goals refine HL_r rfl rfl rfl rfl (R_build (r := [_, _, _, _, _, _, _]) rfl rfl) ?_
                all_goals refine HL_buildSlice (vs := [_]) (zs := [_, _, _, _, _, _, _]) (r := [_, _, _, _, _, _, _]) rfl rfl rfl rfl rfl rfl rfl rfl rfl (by rw [made_list]; exact rfl) rfl fun r12 => ?_
                all_goals refine HL_r rfl rfl rfl rfl (R_build (r := [_, _, _, _, _, _, _]) rfl rfl) ?_
                all_goals refine HL_alloc (cs := #[_, _, _, _, _, _, _]) rfl rfl rfl rfl fun r13 => ?_
                all_goals (refine HL_storeA (k := 0) (n := 7) (cs' := #[_, _, _, _, _, _, _]) (vs := #[_, _, _, _, _, _, _]) rfl rfl rfl rfl rfl rfl rfl (by exact Nat.le_of_ble_eq_true rfl) rfl (by first | (simp only [List.set_cons_zero, List.set_cons_succ]; exact rfl) | exact rfl) ?_)
                all_goals refine HL_nil ?_
                all_goals (
                  refine HQ_then ?_
                  refine hK8 _ _ _ _ ?_; clear hK8 K8
                  refine HC_seq fun K9 hK9 => ?_
                  refine HC_region ?_
                  all_goals (refine HL_r rfl rfl rfl rfl (R_loadA (vs := [_, _, _]) rfl (known_L (k := 10) rfl) rfl rfl rfl rfl) ?_)
                  all_goals refine HL_callR (Rl := wR r2 r4 r7 r9 r11 r12) rfl rfl rfl (enters_of Tryd.func14 (by kernel_rfl) rfl) (S_Check in_vec) (fun q hq => .inl (kn6 (q := q) (mem_nth (n := 1) rfl) (mem_nth (n := 2) rfl) (mem_nth (n := 4) rfl) (mem_nth (n := 6) rfl) (mem_nth (n := 9) rfl) (mem_nth (n := 11) rfl) hq)) ?_; refine HL_as (congrArg (Value.int .i64) (f_1 r2)) ?_
                  all_goals refine HL_r rfl rfl rfl rfl (R_pure rfl rfl rfl) ?_
                  all_goals refine HL_r rfl rfl rfl rfl (R_move rfl) ?_
                  all_goals (refine HL_r rfl rfl rfl rfl (R_loadA (vs := [_, _, _]) rfl (known_L (k := 10) rfl) rfl rfl rfl rfl) ?_)
                  all_goals refine HL_callR (Rl := wR r2 r4 r7 r9 r11 r12) rfl rfl rfl (enters_of Tryd.func15 (by kernel_rfl) rfl) (S_Fixed in_vec) (fun q hq => .inl (kn6 (q := q) (mem_nth (n := 1) rfl) (mem_nth (n := 2) rfl) (mem_nth (n := 4) rfl) (mem_nth (n := 6) rfl) (mem_nth (n := 9) rfl) (mem_nth (n := 11) rfl) hq)) ?_; refine HL_as (congrArg Value.bool (f_2 r2)) ?_
                  all_goals (refine HL_r rfl rfl rfl rfl (R_pickT rfl rfl) ?_)
                  all_goals refine HL_r rfl rfl rfl rfl (R_move rfl) ?_
                  all_goals (refine HL_r rfl rfl rfl rfl (R_loadA (vs := [_, _, _]) rfl (known_L (k := 10) rfl) rfl rfl rfl rfl) ?_)
                  all_goals refine HL_callR (Rl := wR r2 r4 r7 r9 r11 r12) rfl rfl rfl (enters_of Tryd.func16 (by kernel_rfl) rfl) (S_Size in_vec) (fun q hq => .inl (kn6 (q := q) (mem_nth (n := 1) rfl) (mem_nth (n := 2) rfl) (mem_nth (n := 4) rfl) (mem_nth (n := 6) rfl) (mem_nth (n := 9) rfl) (mem_nth (n := 11) rfl) hq)) ?_; refine HL_as (congrArg (Value.int .i64) (f_3 r2)) ?_
                  all_goals (refine HL_r rfl rfl rfl rfl (R_pure rfl rfl rfl) ?_)
                  all_goals (refine HL_r rfl rfl rfl rfl (R_pickT rfl rfl) ?_)
                  all_goals refine HL_r rfl rfl rfl rfl (R_move rfl) ?_
                  all_goals (refine HL_r rfl rfl rfl rfl (R_loadA (vs := [_, _, _]) rfl (known_L (k := 8) rfl) rfl rfl rfl rfl) ?_)
                  all_goals refine HL_callR (Rl := wR r2 r4 r7 r9 r11 r12) rfl rfl rfl (enters_of Tryd.func15 (by kernel_rfl) rfl) (S_Fixed in_lst) (fun q hq => .inl (kn6 (q := q) (mem_nth (n := 1) rfl) (mem_nth (n := 2) rfl) (mem_nth (n := 4) rfl) (mem_nth (n := 6) rfl) (mem_nth (n := 9) rfl) (mem_nth (n := 11) rfl) hq)) ?_; refine HL_as (congrArg Value.bool (f_4 r4)) ?_
                  all_goals (refine HL_r rfl rfl rfl rfl (R_pure rfl rfl rfl) ?_)
                  all_goals (refine HL_r rfl rfl rfl rfl (R_pickT rfl rfl) ?_)
                  all_goals refine HL_r rfl rfl rfl rfl (R_move rfl) ?_
                  all_goals (refine HL_r rfl rfl rfl rfl (R_loadA (vs := [_, _, _]) rfl (known_L (k := 8) rfl) rfl rfl rfl rfl) ?_)
                  all_goals refine HL_callR (Rl := wR r2 r4 r7 r9 r11 r12) rfl rfl rfl (enters_of Tryd.func16 (by kernel_rfl) rfl) (S_Size in_lst) (fun q hq => .inl (kn6 (q := q) (mem_nth (n := 1) rfl) (mem_nth (n := 2) rfl) (mem_nth (n := 4) rfl) (mem_nth (n := 6) rfl) (mem_nth (n := 9) rfl) (mem_nth (n := 11) rfl) hq)) ?_; refine HL_as (congrArg (Value.int .i64) (f_5 r4)) ?_
                  all_goals (refine HL_r rfl rfl rfl rfl (R_pure rfl rfl rfl) ?_)
                  all_goals (refine HL_r rfl rfl rfl rfl (R_pickT rfl rfl) ?_)
                  all_goals refine HL_r rfl rfl rfl rfl (R_move rfl) ?_
                  all_goals (refine HL_r rfl rfl rfl rfl (R_loadA (vs := [_, _, _]) rfl (known_L (k := 10) rfl) rfl rfl rfl rfl) ?_)
                  all_goals (refine HL_r rfl rfl rfl rfl (R_loadA (vs := [_, _, _, _, _, _, _]) rfl (known_L (k := 5) rfl) rfl rfl rfl rfl) ?_)
                  all_goals refine HL_callR (Rl := wR r2 r4 r7 r9 r11 r12) rfl rfl rfl (enters_of Tryd.func19 (by kernel_rfl) rfl) (S_Fits in_vec in_three) (fun q hq => .inl (kn6 (q := q) (mem_nth (n := 1) rfl) (mem_nth (n := 2) rfl) (mem_nth (n := 4) rfl) (mem_nth (n := 6) rfl) (mem_nth (n := 9) rfl) (mem_nth (n := 11) rfl) hq)) ?_; refine HL_as (congrArg (Value.int .i64) (f_6 r2 r7)) ?_
                  all_goals (refine HL_r rfl rfl rfl rfl (R_pure rfl rfl rfl) ?_)
                  all_goals (refine HL_r rfl rfl rfl rfl (R_pickT rfl rfl) ?_)
                  all_goals refine HL_r rfl rfl rfl rfl (R_move rfl) ?_
                  all_goals (refine HL_r rfl rfl rfl rfl (R_loadA (vs := [_, _, _]) rfl (known_L (k := 8) rfl) rfl rfl rfl rfl) ?_)
                  all_goals (refine HL_r rfl rfl rfl rfl (R_loadA (vs := [_, _, _, _, _, _, _]) rfl (known_L (k := 5) rfl) rfl rfl rfl rfl) ?_)
                  all_goals refine HL_callR (Rl := wR r2 r4 r7 r9 r11 r12) rfl rfl rfl (enters_of Tryd.func19 (by kernel_rfl) rfl) (S_Fits in_lst in_three) (fun q hq => .inl (kn6 (q := q) (mem_nth (n := 1) rfl) (mem_nth (n := 2) rfl) (mem_nth (n := 4) rfl) (mem_nth (n := 6) rfl) (mem_nth (n := 9) rfl) (mem_nth (n := 11) rfl) hq)) ?_; refine HL_as (congrArg (Value.int .i64) (f_7 r4 r7)) ?_
                  all_goals (refine HL_r rfl rfl rfl rfl (R_pure rfl rfl rfl) ?_)
                  all_goals (refine HL_r rfl rfl rfl rfl (R_pickT rfl rfl) ?_)
                  all_goals refine HL_r rfl rfl rfl rfl (R_move rfl) ?_
                  all_goals (refine HL_r rfl rfl rfl rfl (R_loadA (vs := [_, _, _]) rfl (known_L (k := 12) rfl) rfl rfl rfl rfl) ?_)
                  all_goals (refine HL_r rfl rfl rfl rfl (R_build (r := [_, _, _, _]) rfl rfl) ?_)
                  all_goals (refine HL_r rfl rfl rfl rfl (R_build (r := [_, _, _, _, _, _, _]) rfl rfl) ?_)
                  all_goals refine HL_callR (Rl := wR r2 r4 r7 r9 r11 r12) rfl rfl rfl (enters_of Tryd.func19 (by kernel_rfl) rfl) (S_Fits in_two (in_num 65536 (by decide))) (fun q hq => .inl (kn6 (q := q) (mem_nth (n := 1) rfl) (mem_nth (n := 2) rfl) (mem_nth (n := 4) rfl) (mem_nth (n := 6) rfl) (mem_nth (n := 9) rfl) (mem_nth (n := 11) rfl) hq)) ?_; refine HL_as (congrArg (Value.int .i64) (f_8)) ?_
                  all_goals (refine HL_r rfl rfl rfl rfl (R_pure rfl rfl rfl) ?_)
                  all_goals (refine HL_r rfl rfl rfl rfl (R_pickT rfl rfl) ?_)
                  all_goals refine HL_r rfl rfl rfl rfl (R_move rfl) ?_
                  all_goals (refine HL_r rfl rfl rfl rfl (R_loadA (vs := [_, _, _]) rfl (known_L (k := 3) rfl) rfl rfl rfl rfl) ?_)
                  all_goals (refine HL_r rfl rfl rfl rfl (R_loadA (vs := [_, _, _, _, _, _, _]) rfl (known_L (k := 0) rfl) rfl rfl rfl rfl) ?_)
                  all_goals refine HL_callR (Rl := wR r2 r4 r7 r9 r11 r12) rfl rfl rfl (enters_of Tryd.func19 (by kernel_rfl) rfl) (S_Fits in_uni in_pick) (fun q hq => .inl (kn6 (q := q) (mem_nth (n := 1) rfl) (mem_nth (n := 2) rfl) (mem_nth (n := 4) rfl) (mem_nth (n := 6) rfl) (mem_nth (n := 9) rfl) (mem_nth (n := 11) rfl) hq)) ?_; refine HL_as (congrArg (Value.int .i64) (f_9 r4 r9 r11 r12)) ?_
                  all_goals (refine HL_r rfl rfl rfl rfl (R_pure rfl rfl rfl) ?_)
                  all_goals (refine HL_r rfl rfl rfl rfl (R_pickT rfl rfl) ?_)
                  all_goals refine HL_r rfl rfl rfl rfl (R_move rfl) ?_
                  all_goals (refine HL_r rfl rfl rfl rfl (R_build (r := [_, _, _]) rfl rfl) ?_)
                  all_goals refine HL_callR (Rl := wR r2 r4 r7 r9 r11 r12) rfl rfl rfl (enters_of Tryd.func14 (by kernel_rfl) rfl) (S_Check (in_ty0 (iz 0) (iz 0))) (fun q hq => .inl (kn6 (q := q) (mem_nth (n := 1) rfl) (mem_nth (n := 2) rfl) (mem_nth (n := 4) rfl) (mem_nth (n := 6) rfl) (mem_nth (n := 9) rfl) (mem_nth (n := 11) rfl) hq)) ?_; refine HL_as (congrArg (Value.int .i64) (f_10)) ?_
                  all_goals (refine HL_r rfl rfl rfl rfl (R_pure rfl rfl rfl) ?_)
                  all_goals (refine HL_r rfl rfl rfl rfl (R_pickT rfl rfl) ?_)
                  all_goals refine HL_r rfl rfl rfl rfl (R_move rfl) ?_
                  all_goals (refine HL_r rfl rfl rfl rfl (R_build (r := [_, _, _]) rfl rfl) ?_)
                  all_goals refine HL_callR (Rl := wR r2 r4 r7 r9 r11 r12) rfl rfl rfl (enters_of Tryd.func14 (by kernel_rfl) rfl) (S_Check (in_ty0 (iz 1) (iz 3))) (fun q hq => .inl (kn6 (q := q) (mem_nth (n := 1) rfl) (mem_nth (n := 2) rfl) (mem_nth (n := 4) rfl) (mem_nth (n := 6) rfl) (mem_nth (n := 9) rfl) (mem_nth (n := 11) rfl) hq)) ?_; refine HL_as (congrArg (Value.int .i64) (f_11)) ?_
                  all_goals (refine HL_r rfl rfl rfl rfl (R_pure rfl rfl rfl) ?_)
                  all_goals (refine HL_r rfl rfl rfl rfl (R_pickT rfl rfl) ?_)
                  all_goals refine HL_r rfl rfl rfl rfl (R_move rfl) ?_
                  all_goals (refine HL_r rfl rfl rfl rfl (R_loadA (vs := [_, _, _, _, _, _, _]) rfl (known_L (k := 5) rfl) rfl rfl rfl rfl) ?_)
                  all_goals (refine HL_r rfl rfl rfl rfl (R_loadA (vs := [_, _, _, _, _, _, _]) rfl (known_L (k := 5) rfl) rfl rfl rfl rfl) ?_)
                  all_goals refine HL_callR (Rl := wR r2 r4 r7 r9 r11 r12) rfl rfl rfl (enters_of Tryd.func17 (by kernel_rfl) rfl) (S_Same in_three _ in_three) (fun q hq => .inl (kn6 (q := q) (mem_nth (n := 1) rfl) (mem_nth (n := 2) rfl) (mem_nth (n := 4) rfl) (mem_nth (n := 6) rfl) (mem_nth (n := 9) rfl) (mem_nth (n := 11) rfl) hq)) ?_; refine HL_as (congrArg Value.bool (f_12 r7)) ?_
                  all_goals (refine HL_r rfl rfl rfl rfl (R_pickT rfl rfl) ?_)
                  all_goals refine HL_r rfl rfl rfl rfl (R_move rfl) ?_
                  all_goals (refine HL_r rfl rfl rfl rfl (R_loadA (vs := [_, _, _, _, _, _, _]) rfl (known_L (k := 5) rfl) rfl rfl rfl rfl) ?_)
                  all_goals (refine HL_r rfl rfl rfl rfl (R_loadA (vs := [_, _, _, _, _, _, _]) rfl (known_L (k := 0) rfl) rfl rfl rfl rfl) ?_)
                  all_goals refine HL_callR (Rl := wR r2 r4 r7 r9 r11 r12) rfl rfl rfl (enters_of Tryd.func17 (by kernel_rfl) rfl) (S_Same in_three _ in_pick) (fun q hq => .inl (kn6 (q := q) (mem_nth (n := 1) rfl) (mem_nth (n := 2) rfl) (mem_nth (n := 4) rfl) (mem_nth (n := 6) rfl) (mem_nth (n := 9) rfl) (mem_nth (n := 11) rfl) hq)) ?_; refine HL_as (congrArg Value.bool (f_13 r7 r11 r12)) ?_
                  all_goals (refine HL_r rfl rfl rfl rfl (R_pure rfl rfl rfl) ?_)
                  all_goals (refine HL_r rfl rfl rfl rfl (R_pickT rfl rfl) ?_)
                  all_goals refine HL_r rfl rfl rfl rfl (R_assign rfl) ?_
                  all_goals refine HL_nil ?_
                  all_goals (
                    refine HQ_then ?_
                    refine hK9 _ _ _ _ ?_; clear hK9 K9
                    refine HC_ret ?_
                    refine HQ_post rfl rfl (.cons (res_tmp rfl) .nil) (fun w1 hs1 => ?_)
                    exact ⟨rfl, hs1.keep⟩
                    skip)
                  skip)
                skip)
              skip)
            skip)
          skip)
        skip)
      skip)
    skip)
end Go.Proofs.YtdadaddakcidjaaDoor
