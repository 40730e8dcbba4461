import Derived.Test.YtlcbfphioeppaaaGreatDoorQae
namespace Go.Proofs.YtlcbfphioeppaaaGreatDoor
set_option linter.all false
open Go.SL Go.RowKit Go.Shelf
open Go.Proofs (Enters enters_of)
theorem putR_ok {t : Ty} {v : Vl} (h : (putR t v).2 = 0) : fitsT t v = 0 ∧ (putV v t).length ≤ 65536 ∧ putR t v = (putV v t, 0) := by
  unfold putR at h ⊢
  by_cases h1 : fitsT t v = 0
  · rw [if_neg (by rw [h1]; decide)] at h ⊢
    by_cases h2 : 65536 < (putV v t).length
    · rw [if_pos h2] at h; cases h
    · rw [if_neg h2]; exact ⟨h1, by omega, rfl⟩
  · rw [if_pos h1] at h; exact absurd h h1
theorem eqb_of {p : Prop} [Decidable p] {b : Bool} (h : p ↔ b = true) : (decide p == b) = true := by
  cases b <;> simp_all
set_option maxRecDepth 10000 in
theorem L_SszApart {R : List (Nat × Obj)} {t : Ty} {v u : Vl} (ht : t.In R) (hv : v.In R) (hu : u.In R) : PureR Tryz.prog 7 [t.val, v.val, u.val].toArray (.bool true) R := by
  have h1 := S_few8 ht hv
  have h2 := S_few8 ht hu
  have s1 := fun h : few8 t v = true => S_sPut ht hv (few8_w h)
  have s2 := fun h : few8 t u = true => S_sPut ht hu (few8_w h)
  have hS := S_Same hv u hu
  have hT : few8 t v = true → few8 t u = true → (putR t v).2 = 0 → (putR t u).2 = 0 → ((putR t v).1 = (putR t u).1 ↔ sameV v u = true) := fun ha hb hg hh => by
    obtain ⟨f1, l1, e1⟩ := putR_ok hg
    obtain ⟨f2, l2, e2⟩ := putR_ok hh
    obtain ⟨c1, q1⟩ := fits_split f1
    obtain ⟨_, q2⟩ := fits_split f2
    rw [e1, e2, same_er]; exact ⟨fun h => put_inj hv hu c1 q1 q2 (few8_w ha) (few8_w hb) h, fun h => by rw [← put_er v, ← put_er u, h]⟩
  generalize few8 t v = f1 at h1 s1 hT
  generalize few8 t u = f2 at h2 s2 hT
  generalize putR t v = pa at s1 hT
  generalize putR t u = pc at s2 hT
  generalize sameV v u = sm at hS hT
  obtain ⟨x, g⟩ := pa
  obtain ⟨y, h⟩ := pc
  simp only at hT
  obtain ⟨k, n, p, ins⟩ := t
  obtain ⟨a, b, c, d, bits, pb, items, pi, pick⟩ := v
  obtain ⟨a2, b2, c2, d2, bits2, pb2, items2, pi2, pick2⟩ := u
  refine pureR_of_HC Tryz.func7 rfl rfl fun w => ?_; refine HC_seq fun K1 hK1 => ?_; refine HC_region ?_; refine HL_box (cs := #[_, _, _]) rfl rfl rfl rfl fun r1 => ?_; refine HL_box (cs := #[_, _, _, _, _, _, _]) rfl rfl rfl rfl fun r2 => ?_; refine HL_box (cs := #[_, _, _, _, _, _, _]) rfl rfl rfl rfl fun r3 => ?_; refine HL_r rfl rfl rfl rfl (R_assign rfl) ?_; refine HL_nil ?_; refine HQ_then ?_; refine hK1 _ _ _ _ ?_; clear hK1 K1; refine HC_seq fun K2 hK2 => ?_; refine HC_region ?_; refine HL_callP rfl rfl rfl (enters_of Tryz.func15 (by kernel_rfl) rfl) P_works08 ?_; refine HL_r rfl rfl rfl rfl (R_assign rfl) ?_; refine HL_nil ?_; refine HQ_then ?_; refine hK2 _ _ _ _ ?_; clear hK2 K2; refine HC_seq fun K3 hK3 => ?_; refine HC_seq fun K4 hK4 => ?_; refine HC_region ?_; refine HL_r rfl rfl rfl rfl (R_move rfl) ?_; refine HL_r rfl rfl rfl rfl (R_pure rfl rfl rfl) ?_; refine HL_nil ?_; refine HQ_then ?_; refine hK4 _ _ _ _ ?_; clear hK4 K4; refine HC_cond rfl (fun h5 => ?_) (fun h5 => ?_)
  · try exact Bool.noConfusion h5
  · try exact Bool.noConfusion h5
    try simp only [Z1, Z2, Z3, Z4, Z5, Z6, Z7, Z8, Z9, Z10, Z11, Z12, Z13] at h5
    refine HC_skip ?_; refine HQ_then ?_; refine hK3 _ _ _ _ ?_; clear hK3 K3; refine HC_seq fun K7 hK7 => ?_; refine HC_region ?_; refine HL_r rfl rfl rfl rfl (R_loadA (vs := [_, _, _]) rfl (known_L (k := 2) rfl) rfl rfl rfl rfl) ?_; refine HL_r rfl rfl rfl rfl (R_loadA (vs := [_, _, _, _, _, _, _]) rfl (known_L (k := 1) rfl) rfl rfl rfl rfl) ?_; refine HL_callR rfl rfl rfl (enters_of Tryz.func16 (by kernel_rfl) rfl) h1 (fun q hq => Or.inr hq) ?_; refine HL_r rfl rfl rfl rfl (R_move rfl) ?_
    refine HL_case 19 rfl (fun hb8 => ?_) (fun hb8 => ?_) <;> (try simp only [Z1, Z2, Z3, Z4, Z5, Z6, Z7, Z8, Z9, Z10, Z11, Z12, Z13] at hb8) <;> first | (refine HL_r rfl rfl rfl rfl (R_loadA (vs := [_, _, _]) rfl (known_L (k := 0) rfl) rfl rfl rfl rfl) ?_) | (refine HL_r rfl rfl rfl rfl (R_loadA (vs := [_, _, _]) rfl (known_L (k := 1) rfl) rfl rfl rfl rfl) ?_) | (refine HL_r rfl rfl rfl rfl (R_loadA (vs := [_, _, _]) rfl (known_L (k := 2) rfl) rfl rfl rfl rfl) ?_) | (refine HL_skip rfl rfl rfl ?_)
    all_goals first
      | (refine HL_r rfl rfl rfl rfl (R_loadA (vs := [_, _, _, _, _, _, _]) rfl (known_L (k := 0) rfl) rfl rfl rfl rfl) ?_)
      | (refine HL_skip rfl rfl rfl ?_)
    all_goals first
      | (refine HL_callR rfl rfl rfl (enters_of Tryz.func16 (by kernel_rfl) rfl) h2 (fun q hq => Or.inr hq) ?_)
      | (refine HL_skip rfl rfl rfl ?_)
    all_goals first
      | (refine HL_r rfl rfl rfl rfl (R_pickT rfl rfl) ?_)
      | (refine HL_r rfl rfl rfl rfl (R_pickF rfl rfl) ?_)
    all_goals refine HL_r rfl rfl rfl rfl (R_assign rfl) ?_
    all_goals refine HL_nil ?_
    all_goals (
     refine HQ_then ?_; refine hK7 _ _ _ _ ?_; clear hK7 K7; refine HC_seq fun K11 hK11 => ?_; refine HC_seq fun K12 hK12 => ?_; refine HC_region ?_; refine HL_r rfl rfl rfl rfl (R_move rfl) ?_; refine HL_r rfl rfl rfl rfl (R_pure rfl rfl rfl) ?_; refine HL_nil ?_; refine HQ_then ?_; refine hK12 _ _ _ _ ?_; clear hK12 K12; refine HC_cond rfl (fun h13 => ?_) (fun h13 => ?_)
     · try exact Bool.noConfusion h13
       try simp only [Z1, Z2, Z3, Z4, Z5, Z6, Z7, Z8, Z9, Z10, Z11, Z12, Z13] at h13
       refine HC_seq fun K14 hK14 => ?_; refine HC_region ?_; refine HL_r rfl rfl rfl rfl (R_move rfl) ?_; refine HL_r rfl rfl rfl rfl (R_assign rfl) ?_; refine HL_nil ?_; refine HQ_then ?_; refine hK14 _ _ _ _ ?_; clear hK14 K14; refine HC_ret ?_; refine HQ_thenR ?_; clear hK11 K11; refine HQ_post rfl rfl (.cons (res_tmp rfl) .nil) (fun w1 hs1 => ?_); exact ⟨rfl, hs1.keep⟩
     · try exact Bool.noConfusion h13
       all_goals try simp only [Z1, Z2, Z3, Z4, Z5, Z6, Z7, Z8, Z9, Z10, Z11, Z12, Z13] at h13
       all_goals (
        refine HC_skip ?_; refine HQ_then ?_; refine hK11 _ _ _ _ ?_; clear hK11 K11; refine HC_seq fun K15 hK15 => ?_; refine HC_region ?_; refine HL_r rfl rfl rfl rfl (R_loadA (vs := [_, _, _]) rfl (known_L (k := 2) rfl) rfl rfl rfl rfl) ?_; refine HL_r rfl rfl rfl rfl (R_loadA (vs := [_, _, _, _, _, _, _]) rfl (known_L (k := 1) rfl) rfl rfl rfl rfl) ?_; refine HL_callR rfl rfl rfl (enters_of Tryz.func17 (by kernel_rfl) rfl) (s1 (by simp_all)) (fun q hq => Or.inr hq) ?_; refine HL_r rfl rfl rfl rfl (R_move rfl) ?_; refine HL_r rfl rfl rfl rfl (R_extract rfl rfl) ?_; refine HL_r rfl rfl rfl rfl (R_extract rfl rfl) ?_; refine HL_r rfl rfl rfl rfl (R_assign rfl) ?_; refine HL_r rfl rfl rfl rfl (R_assign rfl) ?_; refine HL_nil ?_; refine HQ_then ?_; refine hK15 _ _ _ _ ?_; clear hK15 K15; refine HC_seq fun K16 hK16 => ?_; refine HC_region ?_; refine HL_r rfl rfl rfl rfl (R_loadA (vs := [_, _, _]) rfl (known_L (k := 2) rfl) rfl rfl rfl rfl) ?_; refine HL_r rfl rfl rfl rfl (R_loadA (vs := [_, _, _, _, _, _, _]) rfl (known_L (k := 0) rfl) rfl rfl rfl rfl) ?_; refine HL_callR rfl rfl rfl (enters_of Tryz.func17 (by kernel_rfl) rfl) (s2 (by simp_all)) (fun q hq => Or.inr hq) ?_; refine HL_r rfl rfl rfl rfl (R_move rfl) ?_; refine HL_r rfl rfl rfl rfl (R_extract rfl rfl) ?_; refine HL_r rfl rfl rfl rfl (R_extract rfl rfl) ?_; refine HL_r rfl rfl rfl rfl (R_assign rfl) ?_; refine HL_r rfl rfl rfl rfl (R_assign rfl) ?_; refine HL_nil ?_; refine HQ_then ?_; refine hK16 _ _ _ _ ?_; clear hK16 K16; refine HC_seq fun K17 hK17 => ?_; refine HC_seq fun K18 hK18 => ?_; refine HC_region ?_; refine HL_r rfl rfl rfl rfl (R_move rfl) ?_; refine HL_r rfl rfl rfl rfl (R_pure rfl rfl rfl) ?_; refine HL_r rfl rfl rfl rfl (R_move rfl) ?_
        refine HL_case 41 rfl (fun hb19 => ?_) (fun hb19 => ?_) <;> (try simp only [Z1, Z2, Z3, Z4, Z5, Z6, Z7, Z8, Z9, Z10, Z11, Z12, Z13] at hb19) <;> first | (refine HL_r rfl rfl rfl rfl (R_move rfl) ?_) | (refine HL_skip rfl rfl rfl ?_)
        all_goals first
          | (refine HL_r rfl rfl rfl rfl (R_pure rfl rfl rfl) ?_)
          | (refine HL_skip rfl rfl rfl ?_)
        all_goals first
          | (refine HL_r rfl rfl rfl rfl (R_pickT rfl rfl) ?_)
          | (refine HL_r rfl rfl rfl rfl (R_pickF rfl rfl) ?_)
        all_goals refine HL_nil ?_
        all_goals (
         refine HQ_then ?_; refine hK18 _ _ _ _ ?_; clear hK18 K18; refine HC_cond rfl (fun h21 => ?_) (fun h21 => ?_)
         · try exact Bool.noConfusion h21
           try simp only [Z1, Z2, Z3, Z4, Z5, Z6, Z7, Z8, Z9, Z10, Z11, Z12, Z13] at h21
           refine HC_seq fun K22 hK22 => ?_; refine HC_region ?_; refine HL_r rfl rfl rfl rfl (R_move rfl) ?_; refine HL_r rfl rfl rfl rfl (R_assign rfl) ?_; refine HL_nil ?_; refine HQ_then ?_; refine hK22 _ _ _ _ ?_; clear hK22 K22; refine HC_ret ?_; refine HQ_thenR ?_; clear hK17 K17; refine HQ_post rfl rfl (.cons (res_tmp rfl) .nil) (fun w1 hs1 => ?_); exact ⟨rfl, hs1.keep⟩
         · try exact Bool.noConfusion h21
           all_goals try simp only [Z1, Z2, Z3, Z4, Z5, Z6, Z7, Z8, Z9, Z10, Z11, Z12, Z13] at h21
           all_goals (
            refine HC_skip ?_; refine HQ_then ?_; refine hK17 _ _ _ _ ?_; clear hK17 K17; refine HC_seq fun K23 hK23 => ?_; refine HC_region ?_; refine HL_r rfl rfl rfl rfl (R_move rfl) ?_; refine HL_r rfl rfl rfl rfl (R_move rfl) ?_; refine HL_r rfl rfl rfl rfl (R_move rfl) ?_; refine HL_r rfl rfl rfl rfl (R_move rfl) ?_; refine HL_r rfl rfl rfl rfl (R_strEq rfl rfl) ?_; refine HL_r rfl rfl rfl rfl (R_loadA (vs := [_, _, _, _, _, _, _]) rfl (known_L (k := 1) rfl) rfl rfl rfl rfl) ?_; refine HL_r rfl rfl rfl rfl (R_loadA (vs := [_, _, _, _, _, _, _]) rfl (known_L (k := 0) rfl) rfl rfl rfl rfl) ?_; refine HL_callR rfl rfl rfl (enters_of Tryz.func23 (by kernel_rfl) rfl) hS (fun q hq => Or.inr hq) ?_; refine HL_r rfl rfl rfl rfl (R_pure rfl rfl rfl) ?_; refine HL_r rfl rfl rfl rfl (R_pickT rfl rfl) ?_; refine HL_r rfl rfl rfl rfl (R_assign rfl) ?_; refine HL_nil ?_; refine HQ_then ?_; refine hK23 _ _ _ _ ?_; clear hK23 K23; refine HC_ret ?_; refine HQ_post rfl rfl (.cons (res_tmp rfl) .nil) (fun w1 hs1 => ?_); exact ⟨congrArg (fun z => Ending.returned (Value.bool z)) (eqb_of (hT (by assumption) (by assumption) (by assumption) (by assumption))), hs1.keep⟩
            skip)
         skip)
        skip)
     skip)
end Go.Proofs.YtlcbfphioeppaaaGreatDoor
