import Derived.Test.YtlcbfphioeppaaaGreatDoorPbe
namespace Go.Proofs.YtlcbfphioeppaaaGreatDoor
set_option linter.all false
open Go.SL Go.RowKit Go.Shelf
section
variable {a b c d : Nat} {bits : List Bool} {pb : Pl} {items : List Vl} {pi : Pl} {pick n : Int} {p : Pl} {ins : List Ty}
end
theorem rootR_ok {t : Ty} {v : Vl} (h : fitsT t v = 0) : rootR t v = (rootV v t, 0) := by unfold rootR; rw [if_neg (by rw [h]; simp)]
/-- Roots and bytes of two values. -/
theorem two_roots {R : List (Nat × Obj)} {t : Ty} {v w : Vl} (hv : v.In R) (hw : w.In R) (h1 : wV v ≤ 20000) (h2 : wV w ≤ 20000) (hg : (putR t v).2 = 0) (hh : (putR t w).2 = 0) (hx : (putR t v).1 = (putR t w).1) : (rootR t v).2 = 0 ∧ (rootR t w).2 = 0 ∧ (rootR t v).1 = (rootR t w).1 := by
  have key : ∀ u : Vl, (putR t u).2 = 0 → fitsT t u = 0 ∧ putR t u = (putV u t, 0) := fun u hu => by
    unfold putR at hu ⊢
    split at hu
    · rename_i h; exact absurd hu h
    · rename_i h
      split at hu
      · cases hu
      · rename_i h3
        rw [if_neg h, if_neg h3]; exact ⟨Decidable.byContradiction h, rfl⟩
  obtain ⟨f1, e1⟩ := key v hg
  obtain ⟨f2, e2⟩ := key w hh
  rw [e1, e2] at hx
  obtain ⟨c1, q1⟩ := fits_split f1
  obtain ⟨_, q2⟩ := fits_split f2
  rw [rootR_ok f1, rootR_ok f2]; exact ⟨rfl, rfl, root_inj hv hw c1 q1 q2 h1 h2 hx⟩
theorem rootR_e (t : Ty) (v : Vl) : (rootR t v).2 = fitsT t v ∧ ((rootR t v).2 = 0 → (rootR t v).1.length = 32) ∧ ((rootR t v).2 ≠ 0 → (rootR t v).1 = []) := by
  by_cases h : fitsT t v = 0
  · rw [rootR_ok h, h]
    obtain ⟨c1, q1⟩ := fits_split h
    exact ⟨rfl, fun _ => rootV_len v t 0 c1 q1, fun h => absurd rfl h⟩
  · have e : rootR t v = ([], fitsT t v) := by unfold rootR; rw [if_pos h]
    rw [e]; exact ⟨rfl, fun h2 => absurd h2 h, fun _ => rfl⟩
set_option maxHeartbeats 2000000 in
set_option maxRecDepth 10000 in
theorem L_MerkleBytes {R : List (Nat × Obj)} {t : Ty} {v u : Vl} (ht : t.In R) (hv : v.In R) (hu : u.In R) : PureR Tryz.prog 13 [t.val, v.val, u.val].toArray (.bool true) R := by
  have h1 := S_few9 ht hv
  have h2 := S_few9 ht hu
  have hF := S_Fits ht hv
  have m1 := fun h : fewM t v = true => S_mRoot ht hv (fewM_w h)
  have m2 := fun h : fewM t u = true => S_mRoot ht hu (fewM_w h)
  have s1 := fun h : fewM t v = true => S_sPut ht hv (fewM_w h)
  have s2 := fun h : fewM t u = true => S_sPut ht hu (fewM_w h)
  have hT := fun (ha : fewM t v = true) (hb : fewM t u = true) => two_roots (t := t) hv hu (fewM_w ha) (fewM_w hb)
  obtain ⟨e1, e2, e3⟩ := rootR_e t v
  rw [← e1] at hF
  generalize fewM t v = f1 at h1 m1 s1 hT
  generalize fewM t u = f2 at h2 m2 s2 hT
  generalize rootR t v = ra at m1 hT e2 e3 hF
  generalize rootR t u = rb at m2 hT
  generalize putR t v = pa at s1 hT
  generalize putR t u = pc at s2 hT
  obtain ⟨A, e⟩ := ra
  obtain ⟨B, f⟩ := rb
  obtain ⟨x, g⟩ := pa
  obtain ⟨y, h⟩ := pc
  simp only at hT e2 e3 hF
  obtain ⟨k, n, p, ins⟩ := t
  obtain ⟨a, b, c, d, bits, pb, items, pi, pick⟩ := v
  obtain ⟨a2, b2, c2, d2, bits2, pb2, items2, pi2, pick2⟩ := u
  have q1 : e = 0 → ((A.length : Int) != 32) = false := fun h => by rw [e2 h]; rfl
  refine pureR_of_HC Tryz.func13 rfl rfl fun w => ?_; refine HC_seq fun K1 hK1 => ?_; refine HC_region ?_; refine HL_box (cs := #[_, _, _]) rfl rfl rfl rfl fun r1 => ?_; refine HL_box (cs := #[_, _, _, _, _, _, _]) rfl rfl rfl rfl fun r2 => ?_; refine HL_box (cs := #[_, _, _, _, _, _, _]) rfl rfl rfl rfl fun r3 => ?_; refine HL_r rfl rfl rfl rfl (R_assign rfl) ?_; refine HL_nil ?_; refine HQ_then ?_; refine hK1 _ _ _ _ ?_; clear hK1 K1; refine HC_seq fun K2 hK2 => ?_; refine HC_region ?_; refine HL_callP rfl rfl rfl (enters_of Tryz.func26 (by kernel_rfl) rfl) P_works09 ?_; refine HL_r rfl rfl rfl rfl (R_assign rfl) ?_; refine HL_nil ?_; refine HQ_then ?_; refine hK2 _ _ _ _ ?_; clear hK2 K2; refine HC_seq fun K3 hK3 => ?_; refine HC_seq fun K4 hK4 => ?_; refine HC_region ?_; refine HL_r rfl rfl rfl rfl (R_move rfl) ?_; refine HL_r rfl rfl rfl rfl (R_pure rfl rfl rfl) ?_; refine HL_nil ?_; refine HQ_then ?_; refine hK4 _ _ _ _ ?_; clear hK4 K4; refine HC_cond rfl (fun h5 => ?_) (fun h5 => ?_)
  · try exact Bool.noConfusion h5
  · try exact Bool.noConfusion h5
    try simp only [Z1, Z2, Z3, Z4, Z5, Z6, Z7, Z8, Z9, Z10, Z11, Z12, Z13] at h5
    refine HC_skip ?_; refine HQ_then ?_; refine hK3 _ _ _ _ ?_; clear hK3 K3; refine HC_seq fun K7 hK7 => ?_; refine HC_region ?_; refine HL_r rfl rfl rfl rfl (R_loadA (vs := [_, _, _]) rfl (known_L (k := 2) rfl) rfl rfl rfl rfl) ?_; refine HL_r rfl rfl rfl rfl (R_loadA (vs := [_, _, _, _, _, _, _]) rfl (known_L (k := 1) rfl) rfl rfl rfl rfl) ?_; refine HL_callR rfl rfl rfl (enters_of Tryz.func31 (by kernel_rfl) rfl) h1 (fun q hq => Or.inr hq) ?_; refine HL_r rfl rfl rfl rfl (R_move rfl) ?_
    refine HL_case 23 rfl (fun hb8 => ?_) (fun hb8 => ?_) <;> (try simp only [Z1, Z2, Z3, Z4, Z5, Z6, Z7, Z8, Z9, Z10, Z11, Z12, Z13] at hb8) <;> first | (refine HL_r rfl rfl rfl rfl (R_loadA (vs := [_, _, _]) rfl (known_L (k := 0) rfl) rfl rfl rfl rfl) ?_) | (refine HL_r rfl rfl rfl rfl (R_loadA (vs := [_, _, _]) rfl (known_L (k := 1) rfl) rfl rfl rfl rfl) ?_) | (refine HL_r rfl rfl rfl rfl (R_loadA (vs := [_, _, _]) rfl (known_L (k := 2) rfl) rfl rfl rfl rfl) ?_) | (refine HL_skip rfl rfl rfl ?_)
    all_goals first
      | (refine HL_r rfl rfl rfl rfl (R_loadA (vs := [_, _, _, _, _, _, _]) rfl (known_L (k := 0) rfl) rfl rfl rfl rfl) ?_)
      | (refine HL_skip rfl rfl rfl ?_)
    all_goals first
      | (refine HL_callR rfl rfl rfl (enters_of Tryz.func31 (by kernel_rfl) rfl) h2 (fun q hq => Or.inr hq) ?_)
      | (refine HL_skip rfl rfl rfl ?_)
    all_goals first
      | (refine HL_r rfl rfl rfl rfl (R_pickT rfl rfl) ?_)
      | (refine HL_r rfl rfl rfl rfl (R_pickF rfl rfl) ?_)
    all_goals refine HL_r rfl rfl rfl rfl (R_assign rfl) ?_
    all_goals refine HL_nil ?_
    all_goals (
     refine HQ_then ?_; refine hK7 _ _ _ _ ?_; clear hK7 K7; refine HC_seq fun K11 hK11 => ?_; refine HC_seq fun K12 hK12 => ?_; refine HC_region ?_; refine HL_r rfl rfl rfl rfl (R_move rfl) ?_; refine HL_r rfl rfl rfl rfl (R_pure rfl rfl rfl) ?_; refine HL_nil ?_; refine HQ_then ?_; refine hK12 _ _ _ _ ?_; clear hK12 K12; refine HC_cond rfl (fun h13 => ?_) (fun h13 => ?_)
     · try exact Bool.noConfusion h13
       try simp only [Z1, Z2, Z3, Z4, Z5, Z6, Z7, Z8, Z9, Z10, Z11, Z12, Z13] at h13
       refine HC_seq fun K14 hK14 => ?_; refine HC_region ?_; refine HL_r rfl rfl rfl rfl (R_move rfl) ?_; refine HL_r rfl rfl rfl rfl (R_assign rfl) ?_; refine HL_nil ?_; refine HQ_then ?_; refine hK14 _ _ _ _ ?_; clear hK14 K14; refine HC_ret ?_; refine HQ_thenR ?_; clear hK11 K11; refine HQ_post rfl rfl (.cons (res_tmp rfl) .nil) (fun w1 hs1 => ?_); exact ⟨rfl, hs1.keep⟩
     · try exact Bool.noConfusion h13
       all_goals try simp only [Z1, Z2, Z3, Z4, Z5, Z6, Z7, Z8, Z9, Z10, Z11, Z12, Z13] at h13
       all_goals (
        refine HC_skip ?_; refine HQ_then ?_; refine hK11 _ _ _ _ ?_; clear hK11 K11; refine HC_seq fun K15 hK15 => ?_; refine HC_region ?_; refine HL_r rfl rfl rfl rfl (R_loadA (vs := [_, _, _]) rfl (known_L (k := 2) rfl) rfl rfl rfl rfl) ?_; refine HL_r rfl rfl rfl rfl (R_loadA (vs := [_, _, _, _, _, _, _]) rfl (known_L (k := 1) rfl) rfl rfl rfl rfl) ?_; refine HL_callR rfl rfl rfl (enters_of Tryz.func32 (by kernel_rfl) rfl) (m1 (by simp_all)) (fun q hq => Or.inr hq) ?_; refine HL_r rfl rfl rfl rfl (R_move rfl) ?_; refine HL_r rfl rfl rfl rfl (R_extract rfl rfl) ?_; refine HL_r rfl rfl rfl rfl (R_extract rfl rfl) ?_; refine HL_r rfl rfl rfl rfl (R_assign rfl) ?_; refine HL_r rfl rfl rfl rfl (R_assign rfl) ?_; refine HL_nil ?_; refine HQ_then ?_; refine hK15 _ _ _ _ ?_; clear hK15 K15; refine HC_seq fun K16 hK16 => ?_; refine HC_region ?_; refine HL_r rfl rfl rfl rfl (R_loadA (vs := [_, _, _]) rfl (known_L (k := 2) rfl) rfl rfl rfl rfl) ?_; refine HL_r rfl rfl rfl rfl (R_loadA (vs := [_, _, _, _, _, _, _]) rfl (known_L (k := 0) rfl) rfl rfl rfl rfl) ?_; refine HL_callR rfl rfl rfl (enters_of Tryz.func32 (by kernel_rfl) rfl) (m2 (by simp_all)) (fun q hq => Or.inr hq) ?_; refine HL_r rfl rfl rfl rfl (R_move rfl) ?_; refine HL_r rfl rfl rfl rfl (R_extract rfl rfl) ?_; refine HL_r rfl rfl rfl rfl (R_extract rfl rfl) ?_; refine HL_r rfl rfl rfl rfl (R_assign rfl) ?_; refine HL_r rfl rfl rfl rfl (R_assign rfl) ?_; refine HL_nil ?_; refine HQ_then ?_; refine hK16 _ _ _ _ ?_; clear hK16 K16; refine HC_seq fun K17 hK17 => ?_; refine HC_seq fun K18 hK18 => ?_; refine HC_region ?_; refine HL_r rfl rfl rfl rfl (R_move rfl) ?_; refine HL_r rfl rfl rfl rfl (R_pure rfl rfl rfl) ?_; refine HL_r rfl rfl rfl rfl (R_loadA (vs := [_, _, _]) rfl (known_L (k := 2) rfl) rfl rfl rfl rfl) ?_; refine HL_r rfl rfl rfl rfl (R_loadA (vs := [_, _, _, _, _, _, _]) rfl (known_L (k := 1) rfl) rfl rfl rfl rfl) ?_; refine HL_callR rfl rfl rfl (enters_of Tryz.func22 (by kernel_rfl) rfl) hF (fun q hq => Or.inr hq) ?_; refine HL_r rfl rfl rfl rfl (R_pure rfl rfl rfl) ?_; refine HL_r rfl rfl rfl rfl (R_pure rfl rfl rfl) ?_; refine HL_as (show _ = Value.bool false from bool_eq' (bne_self_eq_false _)) ?_; refine HL_r rfl rfl rfl rfl (R_move rfl) ?_; refine HL_r rfl rfl rfl rfl (R_move rfl) ?_; refine HL_r rfl rfl rfl rfl (R_pure rfl rfl rfl) ?_; refine HL_r rfl rfl rfl rfl (R_move rfl) ?_
        refine HL_case 53 rfl (fun hb22 => ?_) (fun hb22 => ?_) <;> (try simp only [Z1, Z2, Z3, Z4, Z5, Z6, Z7, Z8, Z9, Z10, Z11, Z12, Z13] at hb22) <;> first | (refine HL_r rfl rfl rfl rfl (R_move rfl) ?_) | (refine HL_skip rfl rfl rfl ?_)
        all_goals first
          | (refine HL_r rfl rfl rfl rfl (R_lenBs rfl rfl) ?_)
          | (refine HL_skip rfl rfl rfl ?_)
        all_goals first
          | (refine HL_r rfl rfl rfl rfl (R_pure rfl rfl rfl) ?_)
          | (refine HL_skip rfl rfl rfl ?_)
        all_goals first
          | (refine HL_as (show _ = Value.bool false from bool_eq' (q1 (by assumption))) ?_)
          | skip
        all_goals first
          | (refine HL_r rfl rfl rfl rfl (R_pickT rfl rfl) ?_)
          | (refine HL_r rfl rfl rfl rfl (R_pickF rfl rfl) ?_)
        all_goals (refine HL_r rfl rfl rfl rfl (R_pickF rfl rfl) ?_)
        all_goals refine HL_r rfl rfl rfl rfl (R_move rfl) ?_
        all_goals (refine HL_r rfl rfl rfl rfl (R_move rfl) ?_)
        all_goals (refine HL_r rfl rfl rfl rfl (R_pure rfl rfl rfl) ?_)
        all_goals (refine HL_r rfl rfl rfl rfl (R_move rfl) ?_)
        all_goals (refine HL_case 62 rfl (fun hb29 => ?_) (fun hb29 => ?_) <;> (try simp only [Z1, Z2, Z3, Z4, Z5, Z6, Z7, Z8, Z9, Z10, Z11, Z12, Z13] at hb29) <;> first | (refine HL_r rfl rfl rfl rfl (R_move rfl) ?_) | (refine HL_skip rfl rfl rfl ?_))
        all_goals first
          | (refine HL_r rfl rfl rfl rfl (R_strNe rfl rfl) ?_)
          | (refine HL_skip rfl rfl rfl ?_)
        all_goals first
          | (refine HL_r rfl rfl rfl rfl (R_pickT rfl rfl) ?_)
          | (refine HL_r rfl rfl rfl rfl (R_pickF rfl rfl) ?_)
        all_goals (refine HL_r rfl rfl rfl rfl (R_pickF rfl rfl) ?_)
        all_goals refine HL_nil ?_
        all_goals (
         refine HQ_then ?_; refine hK18 _ _ _ _ ?_; clear hK18 K18; refine HC_cond rfl (fun h32 => ?_) (fun h32 => ?_)
         · try exact Bool.noConfusion h32
           all_goals try simp only [Z1, Z2, Z3, Z4, Z5, Z6, Z7, Z8, Z9, Z10, Z11, Z12, Z13] at h32
           all_goals (
            refine HC_seq fun K33 hK33 => ?_; refine HC_region ?_; refine HL_r rfl rfl rfl rfl (R_assign rfl) ?_; refine HL_nil ?_; refine HQ_then ?_; refine hK33 _ _ _ _ ?_; clear hK33 K33; refine HC_ret ?_; refine HQ_thenR ?_; clear hK17 K17; refine HQ_post rfl rfl (.cons (res_tmp rfl) .nil) (fun w1 hs1 => ?_)
            first
              | (exfalso; omega)
              | exact absurd (e3 (by assumption)) (by assumption)
            skip)
         · try exact Bool.noConfusion h32
           try simp only [Z1, Z2, Z3, Z4, Z5, Z6, Z7, Z8, Z9, Z10, Z11, Z12, Z13] at h32
           refine HC_skip ?_; refine HQ_then ?_; refine hK17 _ _ _ _ ?_; clear hK17 K17; refine HC_seq fun K34 hK34 => ?_; refine HC_region ?_; refine HL_r rfl rfl rfl rfl (R_loadA (vs := [_, _, _]) rfl (known_L (k := 2) rfl) rfl rfl rfl rfl) ?_; refine HL_r rfl rfl rfl rfl (R_loadA (vs := [_, _, _, _, _, _, _]) rfl (known_L (k := 1) rfl) rfl rfl rfl rfl) ?_; refine HL_callR rfl rfl rfl (enters_of Tryz.func17 (by kernel_rfl) rfl) (s1 (by simp_all)) (fun q hq => Or.inr hq) ?_; refine HL_r rfl rfl rfl rfl (R_move rfl) ?_; refine HL_r rfl rfl rfl rfl (R_extract rfl rfl) ?_; refine HL_r rfl rfl rfl rfl (R_extract rfl rfl) ?_; refine HL_r rfl rfl rfl rfl (R_assign rfl) ?_; refine HL_r rfl rfl rfl rfl (R_assign rfl) ?_; refine HL_nil ?_; refine HQ_then ?_; refine hK34 _ _ _ _ ?_; clear hK34 K34; refine HC_seq fun K35 hK35 => ?_; refine HC_region ?_; refine HL_r rfl rfl rfl rfl (R_loadA (vs := [_, _, _]) rfl (known_L (k := 2) rfl) rfl rfl rfl rfl) ?_; refine HL_r rfl rfl rfl rfl (R_loadA (vs := [_, _, _, _, _, _, _]) rfl (known_L (k := 0) rfl) rfl rfl rfl rfl) ?_; refine HL_callR rfl rfl rfl (enters_of Tryz.func17 (by kernel_rfl) rfl) (s2 (by simp_all)) (fun q hq => Or.inr hq) ?_; refine HL_r rfl rfl rfl rfl (R_move rfl) ?_; refine HL_r rfl rfl rfl rfl (R_extract rfl rfl) ?_; refine HL_r rfl rfl rfl rfl (R_extract rfl rfl) ?_; refine HL_r rfl rfl rfl rfl (R_assign rfl) ?_; refine HL_r rfl rfl rfl rfl (R_assign rfl) ?_; refine HL_nil ?_; refine HQ_then ?_; refine hK35 _ _ _ _ ?_; clear hK35 K35; refine HC_seq fun K36 hK36 => ?_; refine HC_region ?_; refine HL_r rfl rfl rfl rfl (R_move rfl) ?_; refine HL_r rfl rfl rfl rfl (R_move rfl) ?_; refine HL_r rfl rfl rfl rfl (R_move rfl) ?_; refine HL_r rfl rfl rfl rfl (R_pure rfl rfl rfl) ?_; refine HL_r rfl rfl rfl rfl (R_move rfl) ?_
           refine HL_case 83 rfl (fun hb40 => ?_) (fun hb40 => ?_) <;> (try simp only [Z1, Z2, Z3, Z4, Z5, Z6, Z7, Z8, Z9, Z10, Z11, Z12, Z13] at hb40) <;> first | (refine HL_r rfl rfl rfl rfl (R_move rfl) ?_) | (refine HL_skip rfl rfl rfl ?_)
           all_goals first
             | (refine HL_r rfl rfl rfl rfl (R_pure rfl rfl rfl) ?_)
             | (refine HL_skip rfl rfl rfl ?_)
           all_goals first
             | (refine HL_r rfl rfl rfl rfl (R_pickT rfl rfl) ?_)
             | (refine HL_r rfl rfl rfl rfl (R_pickF rfl rfl) ?_)
           all_goals (refine HL_r rfl rfl rfl rfl (R_move rfl) ?_)
           all_goals first
             | (refine HL_skip rfl rfl rfl ?_)
             | (refine HL_case 87 rfl (fun hb44 => ?_) (fun hb44 => ?_) <;> (try simp only [Z1, Z2, Z3, Z4, Z5, Z6, Z7, Z8, Z9, Z10, Z11, Z12, Z13] at hb44) <;> first | (refine HL_r rfl rfl rfl rfl (R_move rfl) ?_) | (refine HL_skip rfl rfl rfl ?_))
           all_goals first
             | (refine HL_r rfl rfl rfl rfl (R_move rfl) ?_)
             | (refine HL_skip rfl rfl rfl ?_)
           all_goals first
             | (refine HL_r rfl rfl rfl rfl (R_strNe rfl rfl) ?_)
             | (refine HL_skip rfl rfl rfl ?_)
           all_goals first
             | (refine HL_r rfl rfl rfl rfl (R_pickT rfl rfl) ?_)
             | (refine HL_r rfl rfl rfl rfl (R_pickF rfl rfl) ?_)
           all_goals (refine HL_r rfl rfl rfl rfl (R_move rfl) ?_)
           all_goals first
             | (refine HL_skip rfl rfl rfl ?_)
             | (refine HL_case 92 rfl (fun hb49 => ?_) (fun hb49 => ?_) <;> (try simp only [Z1, Z2, Z3, Z4, Z5, Z6, Z7, Z8, Z9, Z10, Z11, Z12, Z13] at hb49) <;> first | (refine HL_r rfl rfl rfl rfl (R_move rfl) ?_) | (refine HL_skip rfl rfl rfl ?_))
           all_goals first
             | (refine HL_r rfl rfl rfl rfl (R_pure rfl rfl rfl) ?_)
             | (refine HL_skip rfl rfl rfl ?_)
           all_goals first
             | (refine HL_as (show _ = Value.bool true from bool_eq' (ieqT (hT (by assumption) (by assumption) (by assumption) (by assumption) (by assumption)).1)) ?_)
             | skip
           all_goals first
             | (refine HL_r rfl rfl rfl rfl (R_move rfl) ?_)
             | (refine HL_skip rfl rfl rfl ?_)
           all_goals first
             | (refine HL_r rfl rfl rfl rfl (R_move rfl) ?_)
             | (refine HL_skip rfl rfl rfl ?_)
           all_goals first
             | (refine HL_r rfl rfl rfl rfl (R_pure rfl rfl rfl) ?_)
             | (refine HL_skip rfl rfl rfl ?_)
           all_goals first
             | (refine HL_as (show _ = Value.bool true from bool_eq' (ieqT (hT (by assumption) (by assumption) (by assumption) (by assumption) (by assumption)).2.1)) ?_)
             | skip
           all_goals first
             | (refine HL_r rfl rfl rfl rfl (R_pickT rfl rfl) ?_)
             | (refine HL_skip rfl rfl rfl ?_)
           all_goals first
             | (refine HL_r rfl rfl rfl rfl (R_move rfl) ?_)
             | (refine HL_skip rfl rfl rfl ?_)
           all_goals first
             | (refine HL_r rfl rfl rfl rfl (R_move rfl) ?_)
             | (refine HL_skip rfl rfl rfl ?_)
           all_goals first
             | (refine HL_r rfl rfl rfl rfl (R_move rfl) ?_)
             | (refine HL_skip rfl rfl rfl ?_)
           all_goals first
             | (refine HL_r rfl rfl rfl rfl (R_strEq rfl rfl) ?_)
             | (refine HL_skip rfl rfl rfl ?_)
           all_goals first
             | (refine HL_r rfl rfl rfl rfl (R_pickT rfl rfl) ?_)
             | (refine HL_skip rfl rfl rfl ?_)
           all_goals first
             | (refine HL_r rfl rfl rfl rfl (R_pickT rfl rfl) ?_)
             | (refine HL_r rfl rfl rfl rfl (R_pickF rfl rfl) ?_)
           all_goals (refine HL_r rfl rfl rfl rfl (R_pickT rfl rfl) ?_)
           all_goals refine HL_r rfl rfl rfl rfl (R_assign rfl) ?_
           all_goals refine HL_nil ?_
           all_goals (
            refine HQ_then ?_; refine hK36 _ _ _ _ ?_; clear hK36 K36; refine HC_ret ?_; refine HQ_post rfl rfl (.cons (res_tmp rfl) .nil) (fun w1 hs1 => ?_)
            first
              | exact ⟨rfl, hs1.keep⟩
              | (exfalso; omega)
              | (have hh := hT (by assumption) (by assumption) (by assumption) (by assumption) (by assumption)
                 refine ⟨?_, hs1.keep⟩
                 rw [decide_eq_true (show (A, e).fst = (B, f).fst from hh.2.2)]; rfl)
            skip)
         skip)
        skip)
     skip)
end Go.Proofs.YtlcbfphioeppaaaGreatDoor
