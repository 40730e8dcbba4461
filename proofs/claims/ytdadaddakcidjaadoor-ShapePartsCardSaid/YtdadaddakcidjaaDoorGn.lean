import Derived.Test.YtdadaddakcidjaaDoorGm
namespace Go.Proofs.YtdadaddakcidjaaDoor
set_option linter.all false
open Go.SL Go.RowKit Go.Shelf
/-! a list of what is a type -/
theorem chkL_or {d : Int} : ∀ {l : List Ty}, (∀ x ∈ l, chk x d = 0 ∨ chk x d = 7) → chkL l d = 0 ∨ chkL l d = 7
  | [], _ => .inl (by rw [chkL])
  | x :: xs, h => by
    rw [chkL]
    split
    · exact chkL_or fun y hy => h y (by simp [hy])
    · exact h x (by simp)
theorem chk_in {k n : Int} {p : Pl} {ins : List Ty} {d : Int} (hk : 1 ≤ k ∧ k ≤ 8) (ho : okForm k n ins.length = true) : chk (.mk k n p ins) d = if 6 ≤ d then 7 else chkL ins (d + 1) := by
  rw [chk, if_neg (by omega), if_neg (by rw [ho]; simp)]
theorem chk_down (t : Ty) : ∀ d : Int, chk t (d + 1) = 0 → chk t d = 0 := by
  induction t using Ty.ind with
  | h k n p ins ih =>
    intro d h
    obtain ⟨hk, ho, h6, hi⟩ := chk_mk h
    rw [chk_in hk ho, if_neg (by omega)]
    exact chkL_all fun x hx => ih x hx (d + 1) (hi x hx)
theorem chk_up (t : Ty) : ∀ d : Int, chk t d = 0 → chk t (d + 1) = 0 ∨ chk t (d + 1) = 7 := by
  induction t using Ty.ind with
  | h k n p ins ih =>
    intro d h
    obtain ⟨hk, ho, h6, hi⟩ := chk_mk h
    rw [chk_in hk ho]
    split
    · exact .inr rfl
    · exact chkL_or fun x hx => ih x hx (d + 1) (hi x hx)
theorem chk_list {t : Ty} {m : Int} {p : Pl} (h1 : 1 ≤ m) (h2 : m ≤ 512) : chk (.mk 4 m p [t]) 0 = chk t 1 := by
  rw [chk_in (by decide) (by unfold okForm; simp [h1, h2]), if_neg (by decide), chkL, chkL]
  split
  · rename_i h; exact h.symm
  · rfl
theorem fits_list {t : Ty} {m : Int} {p : Pl} (h1 : 1 ≤ m) (h2 : m ≤ 512) : fitsT (.mk 4 m p [t]) zVl = chk t 1 := by
  rw [fitsT, chk_list h1 h2]
  split
  · rename_i h
    rw [h, zVl, fit_ok (by simp; omega) (by rfl), fitL]
  · rfl
theorem zVl_in {R : List (Nat × Obj)} : zVl.In R := in_num 0 (by decide)
def ltBlk (r : Nat) (t : Ty) : Nat × Obj := (r, .cells t.cells.toArray 24 (0, 0))
theorem in_list {R : List (Nat × Obj)} {t : Ty} {m : Int} {r : Nat} (ht : t.In R) (h1 : 1 ≤ m) (h2 : m ≤ 512) : (Ty.mk 4 m (some (⟨r, 0, none⟩, 1)) [t]).In (ltBlk r t :: R) :=
  .mk (iz 4) ⟨by omega, by omega⟩ (by simp) ⟨by simp, fun _ => ⟨rfl, _, _, _, List.mem_cons_self, by
    unfold tysC
    rw [List.flatMap_cons, List.flatMap_nil, List.append_nil]
    simp⟩⟩ (by
    intro x hx
    obtain rfl : x = t := by simpa using hx
    exact ht.mono fun q hq => List.mem_cons_of_mem _ hq)
set_option maxRecDepth 10000 in
theorem L_Deep {R : List (Nat × Obj)} {t : Ty} {z : Int} (ht : t.In R) (hz : (Lit.int .u16 z).wf = true) : PureR Tryd.prog 7 [t.val, .int .u16 z].toArray (.bool true) R := by
  have hz2 := Go.bounds_u16 hz
  have hm1 : 1 ≤ z % 512 + 1 := by omega
  have hm2 : z % 512 + 1 ≤ 512 := by omega
  have hf1 := S_Few ht zVl_in
  have s1 := S_Check ht
  have hin := fun r => in_list (r := r) ht hm1 hm2
  have hd := chk_down t 0
  have hup := chk_up t 0
  obtain ⟨e, he⟩ : ∃ e, e = chk t 0 := ⟨_, rfl⟩
  obtain ⟨f, hf⟩ : ∃ f, f = chk t 1 := ⟨_, rfl⟩
  rw [← he, show (0 : Int) + 1 = 1 from rfl, ← hf] at hd hup
  rw [← he] at s1
  obtain ⟨k, n, p, ins⟩ := t
  refine pureR_of_HC Tryd.func7 rfl rfl fun w => ?_
  refine HC_seq fun K1 hK1 => ?_
  refine HC_region ?_
  all_goals refine HL_box (cs := #[_, _, _]) rfl rfl rfl rfl fun r1 => ?_
  all_goals refine HL_r rfl rfl rfl rfl (R_assign rfl) ?_
  all_goals refine HL_nil ?_
  all_goals (
    refine HQ_then ?_
    refine hK1 _ _ _ _ ?_; clear hK1 K1
    refine HC_seq fun K2 hK2 => ?_
    refine HC_region ?_
    all_goals refine HL_callP rfl rfl rfl (enters_of Tryd.func8 (by kernel_rfl) rfl) S_works ?_
    all_goals refine HL_r rfl rfl rfl rfl (R_assign rfl) ?_
    all_goals refine HL_nil ?_
    all_goals (
      refine HQ_then ?_
      refine hK2 _ _ _ _ ?_; clear hK2 K2
      refine HC_seq fun K3 hK3 => ?_
      refine HC_seq fun K4 hK4 => ?_
      refine HC_region ?_
      all_goals refine HL_r rfl rfl rfl rfl (R_move rfl) ?_
      all_goals refine HL_r rfl rfl rfl rfl (R_pure rfl rfl rfl) ?_
      all_goals refine HL_nil ?_
      all_goals (
        refine HQ_then ?_
        refine hK4 _ _ _ _ ?_; clear hK4 K4
        refine HC_cond rfl (fun h5 => ?_) (fun h5 => ?_)
        · try exact Bool.noConfusion h5
          all_goals try simp only [decide_eq_true_eq, decide_eq_false_iff_not, beq_iff_eq, beq_eq_false_iff_ne, bne_iff_ne, bne_eq_false_iff_eq, Bool.not_eq_true', Bool.not_eq_false', ne_eq, Int.not_lt, Int.not_le, ge_iff_le, gt_iff_lt] at h5
          all_goals (
            refine HC_seq fun K6 hK6 => ?_
            refine HC_region ?_
            all_goals refine HL_r rfl rfl rfl rfl (R_assign rfl) ?_
            all_goals refine HL_nil ?_
            all_goals (
              refine HQ_then ?_
              refine hK6 _ _ _ _ ?_; clear hK6 K6
              refine HC_ret ?_
              refine HQ_thenR ?_; clear hK3 K3
              refine HQ_post rfl rfl (.cons (res_tmp rfl) .nil) (fun w1 hs1 => ?_)
              refine ⟨?_, hs1.keep⟩
              clear he hf hin s1 hf1 hs1 ht hz
              try simp_all [resVal]
              all_goals first | done | omega
              skip)
            skip)
        · try exact Bool.noConfusion h5
          all_goals try simp only [decide_eq_true_eq, decide_eq_false_iff_not, beq_iff_eq, beq_eq_false_iff_ne, bne_iff_ne, bne_eq_false_iff_eq, Bool.not_eq_true', Bool.not_eq_false', ne_eq, Int.not_lt, Int.not_le, ge_iff_le, gt_iff_lt] at h5
          all_goals (
            refine HC_skip ?_
            refine HQ_then ?_
            refine hK3 _ _ _ _ ?_; clear hK3 K3
            refine HC_seq fun K7 hK7 => ?_
            refine HC_region ?_
            all_goals (refine HL_r rfl rfl rfl rfl (R_loadA (vs := [_, _, _]) rfl (known_L (k := 0) rfl) rfl rfl rfl rfl) ?_)
            all_goals refine HL_r rfl rfl rfl rfl (R_build (r := [_, _, _, _, _, _, _]) rfl rfl) ?_
            all_goals refine HL_callR rfl rfl rfl (enters_of Tryd.func9 (by kernel_rfl) rfl) hf1 (fun q hq => Or.inr hq) ?_
            all_goals refine HL_r rfl rfl rfl rfl (R_assign rfl) ?_
            all_goals refine HL_nil ?_
            all_goals (
              refine HQ_then ?_
              refine hK7 _ _ _ _ ?_; clear hK7 K7
              refine HC_seq fun K8 hK8 => ?_
              refine HC_seq fun K9 hK9 => ?_
              refine HC_region ?_
              all_goals refine HL_r rfl rfl rfl rfl (R_move rfl) ?_
              all_goals refine HL_r rfl rfl rfl rfl (R_pure rfl rfl rfl) ?_
              all_goals refine HL_nil ?_
              all_goals (
                refine HQ_then ?_
                refine hK9 _ _ _ _ ?_; clear hK9 K9
                refine HC_cond rfl (fun h10 => ?_) (fun h10 => ?_)
                · try exact Bool.noConfusion h10
                  all_goals try simp only [decide_eq_true_eq, decide_eq_false_iff_not, beq_iff_eq, beq_eq_false_iff_ne, bne_iff_ne, bne_eq_false_iff_eq, Bool.not_eq_true', Bool.not_eq_false', ne_eq, Int.not_lt, Int.not_le, ge_iff_le, gt_iff_lt] at h10
                  all_goals (
                    refine HC_seq fun K11 hK11 => ?_
                    refine HC_region ?_
                    all_goals refine HL_r rfl rfl rfl rfl (R_move rfl) ?_
                    all_goals refine HL_r rfl rfl rfl rfl (R_assign rfl) ?_
                    all_goals refine HL_nil ?_
                    all_goals (
                      refine HQ_then ?_
                      refine hK11 _ _ _ _ ?_; clear hK11 K11
                      refine HC_ret ?_
                      refine HQ_thenR ?_; clear hK8 K8
                      refine HQ_post rfl rfl (.cons (res_tmp rfl) .nil) (fun w1 hs1 => ?_)
                      refine ⟨?_, hs1.keep⟩
                      clear he hf hin s1 hf1 hs1 ht hz
                      try simp_all [resVal]
                      all_goals first | done | omega
                      skip)
                    skip)
                · try exact Bool.noConfusion h10
                  all_goals try simp only [decide_eq_true_eq, decide_eq_false_iff_not, beq_iff_eq, beq_eq_false_iff_ne, bne_iff_ne, bne_eq_false_iff_eq, Bool.not_eq_true', Bool.not_eq_false', ne_eq, Int.not_lt, Int.not_le, ge_iff_le, gt_iff_lt] at h10
                  all_goals (
                    refine HC_skip ?_
                    refine HQ_then ?_
                    refine hK8 _ _ _ _ ?_; clear hK8 K8
                    refine HC_seq fun K12 hK12 => ?_
                    refine HC_region ?_
                    all_goals refine HL_r rfl rfl rfl rfl (R_move rfl) ?_
                    all_goals (refine HL_r rfl rfl rfl rfl (R_pure rfl rfl rfl) ?_; refine HL_wrap_i64 (by omega) (by omega) ?_)
                    all_goals (refine HL_r rfl rfl rfl rfl (R_pure rfl rfl rfl) ?_; refine HL_rem (by omega) ?_)
                    all_goals (refine HL_r rfl rfl rfl rfl (R_pure rfl rfl rfl) ?_; refine HL_wrap_i64 (by omega) (by omega) ?_)
                    all_goals (refine HL_r rfl rfl rfl rfl (R_loadA (vs := [_, _, _]) rfl (known_L (k := 0) rfl) rfl rfl rfl rfl) ?_)
                    all_goals refine HL_buildSlice (vs := [_]) (zs := [_, _, _]) (r := [_, _, _]) rfl rfl rfl rfl rfl rfl rfl rfl rfl (by rw [made_list]; exact rfl) rfl fun r2 => ?_
                    all_goals refine HL_r rfl rfl rfl rfl (R_build (r := [_, _, _]) rfl rfl) ?_
                    all_goals refine HL_alloc (cs := #[_, _, _]) rfl rfl rfl rfl fun r3 => ?_
                    all_goals (refine HL_storeA (k := 0) (n := 3) (cs' := #[_, _, _]) (vs := #[_, _, _]) rfl rfl rfl rfl rfl rfl rfl (by exact Nat.le_of_ble_eq_true rfl) rfl (by first | (simp only [List.set_cons_zero, List.set_cons_succ]; exact rfl) | exact rfl) ?_)
                    all_goals refine HL_nil ?_
                    all_goals (
                      refine HQ_then ?_
                      refine hK12 _ _ _ _ ?_; clear hK12 K12
                      refine HC_seq fun K13 hK13 => ?_
                      refine HC_region ?_
                      all_goals (refine HL_r rfl rfl rfl rfl (R_loadA (vs := [_, _, _]) rfl (known_L (k := 2) rfl) rfl rfl rfl rfl) ?_)
                      all_goals refine HL_callR rfl rfl rfl (enters_of Tryd.func14 (by kernel_rfl) rfl) s1 (fun q hq => Or.inr hq) ?_
                      all_goals refine HL_r rfl rfl rfl rfl (R_assign rfl) ?_
                      all_goals refine HL_nil ?_
                      all_goals (
                        refine HQ_then ?_
                        refine hK13 _ _ _ _ ?_; clear hK13 K13
                        refine HC_seq fun K14 hK14 => ?_
                        refine HC_region ?_
                        all_goals (refine HL_r rfl rfl rfl rfl (R_loadA (vs := [_, _, _]) rfl (known_L (k := 0) rfl) rfl rfl rfl rfl) ?_)
                        all_goals refine HL_callR rfl rfl rfl (enters_of Tryd.func14 (by kernel_rfl) rfl) (S_Check (hin r2)) (fun q hq => by rcases List.mem_cons.1 hq with rfl | hq; exact .inl (List.mem_cons_of_mem _ (mem_nth (n := 0) rfl)); exact .inr hq) ?_; refine HL_as (congrArg (Value.int .i64) ((chk_list hm1 hm2).trans hf.symm)) ?_
                        all_goals refine HL_r rfl rfl rfl rfl (R_assign rfl) ?_
                        all_goals refine HL_nil ?_
                        all_goals (
                          refine HQ_then ?_
                          refine hK14 _ _ _ _ ?_; clear hK14 K14
                          refine HC_seq fun K15 hK15 => ?_
                          refine HC_region ?_
                          all_goals refine HL_r rfl rfl rfl rfl (R_move rfl) ?_
                          all_goals refine HL_r rfl rfl rfl rfl (R_move rfl) ?_
                          all_goals (refine HL_r rfl rfl rfl rfl (R_move rfl) ?_)
                          all_goals (refine HL_r rfl rfl rfl rfl (R_pure rfl rfl rfl) ?_)
                          all_goals (refine HL_r rfl rfl rfl rfl (R_move rfl) ?_)
                          all_goals (refine HL_case 34 rfl (fun hb19 => ?_) (fun hb19 => ?_) <;> (try simp only [decide_eq_true_eq, decide_eq_false_iff_not, beq_iff_eq, beq_eq_false_iff_ne, bne_iff_ne, bne_eq_false_iff_eq, Bool.not_eq_true', Bool.not_eq_false', ne_eq, Int.not_lt, Int.not_le, ge_iff_le, gt_iff_lt] at hb19) <;> first | (refine HL_r rfl rfl rfl rfl (R_move rfl) ?_) | (refine HL_skip rfl rfl rfl ?_))
                          all_goals first
                            | (refine HL_r rfl rfl rfl rfl (R_pure rfl rfl rfl) ?_)
                            | (refine HL_skip rfl rfl rfl ?_)
                          all_goals first
                            | (refine HL_r rfl rfl rfl rfl (R_pickT rfl rfl) ?_)
                            | (refine HL_r rfl rfl rfl rfl (R_pickF rfl rfl) ?_)
                          all_goals (refine HL_r rfl rfl rfl rfl (R_pickT rfl rfl) ?_)
                          all_goals refine HL_r rfl rfl rfl rfl (R_move rfl) ?_
                          all_goals first
                            | (refine HL_r rfl rfl rfl rfl (R_move rfl) ?_)
                            | (refine HL_case 39 rfl (fun hb22 => ?_) (fun hb22 => ?_) <;> (try simp only [decide_eq_true_eq, decide_eq_false_iff_not, beq_iff_eq, beq_eq_false_iff_ne, bne_iff_ne, bne_eq_false_iff_eq, Bool.not_eq_true', Bool.not_eq_false', ne_eq, Int.not_lt, Int.not_le, ge_iff_le, gt_iff_lt] at hb22) <;> first | (refine HL_r rfl rfl rfl rfl (R_move rfl) ?_) | (refine HL_skip rfl rfl rfl ?_))
                          all_goals first
                            | (refine HL_r rfl rfl rfl rfl (R_pure rfl rfl rfl) ?_)
                            | (refine HL_skip rfl rfl rfl ?_)
                          all_goals first
                            | (refine HL_r rfl rfl rfl rfl (R_move rfl) ?_)
                            | (refine HL_skip rfl rfl rfl ?_)
                          all_goals first
                            | (refine HL_skip rfl rfl rfl ?_)
                            | (refine HL_case 42 rfl (fun hb25 => ?_) (fun hb25 => ?_) <;> (try simp only [decide_eq_true_eq, decide_eq_false_iff_not, beq_iff_eq, beq_eq_false_iff_ne, bne_iff_ne, bne_eq_false_iff_eq, Bool.not_eq_true', Bool.not_eq_false', ne_eq, Int.not_lt, Int.not_le, ge_iff_le, gt_iff_lt] at hb25) <;> first | (refine HL_r rfl rfl rfl rfl (R_move rfl) ?_) | (refine HL_skip rfl rfl rfl ?_))
                          all_goals first
                            | (refine HL_r rfl rfl rfl rfl (R_pure rfl rfl rfl) ?_)
                            | (refine HL_skip rfl rfl rfl ?_)
                          all_goals first
                            | (refine HL_r rfl rfl rfl rfl (R_pickT rfl rfl) ?_)
                            | (refine HL_r rfl rfl rfl rfl (R_pickF rfl rfl) ?_)
                            | (refine HL_skip rfl rfl rfl ?_)
                          all_goals first
                            | (refine HL_r rfl rfl rfl rfl (R_move rfl) ?_)
                            | (refine HL_skip rfl rfl rfl ?_)
                          all_goals first
                            | (refine HL_skip rfl rfl rfl ?_)
                            | (refine HL_case 46 rfl (fun hb29 => ?_) (fun hb29 => ?_) <;> (try simp only [decide_eq_true_eq, decide_eq_false_iff_not, beq_iff_eq, beq_eq_false_iff_ne, bne_iff_ne, bne_eq_false_iff_eq, Bool.not_eq_true', Bool.not_eq_false', ne_eq, Int.not_lt, Int.not_le, ge_iff_le, gt_iff_lt] at hb29) <;> first | (refine HL_r rfl rfl rfl rfl (R_move rfl) ?_) | (refine HL_skip rfl rfl rfl ?_))
                          all_goals first
                            | (refine HL_r rfl rfl rfl rfl (R_pure rfl rfl rfl) ?_)
                            | (refine HL_skip rfl rfl rfl ?_)
                          all_goals first
                            | (refine HL_r rfl rfl rfl rfl (R_pickT rfl rfl) ?_)
                            | (refine HL_r rfl rfl rfl rfl (R_pickF rfl rfl) ?_)
                            | (refine HL_skip rfl rfl rfl ?_)
                          all_goals first
                            | (refine HL_r rfl rfl rfl rfl (R_pickT rfl rfl) ?_)
                            | (refine HL_r rfl rfl rfl rfl (R_pickF rfl rfl) ?_)
                          all_goals refine HL_r rfl rfl rfl rfl (R_move rfl) ?_
                          all_goals first
                            | (refine HL_r rfl rfl rfl rfl (R_loadA (vs := [_, _, _]) rfl (known_L (k := 0) rfl) rfl rfl rfl rfl) ?_)
                            | (refine HL_skip rfl rfl rfl ?_)
                            | (refine HL_case 51 rfl (fun hb32 => ?_) (fun hb32 => ?_) <;> (try simp only [decide_eq_true_eq, decide_eq_false_iff_not, beq_iff_eq, beq_eq_false_iff_ne, bne_iff_ne, bne_eq_false_iff_eq, Bool.not_eq_true', Bool.not_eq_false', ne_eq, Int.not_lt, Int.not_le, ge_iff_le, gt_iff_lt] at hb32) <;> first | (refine HL_r rfl rfl rfl rfl (R_loadA (vs := [_, _, _]) rfl (known_L (k := 0) rfl) rfl rfl rfl rfl) ?_) | (refine HL_r rfl rfl rfl rfl (R_loadA (vs := [_, _, _]) rfl (known_L (k := 1) rfl) rfl rfl rfl rfl) ?_) | (refine HL_r rfl rfl rfl rfl (R_loadA (vs := [_, _, _]) rfl (known_L (k := 2) rfl) rfl rfl rfl rfl) ?_) | (refine HL_skip rfl rfl rfl ?_))
                          all_goals first
                            | (refine HL_r rfl rfl rfl rfl (R_build (r := [_, _, _, _, _, _, _]) rfl rfl) ?_)
                            | (refine HL_skip rfl rfl rfl ?_)
                          all_goals first
                            | (refine HL_callR rfl rfl rfl (enters_of Tryd.func19 (by kernel_rfl) rfl) (S_Fits (hin r2) zVl_in) (fun q hq => by rcases List.mem_cons.1 hq with rfl | hq; exact .inl (List.mem_cons_of_mem _ (mem_nth (n := 0) rfl)); exact .inr hq) ?_; refine HL_as (congrArg (Value.int .i64) ((fits_list hm1 hm2).trans hf.symm)) ?_)
                            | (refine HL_skip rfl rfl rfl ?_)
                          all_goals first
                            | (refine HL_r rfl rfl rfl rfl (R_move rfl) ?_)
                            | (refine HL_skip rfl rfl rfl ?_)
                          all_goals first
                            | (refine HL_r rfl rfl rfl rfl (R_pure rfl rfl rfl) ?_)
                            | (refine HL_skip rfl rfl rfl ?_)
                          all_goals first | (refine HL_as (congrArg Value.bool (beq_self_eq_true _)) ?_) | skip
                          all_goals first
                            | (refine HL_r rfl rfl rfl rfl (R_pickT rfl rfl) ?_)
                            | (refine HL_r rfl rfl rfl rfl (R_pickF rfl rfl) ?_)
                          all_goals refine HL_r rfl rfl rfl rfl (R_assign rfl) ?_
                          all_goals refine HL_nil ?_
                          all_goals (
                            refine HQ_then ?_
                            refine hK15 _ _ _ _ ?_; clear hK15 K15
                            refine HC_ret ?_
                            refine HQ_post rfl rfl (.cons (res_tmp rfl) .nil) (fun w1 hs1 => ?_)
                            refine ⟨?_, hs1.keep⟩
                            clear he hf hin s1 hf1 hs1 ht hz
                            try simp_all [resVal]
                            all_goals first | done | omega
                            skip)
                          skip)
                        skip)
                      skip)
                    skip)
                skip)
              skip)
            skip)
        skip)
      skip)
    skip)
/-! the parts of what is fixed -/
def sumS : List Ty → Int
  | [] => 0
  | x :: xs => sizeT x + sumS xs
theorem size_le {t : Ty} (hc : chk t 0 = 0) : 0 ≤ sizeT t ∧ sizeT t ≤ 2251799813685248 := by
  unfold sizeT
  split
  · rename_i h
    have := siz_le t 0 (by omega) hc (isFix_iff.1 h).2
    have h5 := bnd_le (show (5 - (0 : Int)).toNat ≤ 5 by decide)
    omega
  · omega
theorem isFix_of {t : Ty} (hc : chk t 0 = 0) : isFix t = fixT t := by unfold isFix; rw [hc]; simp
theorem sum_le {l : List Ty} (h : ∀ x ∈ l, chk x 0 = 0) : 0 ≤ sumS l ∧ sumS l ≤ l.length * 2251799813685248 := by
  induction l with
  | nil => simp [sumS]
  | cons x xs ih =>
    have h1 := size_le (h x (by simp))
    have h2 := ih fun y hy => h y (by simp [hy])
    rw [sumS, List.length_cons]
    omega
theorem sum_fix {l : List Ty} (h : ∀ x ∈ l, chk x 0 = 0) (hf : fixL l = true) : sumS l = sizL l := by
  induction l with
  | nil => rfl
  | cons x xs ih =>
    rw [fixL, Bool.and_eq_true] at hf
    rw [sumS, sizL, ih (fun y hy => h y (by simp [hy])) hf.2, sizeT, isFix_of (h x (by simp)), hf.1, if_pos rfl]
theorem all_fix {l : List Ty} (h : ∀ x ∈ l, chk x 0 = 0) : l.all isFix = fixL l := by
  induction l with
  | nil => rfl
  | cons x xs ih => rw [List.all_cons, ih fun y hy => h y (by simp [hy]), fixL, isFix_of (h x (by simp))]
theorem fix_not {t : Ty} (h : isFix t = false) : sizeT t = 0 := by unfold sizeT; rw [h]; rfl
theorem chk_not {t : Ty} (h : chk t 0 ≠ 0) : isFix t = false := by unfold isFix; simp [h]
theorem fixT_mk {k n : Int} {p : Pl} {ins : List Ty} : fixT (.mk k n p ins) = (!(decide (k = 4) || decide (k = 6) || decide (k = 8)) && fixL ins) := by rw [fixT]
/-- What a type that is fixed comes to. -/
theorem fixed_sum {k n : Int} {p : Pl} {ins : List Ty} (hc : chk (.mk k n p ins) 0 = 0) (hne : (k ≠ 4 ∧ k ≠ 6) ∧ k ≠ 8) (hf : fixL ins = true) :
    isFix (.mk k n p ins) = true ∧ 1 ≤ sizeT (.mk k n p ins) ∧ (k = 3 → sizeT (.mk k n p ins) = sizL ins * n ∧ 0 ≤ sizL ins * n ∧ sizL ins * n ≤ 2251799813685248) ∧ (k ≠ 3 → ins.length ≠ 0 → sizeT (.mk k n p ins) = sizL ins) := by
  have hfx : fixT (.mk k n p ins) = true := by rw [fixT_mk, hf]; simp [hne]
  have hfi : isFix (.mk k n p ins) = true := by rw [isFix_of hc]; exact hfx
  have hsz : sizeT (.mk k n p ins) = sizT (.mk k n p ins) := by unfold sizeT; rw [hfi]; rfl
  have h1 := siz_le _ 0 (by omega) hc hfx
  obtain ⟨_, _, h3⟩ := sizL_le2 (by omega) hc hfx
  refine ⟨hfi, by rw [hsz]; exact h1.1, fun h => ?_, fun hk3 hl => ?_⟩
  · subst h
    have := h3 rfl
    rw [hsz, sizT, if_neg (by decide), if_neg (by decide), if_neg (by decide), if_pos rfl, Int.mul_comm (sizL ins)]
    exact ⟨rfl, this⟩
  · obtain ⟨hk, ho, _, _⟩ := chk_mk hc
    unfold okForm at ho
    have h9 : k = 1 ∨ k = 2 ∨ k = 5 ∨ k = 7 := by omega
    have hl2 : ins ≠ [] := fun h => hl (by rw [h]; rfl)
    rcases h9 with rfl | rfl | rfl | rfl <;> simp [hl2] at ho
    rw [hsz, sizT, if_neg (by decide), if_neg (by decide), if_neg (by decide), if_neg (by decide)]
set_option maxRecDepth 10000 in
theorem L_Fixed {R : List (Nat × Obj)} {t : Ty} (ht : t.In R) : PureR Tryd.prog 6 [t.val].toArray (.bool true) R := by
  have hf1 := S_Few ht zVl_in
  have s1 := S_Check ht
  have s2 := S_Fixed ht
  have s3 := S_Size ht
  have hin0 := ht
  cases ht with
  | @mk k n p ins hk hn hl hs hi =>
  have hsm : isFix (.mk k n p ins) = false → sizeT (.mk k n p ins) = 0 := fix_not
  have hcn : chk (.mk k n p ins) 0 ≠ 0 → isFix (.mk k n p ins) = false := chk_not
  have hall := fun (hc : chk (.mk k n p ins) 0 = 0) x hx => chk_down x 0 ((chk_mk hc).2.2.2 x hx)
  have hlen : chk (.mk k n p ins) 0 = 0 → ins.length ≤ 16 := fun hc => by
    obtain ⟨hk, ho, _, _⟩ := chk_mk hc
    unfold okForm at ho
    have h9 : k = 1 ∨ k = 2 ∨ k = 3 ∨ k = 4 ∨ k = 5 ∨ k = 6 ∨ k = 7 ∨ k = 8 := by omega
    rcases h9 with rfl | rfl | rfl | rfl | rfl | rfl | rfl | rfl <;> simp at ho <;> (try simp [ho]) <;> omega
  refine pureR_of_HC Tryd.func6 rfl rfl fun w => ?_
  refine HC_seq fun K1 hK1 => ?_
  refine HC_region ?_
  all_goals refine HL_box (cs := #[_, _, _]) rfl rfl rfl rfl fun r1 => ?_
  all_goals refine HL_r rfl rfl rfl rfl (R_assign rfl) ?_
  all_goals refine HL_nil ?_
  all_goals (
    refine HQ_then ?_
    refine hK1 _ _ _ _ ?_; clear hK1 K1
    refine HC_seq fun K2 hK2 => ?_
    refine HC_region ?_
    all_goals refine HL_callP rfl rfl rfl (enters_of Tryd.func8 (by kernel_rfl) rfl) S_works ?_
    all_goals refine HL_r rfl rfl rfl rfl (R_assign rfl) ?_
    all_goals refine HL_nil ?_
    all_goals (
      refine HQ_then ?_
      refine hK2 _ _ _ _ ?_; clear hK2 K2
      refine HC_seq fun K3 hK3 => ?_
      refine HC_seq fun K4 hK4 => ?_
      refine HC_region ?_
      all_goals refine HL_r rfl rfl rfl rfl (R_move rfl) ?_
      all_goals refine HL_r rfl rfl rfl rfl (R_pure rfl rfl rfl) ?_
      all_goals refine HL_nil ?_
      all_goals (
        refine HQ_then ?_
        refine hK4 _ _ _ _ ?_; clear hK4 K4
        refine HC_cond rfl (fun h5 => ?_) (fun h5 => ?_)
        · try exact Bool.noConfusion h5
          all_goals try simp only [decide_eq_true_eq, decide_eq_false_iff_not, beq_iff_eq, beq_eq_false_iff_ne, bne_iff_ne, bne_eq_false_iff_eq, Bool.not_eq_true', Bool.not_eq_false', ne_eq, Int.not_lt, Int.not_le, ge_iff_le, gt_iff_lt] at h5
          all_goals (
            refine HC_seq fun K6 hK6 => ?_
            refine HC_region ?_
            all_goals refine HL_r rfl rfl rfl rfl (R_assign rfl) ?_
            all_goals refine HL_nil ?_
            all_goals (
              refine HQ_then ?_
              refine hK6 _ _ _ _ ?_; clear hK6 K6
              refine HC_ret ?_
              refine HQ_thenR ?_; clear hK3 K3
              refine HQ_post rfl rfl (.cons (res_tmp rfl) .nil) (fun w1 hs1 => ?_)
              refine ⟨?_, hs1.keep⟩
              simp only [resVal]
              try simp_all
              all_goals first | done | omega
              skip)
            skip)
        · try exact Bool.noConfusion h5
          all_goals try simp only [decide_eq_true_eq, decide_eq_false_iff_not, beq_iff_eq, beq_eq_false_iff_ne, bne_iff_ne, bne_eq_false_iff_eq, Bool.not_eq_true', Bool.not_eq_false', ne_eq, Int.not_lt, Int.not_le, ge_iff_le, gt_iff_lt] at h5
          all_goals (
            refine HC_skip ?_
            refine HQ_then ?_
            refine hK3 _ _ _ _ ?_; clear hK3 K3
            refine HC_seq fun K7 hK7 => ?_
            refine HC_region ?_
            all_goals refine HL_r rfl rfl rfl rfl (R_loadA (vs := [_, _, _]) rfl (known_L (k := 0) rfl) rfl rfl rfl rfl) ?_
            all_goals refine HL_r rfl rfl rfl rfl (R_build (r := [_, _, _, _, _, _, _]) rfl rfl) ?_
            all_goals refine HL_callR rfl rfl rfl (enters_of Tryd.func9 (by kernel_rfl) rfl) hf1 (fun q hq => Or.inr hq) ?_
            all_goals refine HL_r rfl rfl rfl rfl (R_assign rfl) ?_
            all_goals refine HL_nil ?_
            all_goals (
              refine HQ_then ?_
              refine hK7 _ _ _ _ ?_; clear hK7 K7
              refine HC_seq fun K8 hK8 => ?_
              refine HC_seq fun K9 hK9 => ?_
              refine HC_region ?_
              all_goals refine HL_r rfl rfl rfl rfl (R_move rfl) ?_
              all_goals refine HL_r rfl rfl rfl rfl (R_pure rfl rfl rfl) ?_
              all_goals refine HL_r rfl rfl rfl rfl (R_move rfl) ?_
              all_goals (refine HL_case 16 rfl (fun hb10 => ?_) (fun hb10 => ?_) <;> (try simp only [decide_eq_true_eq, decide_eq_false_iff_not, beq_iff_eq, beq_eq_false_iff_ne, bne_iff_ne, bne_eq_false_iff_eq, Bool.not_eq_true', Bool.not_eq_false', ne_eq, Int.not_lt, Int.not_le, ge_iff_le, gt_iff_lt] at hb10) <;> first | (refine HL_r rfl rfl rfl rfl (R_loadA (vs := [_, _, _]) rfl (known_L (k := 0) rfl) rfl rfl rfl rfl) ?_) | (refine HL_skip rfl rfl rfl ?_))
              all_goals first
                | (refine HL_callR rfl rfl rfl (enters_of Tryd.func14 (by kernel_rfl) rfl) s1 (fun q hq => Or.inr hq) ?_)
                | (refine HL_skip rfl rfl rfl ?_)
              all_goals first
                | (refine HL_r rfl rfl rfl rfl (R_pure rfl rfl rfl) ?_)
                | (refine HL_skip rfl rfl rfl ?_)
              all_goals first
                | (refine HL_r rfl rfl rfl rfl (R_pickT rfl rfl) ?_)
                | (refine HL_r rfl rfl rfl rfl (R_pickF rfl rfl) ?_)
              all_goals refine HL_nil ?_
              all_goals (
                refine HQ_then ?_
                refine hK9 _ _ _ _ ?_; clear hK9 K9
                refine HC_cond rfl (fun h13 => ?_) (fun h13 => ?_)
                · try exact Bool.noConfusion h13
                  all_goals try simp only [decide_eq_true_eq, decide_eq_false_iff_not, beq_iff_eq, beq_eq_false_iff_ne, bne_iff_ne, bne_eq_false_iff_eq, Bool.not_eq_true', Bool.not_eq_false', ne_eq, Int.not_lt, Int.not_le, ge_iff_le, gt_iff_lt] at h13
                  all_goals (
                    refine HC_seq fun K14 hK14 => ?_
                    refine HC_region ?_
                    all_goals refine HL_r rfl rfl rfl rfl (R_move rfl) ?_
                    all_goals refine HL_r rfl rfl rfl rfl (R_move rfl) ?_
                    all_goals (refine HL_r rfl rfl rfl rfl (R_move rfl) ?_)
                    all_goals (refine HL_r rfl rfl rfl rfl (R_pure rfl rfl rfl) ?_)
                    all_goals (refine HL_r rfl rfl rfl rfl (R_move rfl) ?_)
                    all_goals (refine HL_case 25 rfl (fun hb18 => ?_) (fun hb18 => ?_) <;> (try simp only [decide_eq_true_eq, decide_eq_false_iff_not, beq_iff_eq, beq_eq_false_iff_ne, bne_iff_ne, bne_eq_false_iff_eq, Bool.not_eq_true', Bool.not_eq_false', ne_eq, Int.not_lt, Int.not_le, ge_iff_le, gt_iff_lt] at hb18) <;> first | (refine HL_r rfl rfl rfl rfl (R_loadA (vs := [_, _, _]) rfl (known_L (k := 0) rfl) rfl rfl rfl rfl) ?_) | (refine HL_skip rfl rfl rfl ?_))
                    all_goals first
                      | (refine HL_callR rfl rfl rfl (enters_of Tryd.func15 (by kernel_rfl) rfl) s2 (fun q hq => Or.inr hq) ?_)
                      | (refine HL_skip rfl rfl rfl ?_)
                    all_goals first
                      | (refine HL_r rfl rfl rfl rfl (R_pure rfl rfl rfl) ?_)
                      | (refine HL_skip rfl rfl rfl ?_)
                    all_goals first
                      | (refine HL_r rfl rfl rfl rfl (R_move rfl) ?_)
                      | (refine HL_skip rfl rfl rfl ?_)
                    all_goals first
                      | (refine HL_skip rfl rfl rfl ?_)
                      | (refine HL_case 29 rfl (fun hb22 => ?_) (fun hb22 => ?_) <;> (try simp only [decide_eq_true_eq, decide_eq_false_iff_not, beq_iff_eq, beq_eq_false_iff_ne, bne_iff_ne, bne_eq_false_iff_eq, Bool.not_eq_true', Bool.not_eq_false', ne_eq, Int.not_lt, Int.not_le, ge_iff_le, gt_iff_lt] at hb22) <;> first | (refine HL_r rfl rfl rfl rfl (R_loadA (vs := [_, _, _]) rfl (known_L (k := 0) rfl) rfl rfl rfl rfl) ?_) | (refine HL_skip rfl rfl rfl ?_))
                    all_goals first
                      | (refine HL_callR rfl rfl rfl (enters_of Tryd.func16 (by kernel_rfl) rfl) s3 (fun q hq => Or.inr hq) ?_)
                      | (refine HL_skip rfl rfl rfl ?_)
                    all_goals first
                      | (refine HL_r rfl rfl rfl rfl (R_pure rfl rfl rfl) ?_)
                      | (refine HL_skip rfl rfl rfl ?_)
                    all_goals first
                      | (refine HL_r rfl rfl rfl rfl (R_pickT rfl rfl) ?_)
                      | (refine HL_r rfl rfl rfl rfl (R_pickF rfl rfl) ?_)
                      | (refine HL_skip rfl rfl rfl ?_)
                    all_goals first
                      | (refine HL_r rfl rfl rfl rfl (R_pickT rfl rfl) ?_)
                      | (refine HL_r rfl rfl rfl rfl (R_pickF rfl rfl) ?_)
                    all_goals (refine HL_r rfl rfl rfl rfl (R_pickT rfl rfl) ?_)
                    all_goals refine HL_r rfl rfl rfl rfl (R_assign rfl) ?_
                    all_goals refine HL_nil ?_
                    all_goals (
                      refine HQ_then ?_
                      refine hK14 _ _ _ _ ?_; clear hK14 K14
                      refine HC_ret ?_
                      refine HQ_thenR ?_; clear hK8 K8
                      refine HQ_post rfl rfl (.cons (res_tmp rfl) .nil) (fun w1 hs1 => ?_)
                      refine ⟨?_, hs1.keep⟩
                      simp only [resVal]
                      try simp_all
                      all_goals first | done | omega
                      skip)
                    skip)
                · try exact Bool.noConfusion h13
                  all_goals try simp only [decide_eq_true_eq, decide_eq_false_iff_not, beq_iff_eq, beq_eq_false_iff_ne, bne_iff_ne, bne_eq_false_iff_eq, Bool.not_eq_true', Bool.not_eq_false', ne_eq, Int.not_lt, Int.not_le, ge_iff_le, gt_iff_lt] at h13
                  all_goals (
                    refine HC_skip ?_
                    refine HQ_then ?_
                    refine hK8 _ _ _ _ ?_; clear hK8 K8
                    refine HC_seq fun K27 hK27 => ?_
                    have hc : chk (.mk k n p ins) 0 = 0 := by assumption
                    have hch := hall hc
                    have hl16 := hlen hc
                    have hfx : isFix (.mk k n p ins) = (!(decide (k = 4) || decide (k = 6) || decide (k = 8)) && fixL ins) := by rw [isFix_of hc, fixT_mk]
                    refine HC_region ?_
                    all_goals refine HL_r rfl rfl rfl rfl (R_assign rfl) ?_
                    all_goals refine HL_nil ?_
                    all_goals (
                      refine HQ_then ?_
                      refine hK27 _ _ _ _ ?_; clear hK27 K27
                      refine HC_seq fun K28 hK28 => ?_
                      refine HC_region ?_
                      all_goals refine HL_r rfl rfl rfl rfl (R_assign rfl) ?_
                      all_goals refine HL_nil ?_
                      all_goals (
                        refine HQ_then ?_
                        refine hK28 _ _ _ _ ?_; clear hK28 K28
                        refine HC_seq fun K29 hK29 => ?_
                        refine HC_seq fun K30 hK30 => ?_
                        refine HC_region ?_
                        all_goals refine HL_r rfl rfl rfl rfl (R_assign rfl) ?_
                        all_goals refine HL_nil ?_
                        all_goals (
                          refine HQ_then ?_
                          refine hK30 _ _ _ _ ?_; clear hK30 K30
                          refine HC_block ?_
                          have hsb := sum_le (l := ins) hch
                          refine HC_loop (σ := Nat × Int × Bool) (fun s => s.1 ≤ ins.length ∧ 0 ≤ s.2.1 ∧ s.2.1 + sumS (ins.drop s.1) = sumS ins ∧ (s.2.2 && (ins.drop s.1).all isFix) = ins.all isFix) (fun s => [(1, .pointer (some ⟨r1, 0, none⟩)), (3, .bool true), (5, .int .i64 s.2.1), (6, .bool s.2.2), (7, .int .i64 (s.1 : Int))]) (fun _ => [(r1, .cells #[.int .i64 k, .int .i64 n, plV ins.length p] 24 (0, 0))]) (fun _ _ _ => True) (fun s => ins.length - s.1) (0, 0, true) ⟨by omega, by simp only; omega, by simp, by simp⟩ (.cons rfl (.cons rfl (.cons rfl (.cons rfl (.cons rfl .nil))))) (List.Sublist.refl _) (fun _ _ h => h) ?_
                          rintro ⟨i, m, b⟩ ⟨hi1, hm0, hinv, hinb⟩
                          simp only at hinv hi1 hm0 hinb
                          change HC _ _ [(1, _), (3, _), (5, .int .i64 m), (6, .bool b), (7, .int .i64 (i : Int))] _ _ _ _
                          refine HC_seq fun K31 hK31 => ?_
                          refine HC_seq fun K32 hK32 => ?_
                          refine HC_region ?_
                          all_goals refine HL_r rfl rfl rfl rfl (R_move rfl) ?_
                          all_goals refine HL_r rfl rfl rfl rfl (R_fieldAddr rfl rfl (by first | (simp only [Nat.zero_add, Nat.reduceAdd, Nat.reduceMul, Nat.zero_mul, Nat.mul_one, Nat.add_zero]; exact rfl) | exact rfl)) ?_
                          all_goals refine HL_r rfl rfl rfl rfl (R_load rfl (known_L (k := 0) rfl) rfl rfl) ?_
                          all_goals (refine HL_r rfl rfl rfl rfl (R_lenPl rfl hs rfl) ?_)
                          all_goals refine HL_r rfl rfl rfl rfl (R_pure rfl rfl rfl) ?_
                          all_goals refine HL_nil ?_
                          all_goals (
                            refine HQ_then ?_
                            refine hK32 _ _ _ _ ?_; clear hK32 K32
                            refine HC_cond rfl (fun h33 => ?_) (fun h33 => ?_)
                            · try exact Bool.noConfusion h33
                              all_goals try simp only [decide_eq_true_eq, decide_eq_false_iff_not, beq_iff_eq, beq_eq_false_iff_ne, bne_iff_ne, bne_eq_false_iff_eq, Bool.not_eq_true', Bool.not_eq_false', ne_eq, Int.not_lt, Int.not_le, ge_iff_le, gt_iff_lt] at h33
                              all_goals (
                                refine HC_skip ?_
                                refine HQ_then ?_
                                refine hK31 _ _ _ _ ?_; clear hK31 K31
                                refine HC_seq fun K34 hK34 => ?_
                                refine HC_block ?_
                                refine HC_seq fun K35 hK35 => ?_
                                obtain ⟨y, hy, hmem⟩ := getI (show i < ins.length by omega)
                                have hyb := size_le (hch y hmem)
                                have hdr := sum_le (l := ins.drop (i + 1)) fun x hx => hch x (List.mem_of_mem_drop hx)
                                rw [dropI hy, sumS] at hinv
                                rw [dropI hy, List.all_cons] at hinb
                                refine HC_region ?_
                                all_goals refine HL_r rfl rfl rfl rfl (R_move rfl) ?_
                                all_goals refine HL_r rfl rfl rfl rfl (R_fieldAddr rfl rfl (by first | (simp only [Nat.zero_add, Nat.reduceAdd, Nat.reduceMul, Nat.zero_mul, Nat.mul_one, Nat.add_zero]; exact rfl) | exact rfl)) ?_
                                all_goals refine HL_r rfl rfl rfl rfl (R_load rfl (known_L (k := 0) rfl) rfl rfl) ?_
                                all_goals refine HL_r rfl rfl rfl rfl (R_move rfl) ?_
                                all_goals refine HL_r rfl rfl rfl rfl (R_indexPl (j := i) rfl hs rfl rfl rfl rfl (by omega)) ?_
                                all_goals refine HL_r rfl rfl rfl rfl (R_loadTy (fun q hq => Or.inr hq) rfl hs hy rfl rfl) ?_
                                all_goals refine HL_callR rfl rfl rfl (enters_of Tryd.func16 (by kernel_rfl) rfl) (S_Size (hi y hmem)) (fun q hq => Or.inr hq) ?_
                                all_goals (refine HL_r rfl rfl rfl rfl (R_pure rfl rfl rfl) ?_; refine HL_wrap_i64 (by omega) (by omega) ?_)
                                all_goals refine HL_r rfl rfl rfl rfl (R_assign rfl) ?_
                                all_goals refine HL_nil ?_
                                all_goals (
                                  refine HQ_then ?_
                                  refine hK35 _ _ _ _ ?_; clear hK35 K35
                                  refine HC_region ?_
                                  all_goals refine HL_r rfl rfl rfl rfl (R_move rfl) ?_
                                  all_goals refine HL_r rfl rfl rfl rfl (R_move rfl) ?_
                                  all_goals (refine HL_case 52 rfl (fun hb36 => ?_) (fun hb36 => ?_) <;> (try simp only [decide_eq_true_eq, decide_eq_false_iff_not, beq_iff_eq, beq_eq_false_iff_ne, bne_iff_ne, bne_eq_false_iff_eq, Bool.not_eq_true', Bool.not_eq_false', ne_eq, Int.not_lt, Int.not_le, ge_iff_le, gt_iff_lt] at hb36) <;> first | (refine HL_r rfl rfl rfl rfl (R_fieldAddr rfl rfl (by first | (simp only [Nat.zero_add, Nat.reduceAdd, Nat.reduceMul, Nat.zero_mul, Nat.mul_one, Nat.add_zero]; exact rfl) | exact rfl)) ?_) | (refine HL_skip rfl rfl rfl ?_))
                                  all_goals first
                                    | (refine HL_r rfl rfl rfl rfl (R_load rfl (known_L (k := 0) rfl) rfl rfl) ?_)
                                    | (refine HL_skip rfl rfl rfl ?_)
                                  all_goals first
                                    | (refine HL_r rfl rfl rfl rfl (R_move rfl) ?_)
                                    | (refine HL_skip rfl rfl rfl ?_)
                                  all_goals first
                                    | (refine HL_r rfl rfl rfl rfl (R_indexPl (j := i) rfl hs rfl rfl rfl rfl (by omega)) ?_)
                                    | (refine HL_skip rfl rfl rfl ?_)
                                  all_goals first
                                    | (refine HL_r rfl rfl rfl rfl (R_loadTy (fun q hq => Or.inr hq) rfl hs hy rfl rfl) ?_)
                                    | (refine HL_skip rfl rfl rfl ?_)
                                  all_goals first
                                    | (refine HL_callR rfl rfl rfl (enters_of Tryd.func15 (by kernel_rfl) rfl) (S_Fixed (hi y hmem)) (fun q hq => Or.inr hq) ?_)
                                    | (refine HL_skip rfl rfl rfl ?_)
                                  all_goals first
                                    | (refine HL_r rfl rfl rfl rfl (R_pickT rfl rfl) ?_)
                                    | (refine HL_r rfl rfl rfl rfl (R_pickF rfl rfl) ?_)
                                  all_goals refine HL_r rfl rfl rfl rfl (R_assign rfl) ?_
                                  all_goals refine HL_nil ?_
                                  all_goals (
                                    refine HQ_blockN ?_
                                    refine HQ_then ?_
                                    refine hK34 _ _ _ _ ?_; clear hK34 K34
                                    refine HC_region ?_
                                    all_goals refine HL_r rfl rfl rfl rfl (R_move rfl) ?_
                                    all_goals (refine HL_r rfl rfl rfl rfl (R_pure rfl rfl rfl) ?_; refine HL_wrap_i64 (by omega) (by omega) ?_)
                                    all_goals refine HL_r rfl rfl rfl rfl (R_assign rfl) ?_
                                    all_goals refine HL_nil ?_
                                    all_goals (
                                      refine HQ_then ?_
                                      exact HQ_again (i + 1, m + sizeT y, _) ⟨by simp only; omega, by simp only; omega, by simp only; omega, by first | (simp only [‹b = true›, Bool.true_and] at hinb; exact hinb) | (simp only [‹b = false›, Bool.false_and] at hinb ⊢; exact hinb)⟩ (by simp only; omega) (.cons rfl (.cons rfl (.cons rfl (.cons rfl (.cons rfl .nil))))) (List.Sublist.refl _) (fun _ _ h => h)
                                      skip)
                                    skip)
                                  skip)
                                skip)
                            · try exact Bool.noConfusion h33
                              all_goals try simp only [decide_eq_true_eq, decide_eq_false_iff_not, beq_iff_eq, beq_eq_false_iff_ne, bne_iff_ne, bne_eq_false_iff_eq, Bool.not_eq_true', Bool.not_eq_false', ne_eq, Int.not_lt, Int.not_le, ge_iff_le, gt_iff_lt] at h33
                              all_goals (
                                refine HC_exit ?_
                                refine HQ_thenE ?_; clear hK31 K31
                                refine HQ_thenE ?_
                                refine HQ_blockE ?_
                                refine HQ_then ?_
                                refine hK29 _ _ _ _ ?_; clear hK29 K29
                                refine HC_seq fun K42 hK42 => ?_
                                refine HC_seq fun K43 hK43 => ?_
                                have hms : m = sumS ins := by rw [← hinv, List.drop_of_length_le (by omega), sumS, Int.add_zero]
                                have hbs : b = fixL ins := by rw [← all_fix hch, ← hinb, List.drop_of_length_le (by omega)]; simp
                                refine HC_region ?_
                                all_goals refine HL_r rfl rfl rfl rfl (R_fieldAddr rfl rfl (by first | (simp only [Nat.zero_add, Nat.reduceAdd, Nat.reduceMul, Nat.zero_mul, Nat.mul_one, Nat.add_zero]; exact rfl) | exact rfl)) ?_
                                all_goals refine HL_r rfl rfl rfl rfl (R_load rfl (known_L (k := 0) rfl) rfl rfl) ?_
                                all_goals refine HL_r rfl rfl rfl rfl (R_pure rfl rfl rfl) ?_
                                all_goals refine HL_r rfl rfl rfl rfl (R_move rfl) ?_
                                all_goals (refine HL_case 63 rfl (fun hb44 => ?_) (fun hb44 => ?_) <;> (try simp only [decide_eq_true_eq, decide_eq_false_iff_not, beq_iff_eq, beq_eq_false_iff_ne, bne_iff_ne, bne_eq_false_iff_eq, Bool.not_eq_true', Bool.not_eq_false', ne_eq, Int.not_lt, Int.not_le, ge_iff_le, gt_iff_lt] at hb44) <;> first | (refine HL_r rfl rfl rfl rfl (R_fieldAddr rfl rfl (by first | (simp only [Nat.zero_add, Nat.reduceAdd, Nat.reduceMul, Nat.zero_mul, Nat.mul_one, Nat.add_zero]; exact rfl) | exact rfl)) ?_) | (refine HL_skip rfl rfl rfl ?_))
                                all_goals first
                                  | (refine HL_r rfl rfl rfl rfl (R_load rfl (known_L (k := 0) rfl) rfl rfl) ?_)
                                  | (refine HL_skip rfl rfl rfl ?_)
                                all_goals first
                                  | (refine HL_r rfl rfl rfl rfl (R_pure rfl rfl rfl) ?_)
                                  | (refine HL_skip rfl rfl rfl ?_)
                                all_goals first
                                  | (refine HL_r rfl rfl rfl rfl (R_pickT rfl rfl) ?_)
                                  | (refine HL_r rfl rfl rfl rfl (R_pickF rfl rfl) ?_)
                                all_goals refine HL_r rfl rfl rfl rfl (R_move rfl) ?_
                                all_goals first
                                  | (refine HL_skip rfl rfl rfl ?_)
                                  | (refine HL_case 68 rfl (fun hb47 => ?_) (fun hb47 => ?_) <;> (try simp only [decide_eq_true_eq, decide_eq_false_iff_not, beq_iff_eq, beq_eq_false_iff_ne, bne_iff_ne, bne_eq_false_iff_eq, Bool.not_eq_true', Bool.not_eq_false', ne_eq, Int.not_lt, Int.not_le, ge_iff_le, gt_iff_lt] at hb47) <;> first | (refine HL_r rfl rfl rfl rfl (R_fieldAddr rfl rfl (by first | (simp only [Nat.zero_add, Nat.reduceAdd, Nat.reduceMul, Nat.zero_mul, Nat.mul_one, Nat.add_zero]; exact rfl) | exact rfl)) ?_) | (refine HL_skip rfl rfl rfl ?_))
                                all_goals first
                                  | (refine HL_r rfl rfl rfl rfl (R_load rfl (known_L (k := 0) rfl) rfl rfl) ?_)
                                  | (refine HL_skip rfl rfl rfl ?_)
                                all_goals first
                                  | (refine HL_r rfl rfl rfl rfl (R_pure rfl rfl rfl) ?_)
                                  | (refine HL_skip rfl rfl rfl ?_)
                                all_goals first
                                  | (refine HL_r rfl rfl rfl rfl (R_pickT rfl rfl) ?_)
                                  | (refine HL_r rfl rfl rfl rfl (R_pickF rfl rfl) ?_)
                                all_goals refine HL_nil ?_
                                all_goals (
                                  refine HQ_then ?_
                                  refine hK43 _ _ _ _ ?_; clear hK43 K43
                                  refine HC_cond rfl (fun h50 => ?_) (fun h50 => ?_)
                                  · try exact Bool.noConfusion h50
                                    all_goals try simp only [decide_eq_true_eq, decide_eq_false_iff_not, beq_iff_eq, beq_eq_false_iff_ne, bne_iff_ne, bne_eq_false_iff_eq, Bool.not_eq_true', Bool.not_eq_false', ne_eq, Int.not_lt, Int.not_le, ge_iff_le, gt_iff_lt] at h50
                                    all_goals (
                                      refine HC_seq fun K51 hK51 => ?_
                                      refine HC_region ?_
                                      all_goals refine HL_r rfl rfl rfl rfl (R_move rfl) ?_
                                      all_goals refine HL_r rfl rfl rfl rfl (R_move rfl) ?_
                                      all_goals (refine HL_r rfl rfl rfl rfl (R_loadA (vs := [_, _, _]) rfl (known_L (k := 0) rfl) rfl rfl rfl rfl) ?_)
                                      all_goals (refine HL_callR rfl rfl rfl (enters_of Tryd.func15 (by kernel_rfl) rfl) s2 (fun q hq => Or.inr hq) ?_)
                                      all_goals (refine HL_r rfl rfl rfl rfl (R_pure rfl rfl rfl) ?_)
                                      all_goals (refine HL_r rfl rfl rfl rfl (R_pickT rfl rfl) ?_)
                                      all_goals refine HL_r rfl rfl rfl rfl (R_move rfl) ?_
                                      all_goals (refine HL_case 79 rfl (fun hb55 => ?_) (fun hb55 => ?_) <;> (try simp only [decide_eq_true_eq, decide_eq_false_iff_not, beq_iff_eq, beq_eq_false_iff_ne, bne_iff_ne, bne_eq_false_iff_eq, Bool.not_eq_true', Bool.not_eq_false', ne_eq, Int.not_lt, Int.not_le, ge_iff_le, gt_iff_lt] at hb55) <;> first | (refine HL_r rfl rfl rfl rfl (R_loadA (vs := [_, _, _]) rfl (known_L (k := 0) rfl) rfl rfl rfl rfl) ?_) | (refine HL_skip rfl rfl rfl ?_))
                                      all_goals first
                                        | (refine HL_callR rfl rfl rfl (enters_of Tryd.func16 (by kernel_rfl) rfl) s3 (fun q hq => Or.inr hq) ?_)
                                        | (refine HL_skip rfl rfl rfl ?_)
                                      all_goals first
                                        | (refine HL_r rfl rfl rfl rfl (R_pure rfl rfl rfl) ?_)
                                        | (refine HL_skip rfl rfl rfl ?_)
                                      all_goals first
                                        | (refine HL_r rfl rfl rfl rfl (R_pickT rfl rfl) ?_)
                                        | (refine HL_r rfl rfl rfl rfl (R_pickF rfl rfl) ?_)
                                      all_goals refine HL_r rfl rfl rfl rfl (R_assign rfl) ?_
                                      all_goals refine HL_nil ?_
                                      all_goals (
                                        refine HQ_then ?_
                                        refine hK51 _ _ _ _ ?_; clear hK51 K51
                                        refine HC_ret ?_
                                        refine HQ_thenR ?_; clear hK42 K42
                                        refine HQ_post rfl rfl (.cons (res_tmp rfl) .nil) (fun w1 hs1 => ?_)
                                        refine ⟨?_, hs1.keep⟩
                                        simp only [resVal]
                                        try simp_all
                                        all_goals first | done | omega
                                        skip)
                                      skip)
                                  · try exact Bool.noConfusion h50
                                    all_goals try simp only [decide_eq_true_eq, decide_eq_false_iff_not, beq_iff_eq, beq_eq_false_iff_ne, bne_iff_ne, bne_eq_false_iff_eq, Bool.not_eq_true', Bool.not_eq_false', ne_eq, Int.not_lt, Int.not_le, ge_iff_le, gt_iff_lt] at h50
                                    all_goals (
                                      refine HC_skip ?_
                                      refine HQ_then ?_
                                      refine hK42 _ _ _ _ ?_; clear hK42 K42
                                      refine HC_seq fun K58 hK58 => ?_
                                      refine HC_seq fun K59 hK59 => ?_
                                      refine HC_region ?_
                                      all_goals refine HL_r rfl rfl rfl rfl (R_move rfl) ?_
                                      all_goals refine HL_r rfl rfl rfl rfl (R_pure rfl rfl rfl) ?_
                                      all_goals refine HL_nil ?_
                                      all_goals (
                                        refine HQ_then ?_
                                        refine hK59 _ _ _ _ ?_; clear hK59 K59
                                        refine HC_cond rfl (fun h60 => ?_) (fun h60 => ?_)
                                        · try exact Bool.noConfusion h60
                                          all_goals try simp only [decide_eq_true_eq, decide_eq_false_iff_not, beq_iff_eq, beq_eq_false_iff_ne, bne_iff_ne, bne_eq_false_iff_eq, Bool.not_eq_true', Bool.not_eq_false', ne_eq, Int.not_lt, Int.not_le, ge_iff_le, gt_iff_lt] at h60
                                          all_goals (
                                            refine HC_seq fun K61 hK61 => ?_
                                            refine HC_region ?_
                                            all_goals refine HL_r rfl rfl rfl rfl (R_move rfl) ?_
                                            all_goals refine HL_r rfl rfl rfl rfl (R_move rfl) ?_
                                            all_goals (refine HL_r rfl rfl rfl rfl (R_loadA (vs := [_, _, _]) rfl (known_L (k := 0) rfl) rfl rfl rfl rfl) ?_)
                                            all_goals (refine HL_callR rfl rfl rfl (enters_of Tryd.func15 (by kernel_rfl) rfl) s2 (fun q hq => Or.inr hq) ?_)
                                            all_goals (refine HL_r rfl rfl rfl rfl (R_pure rfl rfl rfl) ?_)
                                            all_goals (refine HL_r rfl rfl rfl rfl (R_pickT rfl rfl) ?_)
                                            all_goals refine HL_r rfl rfl rfl rfl (R_move rfl) ?_
                                            all_goals (refine HL_case 92 rfl (fun hb65 => ?_) (fun hb65 => ?_) <;> (try simp only [decide_eq_true_eq, decide_eq_false_iff_not, beq_iff_eq, beq_eq_false_iff_ne, bne_iff_ne, bne_eq_false_iff_eq, Bool.not_eq_true', Bool.not_eq_false', ne_eq, Int.not_lt, Int.not_le, ge_iff_le, gt_iff_lt] at hb65) <;> first | (refine HL_r rfl rfl rfl rfl (R_loadA (vs := [_, _, _]) rfl (known_L (k := 0) rfl) rfl rfl rfl rfl) ?_) | (refine HL_skip rfl rfl rfl ?_))
                                            all_goals first
                                              | (refine HL_callR rfl rfl rfl (enters_of Tryd.func16 (by kernel_rfl) rfl) s3 (fun q hq => Or.inr hq) ?_)
                                              | (refine HL_skip rfl rfl rfl ?_)
                                            all_goals first
                                              | (refine HL_r rfl rfl rfl rfl (R_pure rfl rfl rfl) ?_)
                                              | (refine HL_skip rfl rfl rfl ?_)
                                            all_goals first
                                              | (refine HL_r rfl rfl rfl rfl (R_pickT rfl rfl) ?_)
                                              | (refine HL_r rfl rfl rfl rfl (R_pickF rfl rfl) ?_)
                                            all_goals refine HL_r rfl rfl rfl rfl (R_assign rfl) ?_
                                            all_goals refine HL_nil ?_
                                            all_goals (
                                              refine HQ_then ?_
                                              refine hK61 _ _ _ _ ?_; clear hK61 K61
                                              refine HC_ret ?_
                                              refine HQ_thenR ?_; clear hK58 K58
                                              refine HQ_post rfl rfl (.cons (res_tmp rfl) .nil) (fun w1 hs1 => ?_)
                                              refine ⟨?_, hs1.keep⟩
                                              simp only [resVal]
                                              try simp_all
                                              all_goals first | done | omega
                                              skip)
                                            skip)
                                        · try exact Bool.noConfusion h60
                                          all_goals try simp only [decide_eq_true_eq, decide_eq_false_iff_not, beq_iff_eq, beq_eq_false_iff_ne, bne_iff_ne, bne_eq_false_iff_eq, Bool.not_eq_true', Bool.not_eq_false', ne_eq, Int.not_lt, Int.not_le, ge_iff_le, gt_iff_lt] at h60
                                          all_goals (
                                            refine HC_skip ?_
                                            refine HQ_then ?_
                                            refine hK58 _ _ _ _ ?_; clear hK58 K58
                                            refine HC_seq fun K68 hK68 => ?_
                                            refine HC_seq fun K69 hK69 => ?_
                                            have hbt : fixL ins = true := by rw [← hbs]; simp_all
                                            have hfs := fixed_sum hc (by omega) hbt
                                            rw [sum_fix hch hbt] at hms
                                            refine HC_region ?_
                                            all_goals refine HL_r rfl rfl rfl rfl (R_fieldAddr rfl rfl (by first | (simp only [Nat.zero_add, Nat.reduceAdd, Nat.reduceMul, Nat.zero_mul, Nat.mul_one, Nat.add_zero]; exact rfl) | exact rfl)) ?_
                                            all_goals refine HL_r rfl rfl rfl rfl (R_load rfl (known_L (k := 0) rfl) rfl rfl) ?_
                                            all_goals refine HL_r rfl rfl rfl rfl (R_pure rfl rfl rfl) ?_
                                            all_goals refine HL_nil ?_
                                            all_goals (
                                              refine HQ_then ?_
                                              refine hK69 _ _ _ _ ?_; clear hK69 K69
                                              refine HC_cond rfl (fun h70 => ?_) (fun h70 => ?_)
                                              · try exact Bool.noConfusion h70
                                                all_goals try simp only [decide_eq_true_eq, decide_eq_false_iff_not, beq_iff_eq, beq_eq_false_iff_ne, bne_iff_ne, bne_eq_false_iff_eq, Bool.not_eq_true', Bool.not_eq_false', ne_eq, Int.not_lt, Int.not_le, ge_iff_le, gt_iff_lt] at h70
                                                all_goals (
                                                  refine HC_region ?_
                                                  all_goals refine HL_r rfl rfl rfl rfl (R_move rfl) ?_
                                                  all_goals refine HL_r rfl rfl rfl rfl (R_fieldAddr rfl rfl (by first | (simp only [Nat.zero_add, Nat.reduceAdd, Nat.reduceMul, Nat.zero_mul, Nat.mul_one, Nat.add_zero]; exact rfl) | exact rfl)) ?_
                                                  all_goals refine HL_r rfl rfl rfl rfl (R_load rfl (known_L (k := 0) rfl) rfl rfl) ?_
                                                  all_goals refine HL_r rfl rfl rfl rfl (R_pure rfl rfl rfl) ?_; refine HL_as (show _ = Value.int .i64 (sizeT (.mk k n p ins)) from congrArg (Value.int .i64) (by rw [hms, (hfs.2.2.1 (by assumption)).1]; exact wrap_i64 (by have := hfs.2.2.1 (by assumption); omega) (by have := hfs.2.2.1 (by assumption); omega))) ?_
                                                  all_goals refine HL_r rfl rfl rfl rfl (R_assign rfl) ?_
                                                  all_goals refine HL_nil ?_
                                                  all_goals (
                                                    refine HQ_then ?_
                                                    refine hK68 _ _ _ _ ?_; clear hK68 K68
                                                    refine HC_seq fun K71 hK71 => ?_
                                                    refine HC_region ?_
                                                    all_goals refine HL_r rfl rfl rfl rfl (R_move rfl) ?_
                                                    all_goals refine HL_r rfl rfl rfl rfl (R_move rfl) ?_
                                                    all_goals (refine HL_r rfl rfl rfl rfl (R_loadA (vs := [_, _, _]) rfl (known_L (k := 0) rfl) rfl rfl rfl rfl) ?_)
                                                    all_goals (refine HL_callR rfl rfl rfl (enters_of Tryd.func15 (by kernel_rfl) rfl) s2 (fun q hq => Or.inr hq) ?_)
                                                    all_goals (refine HL_r rfl rfl rfl rfl (R_pickT rfl rfl) ?_)
                                                    all_goals refine HL_r rfl rfl rfl rfl (R_move rfl) ?_
                                                    all_goals (refine HL_case 109 rfl (fun hb74 => ?_) (fun hb74 => ?_) <;> (try simp only [decide_eq_true_eq, decide_eq_false_iff_not, beq_iff_eq, beq_eq_false_iff_ne, bne_iff_ne, bne_eq_false_iff_eq, Bool.not_eq_true', Bool.not_eq_false', ne_eq, Int.not_lt, Int.not_le, ge_iff_le, gt_iff_lt] at hb74) <;> first | (refine HL_r rfl rfl rfl rfl (R_loadA (vs := [_, _, _]) rfl (known_L (k := 0) rfl) rfl rfl rfl rfl) ?_) | (refine HL_skip rfl rfl rfl ?_))
                                                    all_goals first
                                                      | (refine HL_callR rfl rfl rfl (enters_of Tryd.func16 (by kernel_rfl) rfl) s3 (fun q hq => Or.inr hq) ?_)
                                                      | (refine HL_skip rfl rfl rfl ?_)
                                                    all_goals first
                                                      | (refine HL_r rfl rfl rfl rfl (R_pure rfl rfl rfl) ?_)
                                                      | (refine HL_skip rfl rfl rfl ?_)
                                                    all_goals first
                                                      | (refine HL_r rfl rfl rfl rfl (R_pickT rfl rfl) ?_)
                                                      | (refine HL_r rfl rfl rfl rfl (R_pickF rfl rfl) ?_)
                                                    all_goals refine HL_r rfl rfl rfl rfl (R_move rfl) ?_
                                                    all_goals first
                                                      | (refine HL_skip rfl rfl rfl ?_)
                                                      | (refine HL_case 114 rfl (fun hb77 => ?_) (fun hb77 => ?_) <;> (try simp only [decide_eq_true_eq, decide_eq_false_iff_not, beq_iff_eq, beq_eq_false_iff_ne, bne_iff_ne, bne_eq_false_iff_eq, Bool.not_eq_true', Bool.not_eq_false', ne_eq, Int.not_lt, Int.not_le, ge_iff_le, gt_iff_lt] at hb77) <;> first | (refine HL_r rfl rfl rfl rfl (R_fieldAddr rfl rfl (by first | (simp only [Nat.zero_add, Nat.reduceAdd, Nat.reduceMul, Nat.zero_mul, Nat.mul_one, Nat.add_zero]; exact rfl) | exact rfl)) ?_) | (refine HL_skip rfl rfl rfl ?_))
                                                    all_goals first
                                                      | (refine HL_r rfl rfl rfl rfl (R_load rfl (known_L (k := 0) rfl) rfl rfl) ?_)
                                                      | (refine HL_skip rfl rfl rfl ?_)
                                                    all_goals first
                                                      | (refine HL_r rfl rfl rfl rfl (R_lenPl rfl hs rfl) ?_)
                                                      | (refine HL_skip rfl rfl rfl ?_)
                                                    all_goals first
                                                      | (refine HL_r rfl rfl rfl rfl (R_pure rfl rfl rfl) ?_)
                                                      | (refine HL_skip rfl rfl rfl ?_)
                                                    all_goals first
                                                      | (refine HL_r rfl rfl rfl rfl (R_move rfl) ?_)
                                                      | (refine HL_skip rfl rfl rfl ?_)
                                                    all_goals first
                                                      | (refine HL_skip rfl rfl rfl ?_)
                                                      | (refine HL_case 119 rfl (fun hb82 => ?_) (fun hb82 => ?_) <;> (try simp only [decide_eq_true_eq, decide_eq_false_iff_not, beq_iff_eq, beq_eq_false_iff_ne, bne_iff_ne, bne_eq_false_iff_eq, Bool.not_eq_true', Bool.not_eq_false', ne_eq, Int.not_lt, Int.not_le, ge_iff_le, gt_iff_lt] at hb82) <;> first | (refine HL_r rfl rfl rfl rfl (R_loadA (vs := [_, _, _]) rfl (known_L (k := 0) rfl) rfl rfl rfl rfl) ?_) | (refine HL_skip rfl rfl rfl ?_))
                                                    all_goals first
                                                      | (refine HL_callR rfl rfl rfl (enters_of Tryd.func16 (by kernel_rfl) rfl) s3 (fun q hq => Or.inr hq) ?_)
                                                      | (refine HL_skip rfl rfl rfl ?_)
                                                    all_goals first
                                                      | (refine HL_r rfl rfl rfl rfl (R_move rfl) ?_)
                                                      | (refine HL_skip rfl rfl rfl ?_)
                                                    all_goals first
                                                      | (refine HL_r rfl rfl rfl rfl (R_pure rfl rfl rfl) ?_)
                                                      | (refine HL_skip rfl rfl rfl ?_)
                                                    all_goals first
                                                      | (refine HL_r rfl rfl rfl rfl (R_pickT rfl rfl) ?_)
                                                      | (refine HL_r rfl rfl rfl rfl (R_pickF rfl rfl) ?_)
                                                      | (refine HL_skip rfl rfl rfl ?_)
                                                    all_goals first
                                                      | (refine HL_r rfl rfl rfl rfl (R_pickT rfl rfl) ?_)
                                                      | (refine HL_r rfl rfl rfl rfl (R_pickF rfl rfl) ?_)
                                                    all_goals refine HL_r rfl rfl rfl rfl (R_assign rfl) ?_
                                                    all_goals refine HL_nil ?_
                                                    all_goals (
                                                      refine HQ_then ?_
                                                      refine hK71 _ _ _ _ ?_; clear hK71 K71
                                                      refine HC_ret ?_
                                                      refine HQ_post rfl rfl (.cons (res_tmp rfl) .nil) (fun w1 hs1 => ?_)
                                                      refine ⟨?_, hs1.keep⟩
                                                      simp only [resVal]
                                                      try simp_all
                                                      all_goals first | done | omega
                                                      skip)
                                                    skip)
                                                  skip)
                                              · try exact Bool.noConfusion h70
                                                all_goals try simp only [decide_eq_true_eq, decide_eq_false_iff_not, beq_iff_eq, beq_eq_false_iff_ne, bne_iff_ne, bne_eq_false_iff_eq, Bool.not_eq_true', Bool.not_eq_false', ne_eq, Int.not_lt, Int.not_le, ge_iff_le, gt_iff_lt] at h70
                                                all_goals (
                                                  refine HC_skip ?_
                                                  refine HQ_then ?_
                                                  refine hK68 _ _ _ _ ?_; clear hK68 K68
                                                  refine HC_seq fun K87 hK87 => ?_
                                                  refine HC_region ?_
                                                  all_goals refine HL_r rfl rfl rfl rfl (R_move rfl) ?_
                                                  all_goals refine HL_r rfl rfl rfl rfl (R_move rfl) ?_
                                                  all_goals (refine HL_r rfl rfl rfl rfl (R_loadA (vs := [_, _, _]) rfl (known_L (k := 0) rfl) rfl rfl rfl rfl) ?_)
                                                  all_goals (refine HL_callR rfl rfl rfl (enters_of Tryd.func15 (by kernel_rfl) rfl) s2 (fun q hq => Or.inr hq) ?_)
                                                  all_goals (refine HL_r rfl rfl rfl rfl (R_pickT rfl rfl) ?_)
                                                  all_goals refine HL_r rfl rfl rfl rfl (R_move rfl) ?_
                                                  all_goals (refine HL_case 109 rfl (fun hb90 => ?_) (fun hb90 => ?_) <;> (try simp only [decide_eq_true_eq, decide_eq_false_iff_not, beq_iff_eq, beq_eq_false_iff_ne, bne_iff_ne, bne_eq_false_iff_eq, Bool.not_eq_true', Bool.not_eq_false', ne_eq, Int.not_lt, Int.not_le, ge_iff_le, gt_iff_lt] at hb90) <;> first | (refine HL_r rfl rfl rfl rfl (R_loadA (vs := [_, _, _]) rfl (known_L (k := 0) rfl) rfl rfl rfl rfl) ?_) | (refine HL_skip rfl rfl rfl ?_))
                                                  all_goals first
                                                    | (refine HL_callR rfl rfl rfl (enters_of Tryd.func16 (by kernel_rfl) rfl) s3 (fun q hq => Or.inr hq) ?_)
                                                    | (refine HL_skip rfl rfl rfl ?_)
                                                  all_goals first
                                                    | (refine HL_r rfl rfl rfl rfl (R_pure rfl rfl rfl) ?_)
                                                    | (refine HL_skip rfl rfl rfl ?_)
                                                  all_goals first
                                                    | (refine HL_r rfl rfl rfl rfl (R_pickT rfl rfl) ?_)
                                                    | (refine HL_r rfl rfl rfl rfl (R_pickF rfl rfl) ?_)
                                                  all_goals refine HL_r rfl rfl rfl rfl (R_move rfl) ?_
                                                  all_goals first
                                                    | (refine HL_skip rfl rfl rfl ?_)
                                                    | (refine HL_case 114 rfl (fun hb93 => ?_) (fun hb93 => ?_) <;> (try simp only [decide_eq_true_eq, decide_eq_false_iff_not, beq_iff_eq, beq_eq_false_iff_ne, bne_iff_ne, bne_eq_false_iff_eq, Bool.not_eq_true', Bool.not_eq_false', ne_eq, Int.not_lt, Int.not_le, ge_iff_le, gt_iff_lt] at hb93) <;> first | (refine HL_r rfl rfl rfl rfl (R_fieldAddr rfl rfl (by first | (simp only [Nat.zero_add, Nat.reduceAdd, Nat.reduceMul, Nat.zero_mul, Nat.mul_one, Nat.add_zero]; exact rfl) | exact rfl)) ?_) | (refine HL_skip rfl rfl rfl ?_))
                                                  all_goals first
                                                    | (refine HL_r rfl rfl rfl rfl (R_load rfl (known_L (k := 0) rfl) rfl rfl) ?_)
                                                    | (refine HL_skip rfl rfl rfl ?_)
                                                  all_goals first
                                                    | (refine HL_r rfl rfl rfl rfl (R_lenPl rfl hs rfl) ?_)
                                                    | (refine HL_skip rfl rfl rfl ?_)
                                                  all_goals first
                                                    | (refine HL_r rfl rfl rfl rfl (R_pure rfl rfl rfl) ?_)
                                                    | (refine HL_skip rfl rfl rfl ?_)
                                                  all_goals first
                                                    | (refine HL_r rfl rfl rfl rfl (R_move rfl) ?_)
                                                    | (refine HL_skip rfl rfl rfl ?_)
                                                  all_goals first
                                                    | (refine HL_skip rfl rfl rfl ?_)
                                                    | (refine HL_case 119 rfl (fun hb98 => ?_) (fun hb98 => ?_) <;> (try simp only [decide_eq_true_eq, decide_eq_false_iff_not, beq_iff_eq, beq_eq_false_iff_ne, bne_iff_ne, bne_eq_false_iff_eq, Bool.not_eq_true', Bool.not_eq_false', ne_eq, Int.not_lt, Int.not_le, ge_iff_le, gt_iff_lt] at hb98) <;> first | (refine HL_r rfl rfl rfl rfl (R_loadA (vs := [_, _, _]) rfl (known_L (k := 0) rfl) rfl rfl rfl rfl) ?_) | (refine HL_skip rfl rfl rfl ?_))
                                                  all_goals first
                                                    | (refine HL_callR rfl rfl rfl (enters_of Tryd.func16 (by kernel_rfl) rfl) s3 (fun q hq => Or.inr hq) ?_)
                                                    | (refine HL_skip rfl rfl rfl ?_)
                                                  all_goals first
                                                    | (refine HL_r rfl rfl rfl rfl (R_move rfl) ?_)
                                                    | (refine HL_skip rfl rfl rfl ?_)
                                                  all_goals first
                                                    | (refine HL_r rfl rfl rfl rfl (R_pure rfl rfl rfl) ?_)
                                                    | (refine HL_skip rfl rfl rfl ?_)
                                                  all_goals first
                                                    | (refine HL_r rfl rfl rfl rfl (R_pickT rfl rfl) ?_)
                                                    | (refine HL_r rfl rfl rfl rfl (R_pickF rfl rfl) ?_)
                                                    | (refine HL_skip rfl rfl rfl ?_)
                                                  all_goals first
                                                    | (refine HL_r rfl rfl rfl rfl (R_pickT rfl rfl) ?_)
                                                    | (refine HL_r rfl rfl rfl rfl (R_pickF rfl rfl) ?_)
                                                  all_goals refine HL_r rfl rfl rfl rfl (R_assign rfl) ?_
                                                  all_goals refine HL_nil ?_
                                                  all_goals (
                                                    refine HQ_then ?_
                                                    refine hK87 _ _ _ _ ?_; clear hK87 K87
                                                    refine HC_ret ?_
                                                    refine HQ_post rfl rfl (.cons (res_tmp rfl) .nil) (fun w1 hs1 => ?_)
                                                    refine ⟨?_, hs1.keep⟩
                                                    simp only [resVal]
                                                    try simp_all
                                                    all_goals first | done | omega
                                                    skip)
                                                  skip)
                                              skip)
                                            skip)
                                        skip)
                                      skip)
                                  skip)
                                skip)
                            skip)
                          skip)
                        skip)
                      skip)
                    skip)
                skip)
              skip)
            skip)
        skip)
      skip)
    skip)
end Go.Proofs.YtdadaddakcidjaaDoor
