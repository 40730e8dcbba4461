import Derived.Test.YtdadaddakcidjaaDoorGn
namespace Go.Proofs.YtdadaddakcidjaaDoor
set_option linter.all false
open Go.SL Go.RowKit Go.Shelf
def kkx (k : Int) (ins : List Ty) (i : Nat) : Nat := if k = 7 then min i (ins.length - 1) else 0
theorem kkx_7 {k : Int} {ins : List Ty} {i : Nat} (h : k = 7) : kkx k ins i = min i (ins.length - 1) := by unfold kkx; rw [if_pos h]
theorem kkx_0 {k : Int} {ins : List Ty} {i : Nat} (h : ¬ k = 7) : kkx k ins i = 0 := by unfold kkx; rw [if_neg h]
def kty (k : Int) (ins : List Ty) (i : Nat) : Ty := ins.getD (kkx k ins i) default
def partsB : List Vl → Int → List Ty → Nat → Bool
  | [], _, _, _ => true
  | x :: xs, k, ins, i => decide (fitsT (kty k ins i) x = 0) && partsB xs k ins (i + 1)
theorem kkx_lt {k : Int} {ins : List Ty} (h : 0 < ins.length) (i : Nat) : kkx k ins i < ins.length := by unfold kkx; split <;> omega
theorem kty_get {k : Int} {ins : List Ty} (h : 0 < ins.length) (i : Nat) : ins[kkx k ins i]? = some (kty k ins i) ∧ kty k ins i ∈ ins := by
  unfold kty
  rw [List.getD_eq_getElem?_getD, List.getElem?_eq_getElem (kkx_lt h i)]
  exact ⟨rfl, List.getElem_mem _⟩
theorem fits_of {t : Ty} {v : Vl} (h : chk t 0 = 0) : fitsT t v = fitT v t := by unfold fitsT; rw [if_pos h]
theorem parts_fit {k pick : Int} {ins : List Ty} (h0 : 0 < ins.length) (h8 : k ≠ 8) (hc : ∀ y ∈ ins, chk y 0 = 0) : ∀ (items : List Vl) (i : Nat), (k = 7 → i + items.length ≤ ins.length) → decide (fitL items k pick ins i = 0) = partsB items k ins i
  | [], i, _ => by rw [fitL, partsB]; rfl
  | x :: xs, i, h => by
    rw [fitL, partsB]
    have e : inTy k pick ins i = kty k ins i := by
      unfold inTy kty inX kkx
      by_cases h7 : k = 7
      · have := h h7
        rw [if_pos h7, if_pos h7, List.length_cons] at *
        rw [show min i (ins.length - 1) = i by omega]
      · rw [if_neg h7, if_neg h8, if_neg h7]
    have hr := parts_fit h0 h8 hc (pick := pick) xs (i + 1) (fun h7 => by have := h h7; rw [List.length_cons] at this; omega)
    rw [e, ← fits_of (hc _ (kty_get h0 i).2), ← hr]
    split
    · rename_i h; simp [h]
    · rename_i h; simp [h]
def manyB (k n : Int) (m : Nat) (l : Nat) : Bool := if k = 7 then decide (l = m) else if k = 3 then decide ((l : Int) = n) else decide ((l : Int) ≤ n)
theorem parts_law {k n : Int} {p : Pl} {ins : List Ty} {a b c d : Nat} {bits : List Bool} {pb : Pl} {items : List Vl} {pi : Pl} {pick : Int} (hk : k = 4 ∨ k = 3 ∨ k = 7) (hc : chk (.mk k n p ins) 0 = 0) :
    decide (fitsT (.mk k n p ins) (.mk a b c d bits pb items pi pick) = 0) = ((decide ([a, b, c, d] = [0, 0, 0, 0]) && decide (bits.length = 0) && decide (pick = 0)) && partsB items k ins 0 && manyB k n ins.length items.length) := by
  have hch := fun x hx => chk_down x 0 ((chk_mk hc).2.2.2 x hx)
  have ho := (chk_mk hc).2.1
  have h0 : 0 < ins.length := by
    unfold okForm at ho
    rcases hk with rfl | rfl | rfl <;> simp at ho <;> omega
  rw [fits_of hc, fitT, ofT_mk k n ins.length a b c d bits pb items pi pick _ rfl, onlyB_mk, onlyB_mk, onlyB_mk]
  have hpf := fun h => parts_fit (pick := pick) h0 (show k ≠ 8 by omega) hch items 0 h
  unfold manyB
  rcases hk with rfl | rfl | rfl
  · have hp := hpf (by simp)
    rw [← hp]
    by_cases hm : n < items.length
    · simp [hm]
    · rw [if_neg (show ¬ (((4 : Int) = 4 ∧ n < items.length) ∨ ((4 : Int) = 6 ∧ n < bits.length)) by omega)]
      have hm2 : (items.length : Int) ≤ n := by omega
      clear hm
      by_cases h1 : [a, b, c, d] = [0, 0, 0, 0] <;> by_cases h2 : bits.length = 0 <;> by_cases h3 : pick = 0 <;> simp_all
  · have hp := hpf (by simp)
    rw [← hp]
    by_cases hm : (items.length : Int) = n
    · by_cases h1 : [a, b, c, d] = [0, 0, 0, 0] <;> by_cases h2 : bits.length = 0 <;> by_cases h3 : pick = 0 <;> simp_all
    · simp [hm]
  · by_cases hm : items.length = ins.length
    · have hp := hpf (by intro; omega)
      rw [← hp]
      by_cases h1 : [a, b, c, d] = [0, 0, 0, 0] <;> by_cases h2 : bits.length = 0 <;> by_cases h3 : pick = 0 <;> simp_all
    · simp [hm]
def baseB (a b c d : Nat) (bits : List Bool) (pick : Int) : Bool := decide ([a, b, c, d] = [0, 0, 0, 0]) && decide (bits.length = 0) && decide (pick = 0)
set_option maxHeartbeats 4000000 in
set_option maxRecDepth 10000 in
theorem L_Parts {R : List (Nat × Obj)} {t : Ty} {v : Vl} (ht : t.In R) (hv : v.In R) : PureR Tryd.prog 5 [t.val, v.val].toArray (.bool true) R := by
  have hf1 := S_Few ht hv
  have s1 := S_Check ht
  have s4 := S_Fits ht hv
  have hin0 := ht
  cases ht with
  | @mk k n p ins hk hn hlt hst hit =>
  cases hv with
  | @mk a b c d bits pb items pi pick ha hb hc hd hlb hsb hl hs hp hi =>
  refine pureR_of_HC Tryd.func5 rfl rfl fun w => ?_
  refine HC_seq fun K1 hK1 => ?_
  refine HC_region ?_
  all_goals refine HL_box (cs := #[_, _, _]) rfl rfl rfl rfl fun r1 => ?_
  all_goals refine HL_box (cs := #[_, _, _, _, _, _, _]) rfl rfl rfl rfl fun r2 => ?_
  all_goals refine HL_r rfl rfl rfl rfl (R_assign rfl) ?_
  all_goals refine HL_nil ?_
  all_goals (
    refine HQ_then ?_
    refine hK1 _ _ _ _ ?_; clear hK1 K1
    refine HC_seq fun K2 hK2 => ?_
    refine HC_region ?_
    all_goals refine HL_callP rfl rfl rfl (enters_of Tryd.func8 (by kernel_rfl) rfl) S_works ?_
    all_goals refine HL_r rfl rfl rfl rfl (R_assign rfl) ?_
    all_goals refine HL_nil ?_
    all_goals (
      refine HQ_then ?_
      refine hK2 _ _ _ _ ?_; clear hK2 K2
      refine HC_seq fun K3 hK3 => ?_
      refine HC_seq fun K4 hK4 => ?_
      refine HC_region ?_
      all_goals refine HL_r rfl rfl rfl rfl (R_move rfl) ?_
      all_goals refine HL_r rfl rfl rfl rfl (R_pure rfl rfl rfl) ?_
      all_goals refine HL_nil ?_
      all_goals (
        refine HQ_then ?_
        refine hK4 _ _ _ _ ?_; clear hK4 K4
        refine HC_cond rfl (fun h5 => ?_) (fun h5 => ?_)
        · try exact Bool.noConfusion h5
          all_goals try simp only [decide_eq_true_eq, decide_eq_false_iff_not, beq_iff_eq, beq_eq_false_iff_ne, bne_iff_ne, bne_eq_false_iff_eq, Bool.not_eq_true', Bool.not_eq_false', ne_eq, Int.not_lt, Int.not_le, ge_iff_le, gt_iff_lt] at h5
          all_goals (
            refine HC_seq fun K6 hK6 => ?_
            refine HC_region ?_
            all_goals refine HL_r rfl rfl rfl rfl (R_assign rfl) ?_
            all_goals refine HL_nil ?_
            all_goals (
              refine HQ_then ?_
              refine hK6 _ _ _ _ ?_; clear hK6 K6
              refine HC_ret ?_
              refine HQ_thenR ?_; clear hK3 K3
              refine HQ_post rfl rfl (.cons (res_tmp rfl) .nil) (fun w1 hs1 => ?_)
              refine ⟨?_, hs1.keep⟩
              simp only [resVal]
              try simp_all [baseB]
              all_goals first | done | omega | (trace_state; omega)
              skip)
            skip)
        · try exact Bool.noConfusion h5
          all_goals try simp only [decide_eq_true_eq, decide_eq_false_iff_not, beq_iff_eq, beq_eq_false_iff_ne, bne_iff_ne, bne_eq_false_iff_eq, Bool.not_eq_true', Bool.not_eq_false', ne_eq, Int.not_lt, Int.not_le, ge_iff_le, gt_iff_lt] at h5
          all_goals (
            refine HC_skip ?_
            refine HQ_then ?_
            refine hK3 _ _ _ _ ?_; clear hK3 K3
            refine HC_seq fun K7 hK7 => ?_
            refine HC_region ?_
            all_goals (refine HL_r rfl rfl rfl rfl (R_loadA (vs := [_, _, _]) rfl (known_L (k := 1) rfl) rfl rfl rfl rfl) ?_)
            all_goals (refine HL_r rfl rfl rfl rfl (R_loadA (vs := [_, _, _, _, _, _, _]) rfl (known_L (k := 0) rfl) rfl rfl rfl rfl) ?_)
            all_goals refine HL_callR rfl rfl rfl (enters_of Tryd.func9 (by kernel_rfl) rfl) hf1 (fun q hq => Or.inr hq) ?_
            all_goals refine HL_r rfl rfl rfl rfl (R_assign rfl) ?_
            all_goals refine HL_nil ?_
            all_goals (
              refine HQ_then ?_
              refine hK7 _ _ _ _ ?_; clear hK7 K7
              refine HC_seq fun K8 hK8 => ?_
              refine HC_seq fun K9 hK9 => ?_
              refine HC_region ?_
              all_goals refine HL_r rfl rfl rfl rfl (R_move rfl) ?_
              all_goals refine HL_r rfl rfl rfl rfl (R_pure rfl rfl rfl) ?_
              all_goals refine HL_r rfl rfl rfl rfl (R_move rfl) ?_
              all_goals (refine HL_case 19 rfl (fun hb10 => ?_) (fun hb10 => ?_) <;> (try simp only [decide_eq_true_eq, decide_eq_false_iff_not, beq_iff_eq, beq_eq_false_iff_ne, bne_iff_ne, bne_eq_false_iff_eq, Bool.not_eq_true', Bool.not_eq_false', ne_eq, Int.not_lt, Int.not_le, ge_iff_le, gt_iff_lt] at hb10) <;> first | (refine HL_r rfl rfl rfl rfl (R_fieldAddr rfl rfl (by first | (simp only [Nat.zero_add, Nat.reduceAdd, Nat.reduceMul, Nat.zero_mul, Nat.mul_one, Nat.add_zero]; exact rfl) | exact rfl)) ?_) | (refine HL_skip rfl rfl rfl ?_))
              all_goals first
                | (refine HL_r rfl rfl rfl rfl (R_load rfl (known_L (k := 1) rfl) rfl rfl) ?_)
                | (refine HL_skip rfl rfl rfl ?_)
              all_goals first
                | (refine HL_r rfl rfl rfl rfl (R_pure rfl rfl rfl) ?_)
                | (refine HL_skip rfl rfl rfl ?_)
              all_goals first
                | (refine HL_r rfl rfl rfl rfl (R_move rfl) ?_)
                | (refine HL_skip rfl rfl rfl ?_)
              all_goals first
                | (refine HL_skip rfl rfl rfl ?_)
                | (refine HL_case 23 rfl (fun hb14 => ?_) (fun hb14 => ?_) <;> (try simp only [decide_eq_true_eq, decide_eq_false_iff_not, beq_iff_eq, beq_eq_false_iff_ne, bne_iff_ne, bne_eq_false_iff_eq, Bool.not_eq_true', Bool.not_eq_false', ne_eq, Int.not_lt, Int.not_le, ge_iff_le, gt_iff_lt] at hb14) <;> first | (refine HL_r rfl rfl rfl rfl (R_fieldAddr rfl rfl (by first | (simp only [Nat.zero_add, Nat.reduceAdd, Nat.reduceMul, Nat.zero_mul, Nat.mul_one, Nat.add_zero]; exact rfl) | exact rfl)) ?_) | (refine HL_skip rfl rfl rfl ?_))
              all_goals first
                | (refine HL_r rfl rfl rfl rfl (R_load rfl (known_L (k := 1) rfl) rfl rfl) ?_)
                | (refine HL_skip rfl rfl rfl ?_)
              all_goals first
                | (refine HL_r rfl rfl rfl rfl (R_pure rfl rfl rfl) ?_)
                | (refine HL_skip rfl rfl rfl ?_)
              all_goals first
                | (refine HL_r rfl rfl rfl rfl (R_pickT rfl rfl) ?_)
                | (refine HL_r rfl rfl rfl rfl (R_pickF rfl rfl) ?_)
                | (refine HL_skip rfl rfl rfl ?_)
              all_goals first
                | (refine HL_r rfl rfl rfl rfl (R_move rfl) ?_)
                | (refine HL_skip rfl rfl rfl ?_)
              all_goals first
                | (refine HL_skip rfl rfl rfl ?_)
                | (refine HL_case 28 rfl (fun hb19 => ?_) (fun hb19 => ?_) <;> (try simp only [decide_eq_true_eq, decide_eq_false_iff_not, beq_iff_eq, beq_eq_false_iff_ne, bne_iff_ne, bne_eq_false_iff_eq, Bool.not_eq_true', Bool.not_eq_false', ne_eq, Int.not_lt, Int.not_le, ge_iff_le, gt_iff_lt] at hb19) <;> first | (refine HL_r rfl rfl rfl rfl (R_fieldAddr rfl rfl (by first | (simp only [Nat.zero_add, Nat.reduceAdd, Nat.reduceMul, Nat.zero_mul, Nat.mul_one, Nat.add_zero]; exact rfl) | exact rfl)) ?_) | (refine HL_skip rfl rfl rfl ?_))
              all_goals first
                | (refine HL_r rfl rfl rfl rfl (R_load rfl (known_L (k := 1) rfl) rfl rfl) ?_)
                | (refine HL_skip rfl rfl rfl ?_)
              all_goals first
                | (refine HL_r rfl rfl rfl rfl (R_pure rfl rfl rfl) ?_)
                | (refine HL_skip rfl rfl rfl ?_)
              all_goals first
                | (refine HL_r rfl rfl rfl rfl (R_pickT rfl rfl) ?_)
                | (refine HL_r rfl rfl rfl rfl (R_pickF rfl rfl) ?_)
                | (refine HL_skip rfl rfl rfl ?_)
              all_goals first
                | (refine HL_r rfl rfl rfl rfl (R_pickT rfl rfl) ?_)
                | (refine HL_r rfl rfl rfl rfl (R_pickF rfl rfl) ?_)
              all_goals refine HL_r rfl rfl rfl rfl (R_move rfl) ?_
              all_goals first
                | (refine HL_r rfl rfl rfl rfl (R_loadA (vs := [_, _, _]) rfl (known_L (k := 1) rfl) rfl rfl rfl rfl) ?_)
                | (refine HL_skip rfl rfl rfl ?_)
                | (refine HL_case 34 rfl (fun hb23 => ?_) (fun hb23 => ?_) <;> (try simp only [decide_eq_true_eq, decide_eq_false_iff_not, beq_iff_eq, beq_eq_false_iff_ne, bne_iff_ne, bne_eq_false_iff_eq, Bool.not_eq_true', Bool.not_eq_false', ne_eq, Int.not_lt, Int.not_le, ge_iff_le, gt_iff_lt] at hb23) <;> first | (refine HL_r rfl rfl rfl rfl (R_loadA (vs := [_, _, _]) rfl (known_L (k := 0) rfl) rfl rfl rfl rfl) ?_) | (refine HL_r rfl rfl rfl rfl (R_loadA (vs := [_, _, _]) rfl (known_L (k := 1) rfl) rfl rfl rfl rfl) ?_) | (refine HL_skip rfl rfl rfl ?_))
              all_goals first
                | (refine HL_callR rfl rfl rfl (enters_of Tryd.func14 (by kernel_rfl) rfl) s1 (fun q hq => Or.inr hq) ?_)
                | (refine HL_skip rfl rfl rfl ?_)
              all_goals first
                | (refine HL_r rfl rfl rfl rfl (R_pure rfl rfl rfl) ?_)
                | (refine HL_skip rfl rfl rfl ?_)
              all_goals first
                | (refine HL_r rfl rfl rfl rfl (R_pickT rfl rfl) ?_)
                | (refine HL_r rfl rfl rfl rfl (R_pickF rfl rfl) ?_)
              all_goals refine HL_nil ?_
              all_goals (
                refine HQ_then ?_
                refine hK9 _ _ _ _ ?_; clear hK9 K9
                refine HC_cond rfl (fun h26 => ?_) (fun h26 => ?_)
                · try exact Bool.noConfusion h26
                  all_goals try simp only [decide_eq_true_eq, decide_eq_false_iff_not, beq_iff_eq, beq_eq_false_iff_ne, bne_iff_ne, bne_eq_false_iff_eq, Bool.not_eq_true', Bool.not_eq_false', ne_eq, Int.not_lt, Int.not_le, ge_iff_le, gt_iff_lt] at h26
                  all_goals (
                    refine HC_seq fun K27 hK27 => ?_
                    refine HC_region ?_
                    all_goals refine HL_r rfl rfl rfl rfl (R_move rfl) ?_
                    all_goals refine HL_r rfl rfl rfl rfl (R_assign rfl) ?_
                    all_goals refine HL_nil ?_
                    all_goals (
                      refine HQ_then ?_
                      refine hK27 _ _ _ _ ?_; clear hK27 K27
                      refine HC_ret ?_
                      refine HQ_thenR ?_; clear hK8 K8
                      refine HQ_post rfl rfl (.cons (res_tmp rfl) .nil) (fun w1 hs1 => ?_)
                      refine ⟨?_, hs1.keep⟩
                      simp only [resVal]
                      try simp_all [baseB]
                      all_goals first | done | omega | (trace_state; omega)
                      skip)
                    skip)
                · try exact Bool.noConfusion h26
                  all_goals try simp only [decide_eq_true_eq, decide_eq_false_iff_not, beq_iff_eq, beq_eq_false_iff_ne, bne_iff_ne, bne_eq_false_iff_eq, Bool.not_eq_true', Bool.not_eq_false', ne_eq, Int.not_lt, Int.not_le, ge_iff_le, gt_iff_lt] at h26
                  all_goals (
                    refine HC_skip ?_
                    refine HQ_then ?_
                    refine hK8 _ _ _ _ ?_; clear hK8 K8
                    refine HC_seq fun K28 hK28 => ?_
                    have hc0 : chk (.mk k n p ins) 0 = 0 := by assumption
                    have hk3 : k = 4 ∨ k = 3 ∨ k = 7 := by omega
                    have hlaw := parts_law (a := a) (b := b) (c := c) (d := d) (bits := bits) (pb := pb) (items := items) (pi := pi) (pick := pick) hk3 hc0
                    have h0l : 0 < ins.length := by
                      have ho := (chk_mk hc0).2.1
                      unfold okForm at ho
                      rcases hk3 with rfl | rfl | rfl <;> simp at ho <;> omega
                    refine HC_region ?_
                    all_goals refine HL_r rfl rfl rfl rfl (R_fieldAddr rfl rfl (by first | (simp only [Nat.zero_add, Nat.reduceAdd, Nat.reduceMul, Nat.zero_mul, Nat.mul_one, Nat.add_zero]; exact rfl) | exact rfl)) ?_
                    all_goals (refine HL_r rfl rfl rfl rfl (R_load rfl (known_L (k := 0) rfl) rfl rfl) ?_)
                    all_goals (refine HL_r rfl rfl rfl rfl (R_lenPl rfl hsb rfl) ?_)
                    all_goals refine HL_r rfl rfl rfl rfl (R_pure rfl rfl rfl) ?_
                    all_goals refine HL_r rfl rfl rfl rfl (R_move rfl) ?_
                    all_goals (refine HL_case 44 rfl (fun hb29 => ?_) (fun hb29 => ?_) <;> (try simp only [decide_eq_true_eq, decide_eq_false_iff_not, beq_iff_eq, beq_eq_false_iff_ne, bne_iff_ne, bne_eq_false_iff_eq, Bool.not_eq_true', Bool.not_eq_false', ne_eq, Int.not_lt, Int.not_le, ge_iff_le, gt_iff_lt] at hb29) <;> first | (refine HL_r rfl rfl rfl rfl (R_fieldAddr rfl rfl (by first | (simp only [Nat.zero_add, Nat.reduceAdd, Nat.reduceMul, Nat.zero_mul, Nat.mul_one, Nat.add_zero]; exact rfl) | exact rfl)) ?_) | (refine HL_skip rfl rfl rfl ?_))
                    all_goals first
                      | (refine HL_r rfl rfl rfl rfl (R_load rfl (known_L (k := 0) rfl) rfl rfl) ?_)
                      | (refine HL_skip rfl rfl rfl ?_)
                    all_goals first
                      | (refine HL_r rfl rfl rfl rfl (R_pure rfl rfl rfl) ?_)
                      | (refine HL_skip rfl rfl rfl ?_)
                    all_goals first
                      | (refine HL_r rfl rfl rfl rfl (R_pickT rfl rfl) ?_)
                      | (refine HL_r rfl rfl rfl rfl (R_pickF rfl rfl) ?_)
                    all_goals refine HL_r rfl rfl rfl rfl (R_move rfl) ?_
                    all_goals first
                      | (refine HL_skip rfl rfl rfl ?_)
                      | (refine HL_case 49 rfl (fun hb32 => ?_) (fun hb32 => ?_) <;> (try simp only [decide_eq_true_eq, decide_eq_false_iff_not, beq_iff_eq, beq_eq_false_iff_ne, bne_iff_ne, bne_eq_false_iff_eq, Bool.not_eq_true', Bool.not_eq_false', ne_eq, Int.not_lt, Int.not_le, ge_iff_le, gt_iff_lt] at hb32) <;> first | (refine HL_r rfl rfl rfl rfl (R_fieldAddr rfl rfl (by first | (simp only [Nat.zero_add, Nat.reduceAdd, Nat.reduceMul, Nat.zero_mul, Nat.mul_one, Nat.add_zero]; exact rfl) | exact rfl)) ?_) | (refine HL_skip rfl rfl rfl ?_))
                    all_goals first
                      | (refine HL_r rfl rfl rfl rfl (R_loadA (vs := [_, _, _, _]) rfl (known_L (k := 0) rfl) rfl rfl rfl rfl) ?_)
                      | (refine HL_skip rfl rfl rfl ?_)
                    all_goals first
                      | (refine HL_r rfl rfl rfl rfl (R_build (r := [_, _, _, _]) rfl rfl) ?_)
                      | (refine HL_skip rfl rfl rfl ?_)
                    all_goals first
                      | (refine HL_r rfl rfl rfl rfl (R_eqArr rfl rfl rfl rfl rfl (by kernel_rfl) rfl rfl rfl rfl) ?_)
                      | (refine HL_skip rfl rfl rfl ?_)
                    all_goals first | (refine HL_as (congrArg Value.bool (eq_mapU (a := [a, b, c, d]) (b := [0, 0, 0, 0]) rfl)) ?_) | skip
                    all_goals first
                      | (refine HL_r rfl rfl rfl rfl (R_pickT rfl rfl) ?_)
                      | (refine HL_r rfl rfl rfl rfl (R_pickF rfl rfl) ?_)
                    all_goals refine HL_r rfl rfl rfl rfl (R_assign rfl) ?_
                    all_goals refine HL_nil ?_
                    all_goals (
                      refine HQ_then ?_
                      refine hK28 _ _ _ _ ?_; clear hK28 K28
                      refine HC_seq fun K36 hK36 => ?_
                      refine HC_region ?_
                      all_goals refine HL_r rfl rfl rfl rfl (R_fieldAddr rfl rfl (by first | (simp only [Nat.zero_add, Nat.reduceAdd, Nat.reduceMul, Nat.zero_mul, Nat.mul_one, Nat.add_zero]; exact rfl) | exact rfl)) ?_
                      all_goals (refine HL_r rfl rfl rfl rfl (R_load rfl (known_L (k := 0) rfl) rfl rfl) ?_)
                      all_goals (refine HL_r rfl rfl rfl rfl (R_lenPl rfl hs rfl) ?_)
                      all_goals refine HL_r rfl rfl rfl rfl (R_fieldAddr rfl rfl (by first | (simp only [Nat.zero_add, Nat.reduceAdd, Nat.reduceMul, Nat.zero_mul, Nat.mul_one, Nat.add_zero]; exact rfl) | exact rfl)) ?_
                      all_goals (refine HL_r rfl rfl rfl rfl (R_load rfl (known_L (k := 1) rfl) rfl rfl) ?_)
                      all_goals refine HL_r rfl rfl rfl rfl (R_pure rfl rfl rfl) ?_
                      all_goals refine HL_r rfl rfl rfl rfl (R_assign rfl) ?_
                      all_goals refine HL_nil ?_
                      all_goals (
                        refine HQ_then ?_
                        refine hK36 _ _ _ _ ?_; clear hK36 K36
                        refine HC_seq fun K37 hK37 => ?_
                        refine HC_seq fun K38 hK38 => ?_
                        refine HC_region ?_
                        all_goals refine HL_r rfl rfl rfl rfl (R_fieldAddr rfl rfl (by first | (simp only [Nat.zero_add, Nat.reduceAdd, Nat.reduceMul, Nat.zero_mul, Nat.mul_one, Nat.add_zero]; exact rfl) | exact rfl)) ?_
                        all_goals (refine HL_r rfl rfl rfl rfl (R_load rfl (known_L (k := 1) rfl) rfl rfl) ?_)
                        all_goals refine HL_r rfl rfl rfl rfl (R_pure rfl rfl rfl) ?_
                        all_goals refine HL_nil ?_
                        all_goals (
                          refine HQ_then ?_
                          refine hK38 _ _ _ _ ?_; clear hK38 K38
                          refine HC_cond rfl (fun h39 => ?_) (fun h39 => ?_)
                          · try exact Bool.noConfusion h39
                            all_goals try simp only [decide_eq_true_eq, decide_eq_false_iff_not, beq_iff_eq, beq_eq_false_iff_ne, bne_iff_ne, bne_eq_false_iff_eq, Bool.not_eq_true', Bool.not_eq_false', ne_eq, Int.not_lt, Int.not_le, ge_iff_le, gt_iff_lt] at h39
                            all_goals (
                              refine HC_region ?_
                              all_goals refine HL_r rfl rfl rfl rfl (R_fieldAddr rfl rfl (by first | (simp only [Nat.zero_add, Nat.reduceAdd, Nat.reduceMul, Nat.zero_mul, Nat.mul_one, Nat.add_zero]; exact rfl) | exact rfl)) ?_
                              all_goals (refine HL_r rfl rfl rfl rfl (R_load rfl (known_L (k := 0) rfl) rfl rfl) ?_)
                              all_goals (refine HL_r rfl rfl rfl rfl (R_lenPl rfl hs rfl) ?_)
                              all_goals refine HL_r rfl rfl rfl rfl (R_fieldAddr rfl rfl (by first | (simp only [Nat.zero_add, Nat.reduceAdd, Nat.reduceMul, Nat.zero_mul, Nat.mul_one, Nat.add_zero]; exact rfl) | exact rfl)) ?_
                              all_goals (refine HL_r rfl rfl rfl rfl (R_load rfl (known_L (k := 1) rfl) rfl rfl) ?_)
                              all_goals refine HL_r rfl rfl rfl rfl (R_pure rfl rfl rfl) ?_
                              all_goals refine HL_r rfl rfl rfl rfl (R_assign rfl) ?_
                              all_goals refine HL_nil ?_
                              all_goals (
                                refine HQ_then ?_
                                refine hK37 _ _ _ _ ?_; clear hK37 K37
                                refine HC_seq fun K40 hK40 => ?_
                                refine HC_seq fun K41 hK41 => ?_
                                refine HC_region ?_
                                all_goals refine HL_r rfl rfl rfl rfl (R_fieldAddr rfl rfl (by first | (simp only [Nat.zero_add, Nat.reduceAdd, Nat.reduceMul, Nat.zero_mul, Nat.mul_one, Nat.add_zero]; exact rfl) | exact rfl)) ?_
                                all_goals (refine HL_r rfl rfl rfl rfl (R_load rfl (known_L (k := 1) rfl) rfl rfl) ?_)
                                all_goals refine HL_r rfl rfl rfl rfl (R_pure rfl rfl rfl) ?_
                                all_goals refine HL_nil ?_
                                all_goals (
                                  refine HQ_then ?_
                                  refine hK41 _ _ _ _ ?_; clear hK41 K41
                                  refine HC_cond rfl (fun h42 => ?_) (fun h42 => ?_)
                                  · try exact Bool.noConfusion h42
                                    all_goals try simp only [decide_eq_true_eq, decide_eq_false_iff_not, beq_iff_eq, beq_eq_false_iff_ne, bne_iff_ne, bne_eq_false_iff_eq, Bool.not_eq_true', Bool.not_eq_false', ne_eq, Int.not_lt, Int.not_le, ge_iff_le, gt_iff_lt] at h42
                                    all_goals (
                                      refine HC_region ?_
                                      all_goals refine HL_r rfl rfl rfl rfl (R_fieldAddr rfl rfl (by first | (simp only [Nat.zero_add, Nat.reduceAdd, Nat.reduceMul, Nat.zero_mul, Nat.mul_one, Nat.add_zero]; exact rfl) | exact rfl)) ?_
                                      all_goals (refine HL_r rfl rfl rfl rfl (R_load rfl (known_L (k := 0) rfl) rfl rfl) ?_)
                                      all_goals (refine HL_r rfl rfl rfl rfl (R_lenPl rfl hs rfl) ?_)
                                      all_goals refine HL_r rfl rfl rfl rfl (R_fieldAddr rfl rfl (by first | (simp only [Nat.zero_add, Nat.reduceAdd, Nat.reduceMul, Nat.zero_mul, Nat.mul_one, Nat.add_zero]; exact rfl) | exact rfl)) ?_
                                      all_goals (refine HL_r rfl rfl rfl rfl (R_load rfl (known_L (k := 1) rfl) rfl rfl) ?_)
                                      all_goals (refine HL_r rfl rfl rfl rfl (R_lenPl rfl hst rfl) ?_)
                                      all_goals refine HL_r rfl rfl rfl rfl (R_pure rfl rfl rfl) ?_
                                      all_goals refine HL_r rfl rfl rfl rfl (R_assign rfl) ?_
                                      all_goals refine HL_nil ?_
                                      all_goals (
                                        refine HQ_then ?_
                                        refine hK40 _ _ _ _ ?_; clear hK40 K40
                                        refine HC_seq fun K43 hK43 => ?_
                                        refine HC_seq fun K44 hK44 => ?_
                                        refine HC_region ?_
                                        all_goals refine HL_r rfl rfl rfl rfl (R_assign rfl) ?_
                                        all_goals refine HL_nil ?_
                                        all_goals (
                                          refine HQ_then ?_
                                          refine hK44 _ _ _ _ ?_; clear hK44 K44
                                          refine HC_block ?_
                                          first
                                            | refine HC_loop (σ := Nat × Bool × Bool) (fun s => s.1 ≤ items.length ∧ (s.2.1 && partsB (items.drop s.1) k ins s.1) = (baseB a b c d bits pick && partsB items k ins 0) ∧ s.2.2 = manyB k n ins.length items.length) (fun s => [(2, .pointer (some ⟨r1, 0, none⟩)), (3, .pointer (some ⟨r2, 0, none⟩)), (5, .bool true), (7, .bool s.2.1), (8, .bool s.2.2), (9, .int .i64 (s.1 : Int))]) (fun _ => [(r2, .cells #[uV a, uV b, uV c, uV d, plV bits.length pb, plV items.length pi, .int .i64 pick] 31 (0, 0)), (r1, .cells #[.int .i64 k, .int .i64 n, plV ins.length p] 24 (0, 0))]) (fun _ _ _ => True) (fun s => items.length - s.1) (0, decide ([a, b, c, d] = [0, 0, 0, 0]), decide ((items.length : Int) ≤ n)) ⟨by omega, by simp_all [baseB], by unfold manyB; first | (simp_all; done) | (simp_all; rw [Bool.eq_iff_iff]; simp only [beq_iff_eq, decide_eq_true_eq]; omega) | (simp_all; rfl)⟩ (.cons rfl (.cons rfl (.cons rfl (.cons rfl (.cons rfl (.cons rfl .nil)))))) (List.Sublist.refl _) (fun _ _ h => h) ?_
                                            | refine HC_loop (σ := Nat × Bool × Bool) (fun s => s.1 ≤ items.length ∧ (s.2.1 && partsB (items.drop s.1) k ins s.1) = (baseB a b c d bits pick && partsB items k ins 0) ∧ s.2.2 = manyB k n ins.length items.length) (fun s => [(2, .pointer (some ⟨r1, 0, none⟩)), (3, .pointer (some ⟨r2, 0, none⟩)), (5, .bool true), (7, .bool s.2.1), (8, .bool s.2.2), (9, .int .i64 (s.1 : Int))]) (fun _ => [(r2, .cells #[uV a, uV b, uV c, uV d, plV bits.length pb, plV items.length pi, .int .i64 pick] 31 (0, 0)), (r1, .cells #[.int .i64 k, .int .i64 n, plV ins.length p] 24 (0, 0))]) (fun _ _ _ => True) (fun s => items.length - s.1) (0, decide ([a, b, c, d] = [0, 0, 0, 0]), ((items.length : Int) == n)) ⟨by omega, by simp_all [baseB], by unfold manyB; first | (simp_all; done) | (simp_all; rw [Bool.eq_iff_iff]; simp only [beq_iff_eq, decide_eq_true_eq]; omega) | (simp_all; rfl)⟩ (.cons rfl (.cons rfl (.cons rfl (.cons rfl (.cons rfl (.cons rfl .nil)))))) (List.Sublist.refl _) (fun _ _ h => h) ?_
                                            | refine HC_loop (σ := Nat × Bool × Bool) (fun s => s.1 ≤ items.length ∧ (s.2.1 && partsB (items.drop s.1) k ins s.1) = (baseB a b c d bits pick && partsB items k ins 0) ∧ s.2.2 = manyB k n ins.length items.length) (fun s => [(2, .pointer (some ⟨r1, 0, none⟩)), (3, .pointer (some ⟨r2, 0, none⟩)), (5, .bool true), (7, .bool s.2.1), (8, .bool s.2.2), (9, .int .i64 (s.1 : Int))]) (fun _ => [(r2, .cells #[uV a, uV b, uV c, uV d, plV bits.length pb, plV items.length pi, .int .i64 pick] 31 (0, 0)), (r1, .cells #[.int .i64 k, .int .i64 n, plV ins.length p] 24 (0, 0))]) (fun _ _ _ => True) (fun s => items.length - s.1) (0, decide ([a, b, c, d] = [0, 0, 0, 0]), ((items.length : Int) == (ins.length : Int))) ⟨by omega, by simp_all [baseB], by unfold manyB; first | (simp_all; done) | (simp_all; rw [Bool.eq_iff_iff]; simp only [beq_iff_eq, decide_eq_true_eq]; omega) | (simp_all; rfl)⟩ (.cons rfl (.cons rfl (.cons rfl (.cons rfl (.cons rfl (.cons rfl .nil)))))) (List.Sublist.refl _) (fun _ _ h => h) ?_
                                            | refine HC_loop (σ := Nat × Bool × Bool) (fun s => s.1 ≤ items.length ∧ (s.2.1 && partsB (items.drop s.1) k ins s.1) = (baseB a b c d bits pick && partsB items k ins 0) ∧ s.2.2 = manyB k n ins.length items.length) (fun s => [(2, .pointer (some ⟨r1, 0, none⟩)), (3, .pointer (some ⟨r2, 0, none⟩)), (5, .bool true), (7, .bool s.2.1), (8, .bool s.2.2), (9, .int .i64 (s.1 : Int))]) (fun _ => [(r2, .cells #[uV a, uV b, uV c, uV d, plV bits.length pb, plV items.length pi, .int .i64 pick] 31 (0, 0)), (r1, .cells #[.int .i64 k, .int .i64 n, plV ins.length p] 24 (0, 0))]) (fun _ _ _ => True) (fun s => items.length - s.1) (0, false, decide ((items.length : Int) ≤ n)) ⟨by omega, by simp_all [baseB], by unfold manyB; first | (simp_all; done) | (simp_all; rw [Bool.eq_iff_iff]; simp only [beq_iff_eq, decide_eq_true_eq]; omega) | (simp_all; rfl)⟩ (.cons rfl (.cons rfl (.cons rfl (.cons rfl (.cons rfl (.cons rfl .nil)))))) (List.Sublist.refl _) (fun _ _ h => h) ?_
                                            | refine HC_loop (σ := Nat × Bool × Bool) (fun s => s.1 ≤ items.length ∧ (s.2.1 && partsB (items.drop s.1) k ins s.1) = (baseB a b c d bits pick && partsB items k ins 0) ∧ s.2.2 = manyB k n ins.length items.length) (fun s => [(2, .pointer (some ⟨r1, 0, none⟩)), (3, .pointer (some ⟨r2, 0, none⟩)), (5, .bool true), (7, .bool s.2.1), (8, .bool s.2.2), (9, .int .i64 (s.1 : Int))]) (fun _ => [(r2, .cells #[uV a, uV b, uV c, uV d, plV bits.length pb, plV items.length pi, .int .i64 pick] 31 (0, 0)), (r1, .cells #[.int .i64 k, .int .i64 n, plV ins.length p] 24 (0, 0))]) (fun _ _ _ => True) (fun s => items.length - s.1) (0, false, ((items.length : Int) == n)) ⟨by omega, by simp_all [baseB], by unfold manyB; first | (simp_all; done) | (simp_all; rw [Bool.eq_iff_iff]; simp only [beq_iff_eq, decide_eq_true_eq]; omega) | (simp_all; rfl)⟩ (.cons rfl (.cons rfl (.cons rfl (.cons rfl (.cons rfl (.cons rfl .nil)))))) (List.Sublist.refl _) (fun _ _ h => h) ?_
                                            | refine HC_loop (σ := Nat × Bool × Bool) (fun s => s.1 ≤ items.length ∧ (s.2.1 && partsB (items.drop s.1) k ins s.1) = (baseB a b c d bits pick && partsB items k ins 0) ∧ s.2.2 = manyB k n ins.length items.length) (fun s => [(2, .pointer (some ⟨r1, 0, none⟩)), (3, .pointer (some ⟨r2, 0, none⟩)), (5, .bool true), (7, .bool s.2.1), (8, .bool s.2.2), (9, .int .i64 (s.1 : Int))]) (fun _ => [(r2, .cells #[uV a, uV b, uV c, uV d, plV bits.length pb, plV items.length pi, .int .i64 pick] 31 (0, 0)), (r1, .cells #[.int .i64 k, .int .i64 n, plV ins.length p] 24 (0, 0))]) (fun _ _ _ => True) (fun s => items.length - s.1) (0, false, ((items.length : Int) == (ins.length : Int))) ⟨by omega, by simp_all [baseB], by unfold manyB; first | (simp_all; done) | (simp_all; rw [Bool.eq_iff_iff]; simp only [beq_iff_eq, decide_eq_true_eq]; omega) | (simp_all; rfl)⟩ (.cons rfl (.cons rfl (.cons rfl (.cons rfl (.cons rfl (.cons rfl .nil)))))) (List.Sublist.refl _) (fun _ _ h => h) ?_
                                          rintro ⟨i, bb, mm⟩ ⟨hi1, hinv, hmm⟩
                                          simp only at hinv hi1 hmm
                                          change HC _ _ [(2, _), (3, _), (5, _), (7, .bool bb), (8, .bool mm), (9, .int .i64 (i : Int))] _ _ _ _
                                          refine HC_seq fun K45 hK45 => ?_
                                          refine HC_seq fun K46 hK46 => ?_
                                          refine HC_region ?_
                                          all_goals refine HL_r rfl rfl rfl rfl (R_move rfl) ?_
                                          all_goals refine HL_r rfl rfl rfl rfl (R_fieldAddr rfl rfl (by first | (simp only [Nat.zero_add, Nat.reduceAdd, Nat.reduceMul, Nat.zero_mul, Nat.mul_one, Nat.add_zero]; exact rfl) | exact rfl)) ?_
                                          all_goals (refine HL_r rfl rfl rfl rfl (R_load rfl (known_L (k := 0) rfl) rfl rfl) ?_)
                                          all_goals (refine HL_r rfl rfl rfl rfl (R_lenPl rfl hs rfl) ?_)
                                          all_goals refine HL_r rfl rfl rfl rfl (R_pure rfl rfl rfl) ?_
                                          all_goals refine HL_nil ?_
                                          all_goals (
                                            refine HQ_then ?_
                                            refine hK46 _ _ _ _ ?_; clear hK46 K46
                                            refine HC_cond rfl (fun h47 => ?_) (fun h47 => ?_)
                                            · try exact Bool.noConfusion h47
                                              all_goals try simp only [decide_eq_true_eq, decide_eq_false_iff_not, beq_iff_eq, beq_eq_false_iff_ne, bne_iff_ne, bne_eq_false_iff_eq, Bool.not_eq_true', Bool.not_eq_false', ne_eq, Int.not_lt, Int.not_le, ge_iff_le, gt_iff_lt] at h47
                                              all_goals (
                                                refine HC_skip ?_
                                                refine HQ_then ?_
                                                refine hK45 _ _ _ _ ?_; clear hK45 K45
                                                refine HC_seq fun K48 hK48 => ?_
                                                refine HC_block ?_
                                                refine HC_seq fun K49 hK49 => ?_
                                                obtain ⟨x, hx, hmx⟩ := getI (show i < items.length by omega)
                                                have hty := kty_get (k := k) h0l i
                                                rw [dropI hx, partsB] at hinv
                                                refine HC_region ?_
                                                all_goals refine HL_r rfl rfl rfl rfl (R_assign rfl) ?_
                                                all_goals refine HL_nil ?_
                                                all_goals (
                                                  refine HQ_then ?_
                                                  refine hK49 _ _ _ _ ?_; clear hK49 K49
                                                  refine HC_seq fun K50 hK50 => ?_
                                                  refine HC_seq fun K51 hK51 => ?_
                                                  refine HC_region ?_
                                                  all_goals refine HL_r rfl rfl rfl rfl (R_fieldAddr rfl rfl (by first | (simp only [Nat.zero_add, Nat.reduceAdd, Nat.reduceMul, Nat.zero_mul, Nat.mul_one, Nat.add_zero]; exact rfl) | exact rfl)) ?_
                                                  all_goals (refine HL_r rfl rfl rfl rfl (R_load rfl (known_L (k := 1) rfl) rfl rfl) ?_)
                                                  all_goals refine HL_r rfl rfl rfl rfl (R_pure rfl rfl rfl) ?_
                                                  all_goals refine HL_nil ?_
                                                  all_goals (
                                                    refine HQ_then ?_
                                                    refine hK51 _ _ _ _ ?_; clear hK51 K51
                                                    refine HC_cond rfl (fun h52 => ?_) (fun h52 => ?_)
                                                    · try exact Bool.noConfusion h52
                                                      all_goals try simp only [decide_eq_true_eq, decide_eq_false_iff_not, beq_iff_eq, beq_eq_false_iff_ne, bne_iff_ne, bne_eq_false_iff_eq, Bool.not_eq_true', Bool.not_eq_false', ne_eq, Int.not_lt, Int.not_le, ge_iff_le, gt_iff_lt] at h52
                                                      all_goals (
                                                        refine HC_region ?_
                                                        all_goals refine HL_r rfl rfl rfl rfl (R_move rfl) ?_
                                                        all_goals refine HL_r rfl rfl rfl rfl (R_fieldAddr rfl rfl (by first | (simp only [Nat.zero_add, Nat.reduceAdd, Nat.reduceMul, Nat.zero_mul, Nat.mul_one, Nat.add_zero]; exact rfl) | exact rfl)) ?_
                                                        all_goals (refine HL_r rfl rfl rfl rfl (R_load rfl (known_L (k := 1) rfl) rfl rfl) ?_)
                                                        all_goals (refine HL_r rfl rfl rfl rfl (R_lenPl rfl hst rfl) ?_)
                                                        all_goals (refine HL_r rfl rfl rfl rfl (R_pure rfl rfl rfl) ?_; refine HL_wrap_i64 (by omega) (by omega) ?_)
                                                        all_goals refine HL_r rfl rfl rfl rfl (R_min2 rfl rfl rfl) ?_
                                                        all_goals refine HL_r rfl rfl rfl rfl (R_assign rfl) ?_
                                                        all_goals refine HL_nil ?_
                                                        all_goals (
                                                          refine HQ_then ?_
                                                          refine hK50 _ _ _ _ ?_; clear hK50 K50
                                                          refine HC_draw 16 (by kernel_rfl) (by kernel_rfl) ?_
                                                          all_goals refine HD_r rfl rfl rfl (R_move rfl) ?_
                                                          all_goals refine HD_r rfl rfl rfl (R_move rfl) ?_
                                                          all_goals (refine HD_case 97 rfl (fun hb53 => ?_) (fun hb53 => ?_) <;> (try simp only [decide_eq_true_eq, decide_eq_false_iff_not, beq_iff_eq, beq_eq_false_iff_ne, bne_iff_ne, bne_eq_false_iff_eq, Bool.not_eq_true', Bool.not_eq_false', ne_eq, Int.not_lt, Int.not_le, ge_iff_le, gt_iff_lt] at hb53) <;> first | (refine HD_r rfl rfl rfl (R_fieldAddr rfl rfl (by first | (simp only [Nat.zero_add, Nat.reduceAdd, Nat.reduceMul, Nat.zero_mul, Nat.mul_one, Nat.add_zero]; exact rfl) | exact rfl)) ?_) | (refine HD_skip rfl rfl rfl ?_))
                                                          all_goals first
                                                            | (refine HD_r rfl rfl rfl (R_load rfl (known_L (k := 1) rfl) rfl rfl) ?_)
                                                            | (refine HD_skip rfl rfl rfl ?_)
                                                          all_goals first
                                                            | (refine HD_r rfl rfl rfl (R_move rfl) ?_)
                                                            | (refine HD_skip rfl rfl rfl ?_)
                                                          all_goals first
                                                            | (refine HD_r rfl rfl rfl (R_indexPl (j := kkx k ins i) rfl hst rfl rfl rfl (by first | (rw [kkx_7 (by assumption)]; split <;> omega) | (rw [kkx_0 (by assumption)]; rfl)) (kkx_lt h0l i)) ?_)
                                                            | (refine HD_skip rfl rfl rfl ?_)
                                                          all_goals first
                                                            | (refine HD_r rfl rfl rfl (R_loadTy (fun q hq => Or.inr hq) rfl hst hty.1 rfl rfl) ?_)
                                                            | (refine HD_skip rfl rfl rfl ?_)
                                                          all_goals first
                                                            | (refine HD_r rfl rfl rfl (R_fieldAddr rfl rfl (by first | (simp only [Nat.zero_add, Nat.reduceAdd, Nat.reduceMul, Nat.zero_mul, Nat.mul_one, Nat.add_zero]; exact rfl) | exact rfl)) ?_)
                                                            | (refine HD_skip rfl rfl rfl ?_)
                                                          all_goals first
                                                            | (refine HD_r rfl rfl rfl (R_load rfl (known_L (k := 0) rfl) rfl rfl) ?_)
                                                            | (refine HD_skip rfl rfl rfl ?_)
                                                          all_goals first
                                                            | (refine HD_r rfl rfl rfl (R_move rfl) ?_)
                                                            | (refine HD_skip rfl rfl rfl ?_)
                                                          all_goals first
                                                            | (refine HD_r rfl rfl rfl (R_indexPl (j := i) rfl hs rfl rfl rfl rfl (by omega)) ?_)
                                                            | (refine HD_skip rfl rfl rfl ?_)
                                                          all_goals first
                                                            | (refine HD_r rfl rfl rfl (R_loadVl (fun q hq => Or.inr hq) rfl hs hx rfl rfl) ?_)
                                                            | (refine HD_skip rfl rfl rfl ?_)
                                                          all_goals first
                                                            | (refine HD_callR rfl rfl rfl (enters_of Tryd.func19 (by kernel_rfl) rfl) (S_Fits (hit _ hty.2) (hi x hmx)) (fun q hq => Or.inr hq) ?_)
                                                            | (refine HD_skip rfl rfl rfl ?_)
                                                          all_goals first
                                                            | (refine HD_r rfl rfl rfl (R_pure rfl rfl rfl) ?_)
                                                            | (refine HD_skip rfl rfl rfl ?_)
                                                          all_goals first
                                                            | (refine HD_r rfl rfl rfl (R_pickT rfl rfl) ?_)
                                                            | (refine HD_r rfl rfl rfl (R_pickF rfl rfl) ?_)
                                                          all_goals refine HD_r rfl rfl rfl (R_assign rfl) ?_
                                                          all_goals refine HD_end ?_
                                                          all_goals refine HL_nil ?_
                                                          all_goals (
                                                            refine HQ_blockN ?_
                                                            refine HQ_then ?_
                                                            refine hK48 _ _ _ _ ?_; clear hK48 K48
                                                            refine HC_region ?_
                                                            all_goals refine HL_r rfl rfl rfl rfl (R_move rfl) ?_
                                                            all_goals (refine HL_r rfl rfl rfl rfl (R_pure rfl rfl rfl) ?_; refine HL_wrap_i64 (by omega) (by omega) ?_)
                                                            all_goals refine HL_r rfl rfl rfl rfl (R_assign rfl) ?_
                                                            all_goals refine HL_nil ?_
                                                            all_goals (
                                                              refine HQ_then ?_
                                                              exact HQ_again (i + 1, _, mm) ⟨by simp only; omega, by first | (simp only [‹bb = true›, Bool.true_and] at hinv; exact hinv) | (simp only [‹bb = false›, Bool.false_and] at hinv ⊢; exact hinv), hmm⟩ (by simp only; omega) (.cons rfl (.cons rfl (.cons rfl (.cons rfl (.cons rfl (.cons rfl .nil)))))) (List.Sublist.refl _) (fun _ _ h => h)
                                                              skip)
                                                            skip)
                                                          skip)
                                                        skip)
                                                    · try exact Bool.noConfusion h52
                                                      all_goals try simp only [decide_eq_true_eq, decide_eq_false_iff_not, beq_iff_eq, beq_eq_false_iff_ne, bne_iff_ne, bne_eq_false_iff_eq, Bool.not_eq_true', Bool.not_eq_false', ne_eq, Int.not_lt, Int.not_le, ge_iff_le, gt_iff_lt] at h52
                                                      all_goals (
                                                        refine HC_skip ?_
                                                        refine HQ_then ?_
                                                        refine hK50 _ _ _ _ ?_; clear hK50 K50
                                                        refine HC_draw 16 (by kernel_rfl) (by kernel_rfl) ?_
                                                        all_goals refine HD_r rfl rfl rfl (R_move rfl) ?_
                                                        all_goals refine HD_r rfl rfl rfl (R_move rfl) ?_
                                                        all_goals (refine HD_case 97 rfl (fun hb65 => ?_) (fun hb65 => ?_) <;> (try simp only [decide_eq_true_eq, decide_eq_false_iff_not, beq_iff_eq, beq_eq_false_iff_ne, bne_iff_ne, bne_eq_false_iff_eq, Bool.not_eq_true', Bool.not_eq_false', ne_eq, Int.not_lt, Int.not_le, ge_iff_le, gt_iff_lt] at hb65) <;> first | (refine HD_r rfl rfl rfl (R_fieldAddr rfl rfl (by first | (simp only [Nat.zero_add, Nat.reduceAdd, Nat.reduceMul, Nat.zero_mul, Nat.mul_one, Nat.add_zero]; exact rfl) | exact rfl)) ?_) | (refine HD_skip rfl rfl rfl ?_))
                                                        all_goals first
                                                          | (refine HD_r rfl rfl rfl (R_load rfl (known_L (k := 1) rfl) rfl rfl) ?_)
                                                          | (refine HD_skip rfl rfl rfl ?_)
                                                        all_goals first
                                                          | (refine HD_r rfl rfl rfl (R_move rfl) ?_)
                                                          | (refine HD_skip rfl rfl rfl ?_)
                                                        all_goals first
                                                          | (refine HD_r rfl rfl rfl (R_indexPl (j := kkx k ins i) rfl hst rfl rfl rfl (by first | (rw [kkx_7 (by assumption)]; split <;> omega) | (rw [kkx_0 (by assumption)]; rfl)) (kkx_lt h0l i)) ?_)
                                                          | (refine HD_skip rfl rfl rfl ?_)
                                                        all_goals first
                                                          | (refine HD_r rfl rfl rfl (R_loadTy (fun q hq => Or.inr hq) rfl hst hty.1 rfl rfl) ?_)
                                                          | (refine HD_skip rfl rfl rfl ?_)
                                                        all_goals first
                                                          | (refine HD_r rfl rfl rfl (R_fieldAddr rfl rfl (by first | (simp only [Nat.zero_add, Nat.reduceAdd, Nat.reduceMul, Nat.zero_mul, Nat.mul_one, Nat.add_zero]; exact rfl) | exact rfl)) ?_)
                                                          | (refine HD_skip rfl rfl rfl ?_)
                                                        all_goals first
                                                          | (refine HD_r rfl rfl rfl (R_load rfl (known_L (k := 0) rfl) rfl rfl) ?_)
                                                          | (refine HD_skip rfl rfl rfl ?_)
                                                        all_goals first
                                                          | (refine HD_r rfl rfl rfl (R_move rfl) ?_)
                                                          | (refine HD_skip rfl rfl rfl ?_)
                                                        all_goals first
                                                          | (refine HD_r rfl rfl rfl (R_indexPl (j := i) rfl hs rfl rfl rfl rfl (by omega)) ?_)
                                                          | (refine HD_skip rfl rfl rfl ?_)
                                                        all_goals first
                                                          | (refine HD_r rfl rfl rfl (R_loadVl (fun q hq => Or.inr hq) rfl hs hx rfl rfl) ?_)
                                                          | (refine HD_skip rfl rfl rfl ?_)
                                                        all_goals first
                                                          | (refine HD_callR rfl rfl rfl (enters_of Tryd.func19 (by kernel_rfl) rfl) (S_Fits (hit _ hty.2) (hi x hmx)) (fun q hq => Or.inr hq) ?_)
                                                          | (refine HD_skip rfl rfl rfl ?_)
                                                        all_goals first
                                                          | (refine HD_r rfl rfl rfl (R_pure rfl rfl rfl) ?_)
                                                          | (refine HD_skip rfl rfl rfl ?_)
                                                        all_goals first
                                                          | (refine HD_r rfl rfl rfl (R_pickT rfl rfl) ?_)
                                                          | (refine HD_r rfl rfl rfl (R_pickF rfl rfl) ?_)
                                                        all_goals refine HD_r rfl rfl rfl (R_assign rfl) ?_
                                                        all_goals refine HD_end ?_
                                                        all_goals refine HL_nil ?_
                                                        all_goals (
                                                          refine HQ_blockN ?_
                                                          refine HQ_then ?_
                                                          refine hK48 _ _ _ _ ?_; clear hK48 K48
                                                          refine HC_region ?_
                                                          all_goals refine HL_r rfl rfl rfl rfl (R_move rfl) ?_
                                                          all_goals (refine HL_r rfl rfl rfl rfl (R_pure rfl rfl rfl) ?_; refine HL_wrap_i64 (by omega) (by omega) ?_)
                                                          all_goals refine HL_r rfl rfl rfl rfl (R_assign rfl) ?_
                                                          all_goals refine HL_nil ?_
                                                          all_goals (
                                                            refine HQ_then ?_
                                                            exact HQ_again (i + 1, _, mm) ⟨by simp only; omega, by first | (simp only [‹bb = true›, Bool.true_and] at hinv; exact hinv) | (simp only [‹bb = false›, Bool.false_and] at hinv ⊢; exact hinv), hmm⟩ (by simp only; omega) (.cons rfl (.cons rfl (.cons rfl (.cons rfl (.cons rfl (.cons rfl .nil)))))) (List.Sublist.refl _) (fun _ _ h => h)
                                                            skip)
                                                          skip)
                                                        skip)
                                                    skip)
                                                  skip)
                                                skip)
                                            · try exact Bool.noConfusion h47
                                              all_goals try simp only [decide_eq_true_eq, decide_eq_false_iff_not, beq_iff_eq, beq_eq_false_iff_ne, bne_iff_ne, bne_eq_false_iff_eq, Bool.not_eq_true', Bool.not_eq_false', ne_eq, Int.not_lt, Int.not_le, ge_iff_le, gt_iff_lt] at h47
                                              all_goals (
                                                refine HC_exit ?_
                                                refine HQ_thenE ?_; clear hK45 K45
                                                refine HQ_thenE ?_
                                                refine HQ_blockE ?_
                                                refine HQ_then ?_
                                                refine hK43 _ _ _ _ ?_; clear hK43 K43
                                                refine HC_seq fun K77 hK77 => ?_
                                                have hbe : bb = (baseB a b c d bits pick && partsB items k ins 0) := by rw [← hinv, List.drop_of_length_le (by omega), partsB, Bool.and_true]
                                                have hfin : decide (fitsT (.mk k n p ins) (.mk a b c d bits pb items pi pick) = 0) = (bb && mm) := by rw [hlaw, hbe, hmm]; rfl
                                                clear hbe hlaw hmm
                                                refine HC_region ?_
                                                all_goals refine HL_r rfl rfl rfl rfl (R_move rfl) ?_
                                                all_goals refine HL_r rfl rfl rfl rfl (R_move rfl) ?_
                                                all_goals (refine HL_r rfl rfl rfl rfl (R_loadA (vs := [_, _, _]) rfl (known_L (k := 1) rfl) rfl rfl rfl rfl) ?_)
                                                all_goals (refine HL_r rfl rfl rfl rfl (R_loadA (vs := [_, _, _, _, _, _, _]) rfl (known_L (k := 0) rfl) rfl rfl rfl rfl) ?_)
                                                all_goals (refine HL_callR rfl rfl rfl (enters_of Tryd.func19 (by kernel_rfl) rfl) s4 (fun q hq => Or.inr hq) ?_)
                                                all_goals (refine HL_r rfl rfl rfl rfl (R_pure rfl rfl rfl) ?_)
                                                all_goals (refine HL_r rfl rfl rfl rfl (R_move rfl) ?_)
                                                all_goals (refine HL_r rfl rfl rfl rfl (R_move rfl) ?_)
                                                all_goals (refine HL_case 118 rfl (fun hb84 => ?_) (fun hb84 => ?_) <;> (try simp only [decide_eq_true_eq, decide_eq_false_iff_not, beq_iff_eq, beq_eq_false_iff_ne, bne_iff_ne, bne_eq_false_iff_eq, Bool.not_eq_true', Bool.not_eq_false', ne_eq, Int.not_lt, Int.not_le, ge_iff_le, gt_iff_lt] at hb84) <;> first | (refine HL_r rfl rfl rfl rfl (R_move rfl) ?_) | (refine HL_skip rfl rfl rfl ?_))
                                                all_goals first
                                                  | (refine HL_r rfl rfl rfl rfl (R_pickT rfl rfl) ?_)
                                                  | (refine HL_r rfl rfl rfl rfl (R_pickF rfl rfl) ?_)
                                                all_goals (refine HL_r rfl rfl rfl rfl (R_pure rfl rfl rfl) ?_)
                                                all_goals (refine HL_r rfl rfl rfl rfl (R_pickT rfl rfl) ?_)
                                                all_goals refine HL_r rfl rfl rfl rfl (R_assign rfl) ?_
                                                all_goals refine HL_nil ?_
                                                all_goals (
                                                  refine HQ_then ?_
                                                  refine hK77 _ _ _ _ ?_; clear hK77 K77
                                                  refine HC_ret ?_
                                                  refine HQ_post rfl rfl (.cons (res_tmp rfl) .nil) (fun w1 hs1 => ?_)
                                                  refine ⟨?_, hs1.keep⟩
                                                  simp only [resVal]
                                                  try simp_all [baseB]
                                                  all_goals first | done | omega | (trace_state; omega)
                                                  skip)
                                                skip)
                                            skip)
                                          skip)
                                        skip)
                                      skip)
                                  · try exact Bool.noConfusion h42
                                    all_goals try simp only [decide_eq_true_eq, decide_eq_false_iff_not, beq_iff_eq, beq_eq_false_iff_ne, bne_iff_ne, bne_eq_false_iff_eq, Bool.not_eq_true', Bool.not_eq_false', ne_eq, Int.not_lt, Int.not_le, ge_iff_le, gt_iff_lt] at h42
                                    all_goals (
                                      refine HC_skip ?_
                                      refine HQ_then ?_
                                      refine hK40 _ _ _ _ ?_; clear hK40 K40
                                      refine HC_seq fun K87 hK87 => ?_
                                      refine HC_seq fun K88 hK88 => ?_
                                      refine HC_region ?_
                                      all_goals refine HL_r rfl rfl rfl rfl (R_assign rfl) ?_
                                      all_goals refine HL_nil ?_
                                      all_goals (
                                        refine HQ_then ?_
                                        refine hK88 _ _ _ _ ?_; clear hK88 K88
                                        refine HC_block ?_
                                        first
                                          | refine HC_loop (σ := Nat × Bool × Bool) (fun s => s.1 ≤ items.length ∧ (s.2.1 && partsB (items.drop s.1) k ins s.1) = (baseB a b c d bits pick && partsB items k ins 0) ∧ s.2.2 = manyB k n ins.length items.length) (fun s => [(2, .pointer (some ⟨r1, 0, none⟩)), (3, .pointer (some ⟨r2, 0, none⟩)), (5, .bool true), (7, .bool s.2.1), (8, .bool s.2.2), (9, .int .i64 (s.1 : Int))]) (fun _ => [(r2, .cells #[uV a, uV b, uV c, uV d, plV bits.length pb, plV items.length pi, .int .i64 pick] 31 (0, 0)), (r1, .cells #[.int .i64 k, .int .i64 n, plV ins.length p] 24 (0, 0))]) (fun _ _ _ => True) (fun s => items.length - s.1) (0, decide ([a, b, c, d] = [0, 0, 0, 0]), decide ((items.length : Int) ≤ n)) ⟨by omega, by simp_all [baseB], by unfold manyB; first | (simp_all; done) | (simp_all; rw [Bool.eq_iff_iff]; simp only [beq_iff_eq, decide_eq_true_eq]; omega) | (simp_all; rfl)⟩ (.cons rfl (.cons rfl (.cons rfl (.cons rfl (.cons rfl (.cons rfl .nil)))))) (List.Sublist.refl _) (fun _ _ h => h) ?_
                                          | refine HC_loop (σ := Nat × Bool × Bool) (fun s => s.1 ≤ items.length ∧ (s.2.1 && partsB (items.drop s.1) k ins s.1) = (baseB a b c d bits pick && partsB items k ins 0) ∧ s.2.2 = manyB k n ins.length items.length) (fun s => [(2, .pointer (some ⟨r1, 0, none⟩)), (3, .pointer (some ⟨r2, 0, none⟩)), (5, .bool true), (7, .bool s.2.1), (8, .bool s.2.2), (9, .int .i64 (s.1 : Int))]) (fun _ => [(r2, .cells #[uV a, uV b, uV c, uV d, plV bits.length pb, plV items.length pi, .int .i64 pick] 31 (0, 0)), (r1, .cells #[.int .i64 k, .int .i64 n, plV ins.length p] 24 (0, 0))]) (fun _ _ _ => True) (fun s => items.length - s.1) (0, decide ([a, b, c, d] = [0, 0, 0, 0]), ((items.length : Int) == n)) ⟨by omega, by simp_all [baseB], by unfold manyB; first | (simp_all; done) | (simp_all; rw [Bool.eq_iff_iff]; simp only [beq_iff_eq, decide_eq_true_eq]; omega) | (simp_all; rfl)⟩ (.cons rfl (.cons rfl (.cons rfl (.cons rfl (.cons rfl (.cons rfl .nil)))))) (List.Sublist.refl _) (fun _ _ h => h) ?_
                                          | refine HC_loop (σ := Nat × Bool × Bool) (fun s => s.1 ≤ items.length ∧ (s.2.1 && partsB (items.drop s.1) k ins s.1) = (baseB a b c d bits pick && partsB items k ins 0) ∧ s.2.2 = manyB k n ins.length items.length) (fun s => [(2, .pointer (some ⟨r1, 0, none⟩)), (3, .pointer (some ⟨r2, 0, none⟩)), (5, .bool true), (7, .bool s.2.1), (8, .bool s.2.2), (9, .int .i64 (s.1 : Int))]) (fun _ => [(r2, .cells #[uV a, uV b, uV c, uV d, plV bits.length pb, plV items.length pi, .int .i64 pick] 31 (0, 0)), (r1, .cells #[.int .i64 k, .int .i64 n, plV ins.length p] 24 (0, 0))]) (fun _ _ _ => True) (fun s => items.length - s.1) (0, decide ([a, b, c, d] = [0, 0, 0, 0]), ((items.length : Int) == (ins.length : Int))) ⟨by omega, by simp_all [baseB], by unfold manyB; first | (simp_all; done) | (simp_all; rw [Bool.eq_iff_iff]; simp only [beq_iff_eq, decide_eq_true_eq]; omega) | (simp_all; rfl)⟩ (.cons rfl (.cons rfl (.cons rfl (.cons rfl (.cons rfl (.cons rfl .nil)))))) (List.Sublist.refl _) (fun _ _ h => h) ?_
                                          | refine HC_loop (σ := Nat × Bool × Bool) (fun s => s.1 ≤ items.length ∧ (s.2.1 && partsB (items.drop s.1) k ins s.1) = (baseB a b c d bits pick && partsB items k ins 0) ∧ s.2.2 = manyB k n ins.length items.length) (fun s => [(2, .pointer (some ⟨r1, 0, none⟩)), (3, .pointer (some ⟨r2, 0, none⟩)), (5, .bool true), (7, .bool s.2.1), (8, .bool s.2.2), (9, .int .i64 (s.1 : Int))]) (fun _ => [(r2, .cells #[uV a, uV b, uV c, uV d, plV bits.length pb, plV items.length pi, .int .i64 pick] 31 (0, 0)), (r1, .cells #[.int .i64 k, .int .i64 n, plV ins.length p] 24 (0, 0))]) (fun _ _ _ => True) (fun s => items.length - s.1) (0, false, decide ((items.length : Int) ≤ n)) ⟨by omega, by simp_all [baseB], by unfold manyB; first | (simp_all; done) | (simp_all; rw [Bool.eq_iff_iff]; simp only [beq_iff_eq, decide_eq_true_eq]; omega) | (simp_all; rfl)⟩ (.cons rfl (.cons rfl (.cons rfl (.cons rfl (.cons rfl (.cons rfl .nil)))))) (List.Sublist.refl _) (fun _ _ h => h) ?_
                                          | refine HC_loop (σ := Nat × Bool × Bool) (fun s => s.1 ≤ items.length ∧ (s.2.1 && partsB (items.drop s.1) k ins s.1) = (baseB a b c d bits pick && partsB items k ins 0) ∧ s.2.2 = manyB k n ins.length items.length) (fun s => [(2, .pointer (some ⟨r1, 0, none⟩)), (3, .pointer (some ⟨r2, 0, none⟩)), (5, .bool true), (7, .bool s.2.1), (8, .bool s.2.2), (9, .int .i64 (s.1 : Int))]) (fun _ => [(r2, .cells #[uV a, uV b, uV c, uV d, plV bits.length pb, plV items.length pi, .int .i64 pick] 31 (0, 0)), (r1, .cells #[.int .i64 k, .int .i64 n, plV ins.length p] 24 (0, 0))]) (fun _ _ _ => True) (fun s => items.length - s.1) (0, false, ((items.length : Int) == n)) ⟨by omega, by simp_all [baseB], by unfold manyB; first | (simp_all; done) | (simp_all; rw [Bool.eq_iff_iff]; simp only [beq_iff_eq, decide_eq_true_eq]; omega) | (simp_all; rfl)⟩ (.cons rfl (.cons rfl (.cons rfl (.cons rfl (.cons rfl (.cons rfl .nil)))))) (List.Sublist.refl _) (fun _ _ h => h) ?_
                                          | refine HC_loop (σ := Nat × Bool × Bool) (fun s => s.1 ≤ items.length ∧ (s.2.1 && partsB (items.drop s.1) k ins s.1) = (baseB a b c d bits pick && partsB items k ins 0) ∧ s.2.2 = manyB k n ins.length items.length) (fun s => [(2, .pointer (some ⟨r1, 0, none⟩)), (3, .pointer (some ⟨r2, 0, none⟩)), (5, .bool true), (7, .bool s.2.1), (8, .bool s.2.2), (9, .int .i64 (s.1 : Int))]) (fun _ => [(r2, .cells #[uV a, uV b, uV c, uV d, plV bits.length pb, plV items.length pi, .int .i64 pick] 31 (0, 0)), (r1, .cells #[.int .i64 k, .int .i64 n, plV ins.length p] 24 (0, 0))]) (fun _ _ _ => True) (fun s => items.length - s.1) (0, false, ((items.length : Int) == (ins.length : Int))) ⟨by omega, by simp_all [baseB], by unfold manyB; first | (simp_all; done) | (simp_all; rw [Bool.eq_iff_iff]; simp only [beq_iff_eq, decide_eq_true_eq]; omega) | (simp_all; rfl)⟩ (.cons rfl (.cons rfl (.cons rfl (.cons rfl (.cons rfl (.cons rfl .nil)))))) (List.Sublist.refl _) (fun _ _ h => h) ?_
                                        rintro ⟨i, bb, mm⟩ ⟨hi1, hinv, hmm⟩
                                        simp only at hinv hi1 hmm
                                        change HC _ _ [(2, _), (3, _), (5, _), (7, .bool bb), (8, .bool mm), (9, .int .i64 (i : Int))] _ _ _ _
                                        refine HC_seq fun K89 hK89 => ?_
                                        refine HC_seq fun K90 hK90 => ?_
                                        refine HC_region ?_
                                        all_goals refine HL_r rfl rfl rfl rfl (R_move rfl) ?_
                                        all_goals refine HL_r rfl rfl rfl rfl (R_fieldAddr rfl rfl (by first | (simp only [Nat.zero_add, Nat.reduceAdd, Nat.reduceMul, Nat.zero_mul, Nat.mul_one, Nat.add_zero]; exact rfl) | exact rfl)) ?_
                                        all_goals (refine HL_r rfl rfl rfl rfl (R_load rfl (known_L (k := 0) rfl) rfl rfl) ?_)
                                        all_goals (refine HL_r rfl rfl rfl rfl (R_lenPl rfl hs rfl) ?_)
                                        all_goals refine HL_r rfl rfl rfl rfl (R_pure rfl rfl rfl) ?_
                                        all_goals refine HL_nil ?_
                                        all_goals (
                                          refine HQ_then ?_
                                          refine hK90 _ _ _ _ ?_; clear hK90 K90
                                          refine HC_cond rfl (fun h91 => ?_) (fun h91 => ?_)
                                          · try exact Bool.noConfusion h91
                                            all_goals try simp only [decide_eq_true_eq, decide_eq_false_iff_not, beq_iff_eq, beq_eq_false_iff_ne, bne_iff_ne, bne_eq_false_iff_eq, Bool.not_eq_true', Bool.not_eq_false', ne_eq, Int.not_lt, Int.not_le, ge_iff_le, gt_iff_lt] at h91
                                            all_goals (
                                              refine HC_skip ?_
                                              refine HQ_then ?_
                                              refine hK89 _ _ _ _ ?_; clear hK89 K89
                                              refine HC_seq fun K92 hK92 => ?_
                                              refine HC_block ?_
                                              refine HC_seq fun K93 hK93 => ?_
                                              obtain ⟨x, hx, hmx⟩ := getI (show i < items.length by omega)
                                              have hty := kty_get (k := k) h0l i
                                              rw [dropI hx, partsB] at hinv
                                              refine HC_region ?_
                                              all_goals refine HL_r rfl rfl rfl rfl (R_assign rfl) ?_
                                              all_goals refine HL_nil ?_
                                              all_goals (
                                                refine HQ_then ?_
                                                refine hK93 _ _ _ _ ?_; clear hK93 K93
                                                refine HC_seq fun K94 hK94 => ?_
                                                refine HC_seq fun K95 hK95 => ?_
                                                refine HC_region ?_
                                                all_goals refine HL_r rfl rfl rfl rfl (R_fieldAddr rfl rfl (by first | (simp only [Nat.zero_add, Nat.reduceAdd, Nat.reduceMul, Nat.zero_mul, Nat.mul_one, Nat.add_zero]; exact rfl) | exact rfl)) ?_
                                                all_goals (refine HL_r rfl rfl rfl rfl (R_load rfl (known_L (k := 1) rfl) rfl rfl) ?_)
                                                all_goals refine HL_r rfl rfl rfl rfl (R_pure rfl rfl rfl) ?_
                                                all_goals refine HL_nil ?_
                                                all_goals (
                                                  refine HQ_then ?_
                                                  refine hK95 _ _ _ _ ?_; clear hK95 K95
                                                  refine HC_cond rfl (fun h96 => ?_) (fun h96 => ?_)
                                                  · try exact Bool.noConfusion h96
                                                    all_goals try simp only [decide_eq_true_eq, decide_eq_false_iff_not, beq_iff_eq, beq_eq_false_iff_ne, bne_iff_ne, bne_eq_false_iff_eq, Bool.not_eq_true', Bool.not_eq_false', ne_eq, Int.not_lt, Int.not_le, ge_iff_le, gt_iff_lt] at h96
                                                    all_goals (
                                                      refine HC_region ?_
                                                      all_goals refine HL_r rfl rfl rfl rfl (R_move rfl) ?_
                                                      all_goals refine HL_r rfl rfl rfl rfl (R_fieldAddr rfl rfl (by first | (simp only [Nat.zero_add, Nat.reduceAdd, Nat.reduceMul, Nat.zero_mul, Nat.mul_one, Nat.add_zero]; exact rfl) | exact rfl)) ?_
                                                      all_goals (refine HL_r rfl rfl rfl rfl (R_load rfl (known_L (k := 1) rfl) rfl rfl) ?_)
                                                      all_goals (refine HL_r rfl rfl rfl rfl (R_lenPl rfl hst rfl) ?_)
                                                      all_goals (refine HL_r rfl rfl rfl rfl (R_pure rfl rfl rfl) ?_; refine HL_wrap_i64 (by omega) (by omega) ?_)
                                                      all_goals refine HL_r rfl rfl rfl rfl (R_min2 rfl rfl rfl) ?_
                                                      all_goals refine HL_r rfl rfl rfl rfl (R_assign rfl) ?_
                                                      all_goals refine HL_nil ?_
                                                      all_goals (
                                                        refine HQ_then ?_
                                                        refine hK94 _ _ _ _ ?_; clear hK94 K94
                                                        refine HC_draw 16 (by kernel_rfl) (by kernel_rfl) ?_
                                                        all_goals refine HD_r rfl rfl rfl (R_move rfl) ?_
                                                        all_goals refine HD_r rfl rfl rfl (R_move rfl) ?_
                                                        all_goals (refine HD_case 97 rfl (fun hb97 => ?_) (fun hb97 => ?_) <;> (try simp only [decide_eq_true_eq, decide_eq_false_iff_not, beq_iff_eq, beq_eq_false_iff_ne, bne_iff_ne, bne_eq_false_iff_eq, Bool.not_eq_true', Bool.not_eq_false', ne_eq, Int.not_lt, Int.not_le, ge_iff_le, gt_iff_lt] at hb97) <;> first | (refine HD_r rfl rfl rfl (R_fieldAddr rfl rfl (by first | (simp only [Nat.zero_add, Nat.reduceAdd, Nat.reduceMul, Nat.zero_mul, Nat.mul_one, Nat.add_zero]; exact rfl) | exact rfl)) ?_) | (refine HD_skip rfl rfl rfl ?_))
                                                        all_goals first
                                                          | (refine HD_r rfl rfl rfl (R_load rfl (known_L (k := 1) rfl) rfl rfl) ?_)
                                                          | (refine HD_skip rfl rfl rfl ?_)
                                                        all_goals first
                                                          | (refine HD_r rfl rfl rfl (R_move rfl) ?_)
                                                          | (refine HD_skip rfl rfl rfl ?_)
                                                        all_goals first
                                                          | (refine HD_r rfl rfl rfl (R_indexPl (j := kkx k ins i) rfl hst rfl rfl rfl (by first | (rw [kkx_7 (by assumption)]; split <;> omega) | (rw [kkx_0 (by assumption)]; rfl)) (kkx_lt h0l i)) ?_)
                                                          | (refine HD_skip rfl rfl rfl ?_)
                                                        all_goals first
                                                          | (refine HD_r rfl rfl rfl (R_loadTy (fun q hq => Or.inr hq) rfl hst hty.1 rfl rfl) ?_)
                                                          | (refine HD_skip rfl rfl rfl ?_)
                                                        all_goals first
                                                          | (refine HD_r rfl rfl rfl (R_fieldAddr rfl rfl (by first | (simp only [Nat.zero_add, Nat.reduceAdd, Nat.reduceMul, Nat.zero_mul, Nat.mul_one, Nat.add_zero]; exact rfl) | exact rfl)) ?_)
                                                          | (refine HD_skip rfl rfl rfl ?_)
                                                        all_goals first
                                                          | (refine HD_r rfl rfl rfl (R_load rfl (known_L (k := 0) rfl) rfl rfl) ?_)
                                                          | (refine HD_skip rfl rfl rfl ?_)
                                                        all_goals first
                                                          | (refine HD_r rfl rfl rfl (R_move rfl) ?_)
                                                          | (refine HD_skip rfl rfl rfl ?_)
                                                        all_goals first
                                                          | (refine HD_r rfl rfl rfl (R_indexPl (j := i) rfl hs rfl rfl rfl rfl (by omega)) ?_)
                                                          | (refine HD_skip rfl rfl rfl ?_)
                                                        all_goals first
                                                          | (refine HD_r rfl rfl rfl (R_loadVl (fun q hq => Or.inr hq) rfl hs hx rfl rfl) ?_)
                                                          | (refine HD_skip rfl rfl rfl ?_)
                                                        all_goals first
                                                          | (refine HD_callR rfl rfl rfl (enters_of Tryd.func19 (by kernel_rfl) rfl) (S_Fits (hit _ hty.2) (hi x hmx)) (fun q hq => Or.inr hq) ?_)
                                                          | (refine HD_skip rfl rfl rfl ?_)
                                                        all_goals first
                                                          | (refine HD_r rfl rfl rfl (R_pure rfl rfl rfl) ?_)
                                                          | (refine HD_skip rfl rfl rfl ?_)
                                                        all_goals first
                                                          | (refine HD_r rfl rfl rfl (R_pickT rfl rfl) ?_)
                                                          | (refine HD_r rfl rfl rfl (R_pickF rfl rfl) ?_)
                                                        all_goals refine HD_r rfl rfl rfl (R_assign rfl) ?_
                                                        all_goals refine HD_end ?_
                                                        all_goals refine HL_nil ?_
                                                        all_goals (
                                                          refine HQ_blockN ?_
                                                          refine HQ_then ?_
                                                          refine hK92 _ _ _ _ ?_; clear hK92 K92
                                                          refine HC_region ?_
                                                          all_goals refine HL_r rfl rfl rfl rfl (R_move rfl) ?_
                                                          all_goals (refine HL_r rfl rfl rfl rfl (R_pure rfl rfl rfl) ?_; refine HL_wrap_i64 (by omega) (by omega) ?_)
                                                          all_goals refine HL_r rfl rfl rfl rfl (R_assign rfl) ?_
                                                          all_goals refine HL_nil ?_
                                                          all_goals (
                                                            refine HQ_then ?_
                                                            exact HQ_again (i + 1, _, mm) ⟨by simp only; omega, by first | (simp only [‹bb = true›, Bool.true_and] at hinv; exact hinv) | (simp only [‹bb = false›, Bool.false_and] at hinv ⊢; exact hinv), hmm⟩ (by simp only; omega) (.cons rfl (.cons rfl (.cons rfl (.cons rfl (.cons rfl (.cons rfl .nil)))))) (List.Sublist.refl _) (fun _ _ h => h)
                                                            skip)
                                                          skip)
                                                        skip)
                                                      skip)
                                                  · try exact Bool.noConfusion h96
                                                    all_goals try simp only [decide_eq_true_eq, decide_eq_false_iff_not, beq_iff_eq, beq_eq_false_iff_ne, bne_iff_ne, bne_eq_false_iff_eq, Bool.not_eq_true', Bool.not_eq_false', ne_eq, Int.not_lt, Int.not_le, ge_iff_le, gt_iff_lt] at h96
                                                    all_goals (
                                                      refine HC_skip ?_
                                                      refine HQ_then ?_
                                                      refine hK94 _ _ _ _ ?_; clear hK94 K94
                                                      refine HC_draw 16 (by kernel_rfl) (by kernel_rfl) ?_
                                                      all_goals refine HD_r rfl rfl rfl (R_move rfl) ?_
                                                      all_goals refine HD_r rfl rfl rfl (R_move rfl) ?_
                                                      all_goals (refine HD_case 97 rfl (fun hb109 => ?_) (fun hb109 => ?_) <;> (try simp only [decide_eq_true_eq, decide_eq_false_iff_not, beq_iff_eq, beq_eq_false_iff_ne, bne_iff_ne, bne_eq_false_iff_eq, Bool.not_eq_true', Bool.not_eq_false', ne_eq, Int.not_lt, Int.not_le, ge_iff_le, gt_iff_lt] at hb109) <;> first | (refine HD_r rfl rfl rfl (R_fieldAddr rfl rfl (by first | (simp only [Nat.zero_add, Nat.reduceAdd, Nat.reduceMul, Nat.zero_mul, Nat.mul_one, Nat.add_zero]; exact rfl) | exact rfl)) ?_) | (refine HD_skip rfl rfl rfl ?_))
                                                      all_goals first
                                                        | (refine HD_r rfl rfl rfl (R_load rfl (known_L (k := 1) rfl) rfl rfl) ?_)
                                                        | (refine HD_skip rfl rfl rfl ?_)
                                                      all_goals first
                                                        | (refine HD_r rfl rfl rfl (R_move rfl) ?_)
                                                        | (refine HD_skip rfl rfl rfl ?_)
                                                      all_goals first
                                                        | (refine HD_r rfl rfl rfl (R_indexPl (j := kkx k ins i) rfl hst rfl rfl rfl (by first | (rw [kkx_7 (by assumption)]; split <;> omega) | (rw [kkx_0 (by assumption)]; rfl)) (kkx_lt h0l i)) ?_)
                                                        | (refine HD_skip rfl rfl rfl ?_)
                                                      all_goals first
                                                        | (refine HD_r rfl rfl rfl (R_loadTy (fun q hq => Or.inr hq) rfl hst hty.1 rfl rfl) ?_)
                                                        | (refine HD_skip rfl rfl rfl ?_)
                                                      all_goals first
                                                        | (refine HD_r rfl rfl rfl (R_fieldAddr rfl rfl (by first | (simp only [Nat.zero_add, Nat.reduceAdd, Nat.reduceMul, Nat.zero_mul, Nat.mul_one, Nat.add_zero]; exact rfl) | exact rfl)) ?_)
                                                        | (refine HD_skip rfl rfl rfl ?_)
                                                      all_goals first
                                                        | (refine HD_r rfl rfl rfl (R_load rfl (known_L (k := 0) rfl) rfl rfl) ?_)
                                                        | (refine HD_skip rfl rfl rfl ?_)
                                                      all_goals first
                                                        | (refine HD_r rfl rfl rfl (R_move rfl) ?_)
                                                        | (refine HD_skip rfl rfl rfl ?_)
                                                      all_goals first
                                                        | (refine HD_r rfl rfl rfl (R_indexPl (j := i) rfl hs rfl rfl rfl rfl (by omega)) ?_)
                                                        | (refine HD_skip rfl rfl rfl ?_)
                                                      all_goals first
                                                        | (refine HD_r rfl rfl rfl (R_loadVl (fun q hq => Or.inr hq) rfl hs hx rfl rfl) ?_)
                                                        | (refine HD_skip rfl rfl rfl ?_)
                                                      all_goals first
                                                        | (refine HD_callR rfl rfl rfl (enters_of Tryd.func19 (by kernel_rfl) rfl) (S_Fits (hit _ hty.2) (hi x hmx)) (fun q hq => Or.inr hq) ?_)
                                                        | (refine HD_skip rfl rfl rfl ?_)
                                                      all_goals first
                                                        | (refine HD_r rfl rfl rfl (R_pure rfl rfl rfl) ?_)
                                                        | (refine HD_skip rfl rfl rfl ?_)
                                                      all_goals first
                                                        | (refine HD_r rfl rfl rfl (R_pickT rfl rfl) ?_)
                                                        | (refine HD_r rfl rfl rfl (R_pickF rfl rfl) ?_)
                                                      all_goals refine HD_r rfl rfl rfl (R_assign rfl) ?_
                                                      all_goals refine HD_end ?_
                                                      all_goals refine HL_nil ?_
                                                      all_goals (
                                                        refine HQ_blockN ?_
                                                        refine HQ_then ?_
                                                        refine hK92 _ _ _ _ ?_; clear hK92 K92
                                                        refine HC_region ?_
                                                        all_goals refine HL_r rfl rfl rfl rfl (R_move rfl) ?_
                                                        all_goals (refine HL_r rfl rfl rfl rfl (R_pure rfl rfl rfl) ?_; refine HL_wrap_i64 (by omega) (by omega) ?_)
                                                        all_goals refine HL_r rfl rfl rfl rfl (R_assign rfl) ?_
                                                        all_goals refine HL_nil ?_
                                                        all_goals (
                                                          refine HQ_then ?_
                                                          exact HQ_again (i + 1, _, mm) ⟨by simp only; omega, by first | (simp only [‹bb = true›, Bool.true_and] at hinv; exact hinv) | (simp only [‹bb = false›, Bool.false_and] at hinv ⊢; exact hinv), hmm⟩ (by simp only; omega) (.cons rfl (.cons rfl (.cons rfl (.cons rfl (.cons rfl (.cons rfl .nil)))))) (List.Sublist.refl _) (fun _ _ h => h)
                                                          skip)
                                                        skip)
                                                      skip)
                                                  skip)
                                                skip)
                                              skip)
                                          · try exact Bool.noConfusion h91
                                            all_goals try simp only [decide_eq_true_eq, decide_eq_false_iff_not, beq_iff_eq, beq_eq_false_iff_ne, bne_iff_ne, bne_eq_false_iff_eq, Bool.not_eq_true', Bool.not_eq_false', ne_eq, Int.not_lt, Int.not_le, ge_iff_le, gt_iff_lt] at h91
                                            all_goals (
                                              refine HC_exit ?_
                                              refine HQ_thenE ?_; clear hK89 K89
                                              refine HQ_thenE ?_
                                              refine HQ_blockE ?_
                                              refine HQ_then ?_
                                              refine hK87 _ _ _ _ ?_; clear hK87 K87
                                              refine HC_seq fun K121 hK121 => ?_
                                              have hbe : bb = (baseB a b c d bits pick && partsB items k ins 0) := by rw [← hinv, List.drop_of_length_le (by omega), partsB, Bool.and_true]
                                              have hfin : decide (fitsT (.mk k n p ins) (.mk a b c d bits pb items pi pick) = 0) = (bb && mm) := by rw [hlaw, hbe, hmm]; rfl
                                              clear hbe hlaw hmm
                                              refine HC_region ?_
                                              all_goals refine HL_r rfl rfl rfl rfl (R_move rfl) ?_
                                              all_goals refine HL_r rfl rfl rfl rfl (R_move rfl) ?_
                                              all_goals (refine HL_r rfl rfl rfl rfl (R_loadA (vs := [_, _, _]) rfl (known_L (k := 1) rfl) rfl rfl rfl rfl) ?_)
                                              all_goals (refine HL_r rfl rfl rfl rfl (R_loadA (vs := [_, _, _, _, _, _, _]) rfl (known_L (k := 0) rfl) rfl rfl rfl rfl) ?_)
                                              all_goals (refine HL_callR rfl rfl rfl (enters_of Tryd.func19 (by kernel_rfl) rfl) s4 (fun q hq => Or.inr hq) ?_)
                                              all_goals (refine HL_r rfl rfl rfl rfl (R_pure rfl rfl rfl) ?_)
                                              all_goals (refine HL_r rfl rfl rfl rfl (R_move rfl) ?_)
                                              all_goals (refine HL_r rfl rfl rfl rfl (R_move rfl) ?_)
                                              all_goals (refine HL_case 118 rfl (fun hb128 => ?_) (fun hb128 => ?_) <;> (try simp only [decide_eq_true_eq, decide_eq_false_iff_not, beq_iff_eq, beq_eq_false_iff_ne, bne_iff_ne, bne_eq_false_iff_eq, Bool.not_eq_true', Bool.not_eq_false', ne_eq, Int.not_lt, Int.not_le, ge_iff_le, gt_iff_lt] at hb128) <;> first | (refine HL_r rfl rfl rfl rfl (R_move rfl) ?_) | (refine HL_skip rfl rfl rfl ?_))
                                              all_goals first
                                                | (refine HL_r rfl rfl rfl rfl (R_pickT rfl rfl) ?_)
                                                | (refine HL_r rfl rfl rfl rfl (R_pickF rfl rfl) ?_)
                                              all_goals (refine HL_r rfl rfl rfl rfl (R_pure rfl rfl rfl) ?_)
                                              all_goals (refine HL_r rfl rfl rfl rfl (R_pickT rfl rfl) ?_)
                                              all_goals refine HL_r rfl rfl rfl rfl (R_assign rfl) ?_
                                              all_goals refine HL_nil ?_
                                              all_goals (
                                                refine HQ_then ?_
                                                refine hK121 _ _ _ _ ?_; clear hK121 K121
                                                refine HC_ret ?_
                                                refine HQ_post rfl rfl (.cons (res_tmp rfl) .nil) (fun w1 hs1 => ?_)
                                                refine ⟨?_, hs1.keep⟩
                                                simp only [resVal]
                                                try simp_all [baseB]
                                                all_goals first | done | omega | (trace_state; omega)
                                                skip)
                                              skip)
                                          skip)
                                        skip)
                                      skip)
                                  skip)
                                skip)
                              skip)
                          · try exact Bool.noConfusion h39
                            all_goals try simp only [decide_eq_true_eq, decide_eq_false_iff_not, beq_iff_eq, beq_eq_false_iff_ne, bne_iff_ne, bne_eq_false_iff_eq, Bool.not_eq_true', Bool.not_eq_false', ne_eq, Int.not_lt, Int.not_le, ge_iff_le, gt_iff_lt] at h39
                            all_goals (
                              refine HC_skip ?_
                              refine HQ_then ?_
                              refine hK37 _ _ _ _ ?_; clear hK37 K37
                              refine HC_seq fun K131 hK131 => ?_
                              refine HC_seq fun K132 hK132 => ?_
                              refine HC_region ?_
                              all_goals refine HL_r rfl rfl rfl rfl (R_fieldAddr rfl rfl (by first | (simp only [Nat.zero_add, Nat.reduceAdd, Nat.reduceMul, Nat.zero_mul, Nat.mul_one, Nat.add_zero]; exact rfl) | exact rfl)) ?_
                              all_goals (refine HL_r rfl rfl rfl rfl (R_load rfl (known_L (k := 1) rfl) rfl rfl) ?_)
                              all_goals refine HL_r rfl rfl rfl rfl (R_pure rfl rfl rfl) ?_
                              all_goals refine HL_nil ?_
                              all_goals (
                                refine HQ_then ?_
                                refine hK132 _ _ _ _ ?_; clear hK132 K132
                                refine HC_cond rfl (fun h133 => ?_) (fun h133 => ?_)
                                · try exact Bool.noConfusion h133
                                  all_goals try simp only [decide_eq_true_eq, decide_eq_false_iff_not, beq_iff_eq, beq_eq_false_iff_ne, bne_iff_ne, bne_eq_false_iff_eq, Bool.not_eq_true', Bool.not_eq_false', ne_eq, Int.not_lt, Int.not_le, ge_iff_le, gt_iff_lt] at h133
                                  all_goals (
                                    refine HC_region ?_
                                    all_goals refine HL_r rfl rfl rfl rfl (R_fieldAddr rfl rfl (by first | (simp only [Nat.zero_add, Nat.reduceAdd, Nat.reduceMul, Nat.zero_mul, Nat.mul_one, Nat.add_zero]; exact rfl) | exact rfl)) ?_
                                    all_goals (refine HL_r rfl rfl rfl rfl (R_load rfl (known_L (k := 0) rfl) rfl rfl) ?_)
                                    all_goals (refine HL_r rfl rfl rfl rfl (R_lenPl rfl hs rfl) ?_)
                                    all_goals refine HL_r rfl rfl rfl rfl (R_fieldAddr rfl rfl (by first | (simp only [Nat.zero_add, Nat.reduceAdd, Nat.reduceMul, Nat.zero_mul, Nat.mul_one, Nat.add_zero]; exact rfl) | exact rfl)) ?_
                                    all_goals (refine HL_r rfl rfl rfl rfl (R_load rfl (known_L (k := 1) rfl) rfl rfl) ?_)
                                    all_goals (refine HL_r rfl rfl rfl rfl (R_lenPl rfl hst rfl) ?_)
                                    all_goals refine HL_r rfl rfl rfl rfl (R_pure rfl rfl rfl) ?_
                                    all_goals refine HL_r rfl rfl rfl rfl (R_assign rfl) ?_
                                    all_goals refine HL_nil ?_
                                    all_goals (
                                      refine HQ_then ?_
                                      refine hK131 _ _ _ _ ?_; clear hK131 K131
                                      refine HC_seq fun K134 hK134 => ?_
                                      refine HC_seq fun K135 hK135 => ?_
                                      refine HC_region ?_
                                      all_goals refine HL_r rfl rfl rfl rfl (R_assign rfl) ?_
                                      all_goals refine HL_nil ?_
                                      all_goals (
                                        refine HQ_then ?_
                                        refine hK135 _ _ _ _ ?_; clear hK135 K135
                                        refine HC_block ?_
                                        first
                                          | refine HC_loop (σ := Nat × Bool × Bool) (fun s => s.1 ≤ items.length ∧ (s.2.1 && partsB (items.drop s.1) k ins s.1) = (baseB a b c d bits pick && partsB items k ins 0) ∧ s.2.2 = manyB k n ins.length items.length) (fun s => [(2, .pointer (some ⟨r1, 0, none⟩)), (3, .pointer (some ⟨r2, 0, none⟩)), (5, .bool true), (7, .bool s.2.1), (8, .bool s.2.2), (9, .int .i64 (s.1 : Int))]) (fun _ => [(r2, .cells #[uV a, uV b, uV c, uV d, plV bits.length pb, plV items.length pi, .int .i64 pick] 31 (0, 0)), (r1, .cells #[.int .i64 k, .int .i64 n, plV ins.length p] 24 (0, 0))]) (fun _ _ _ => True) (fun s => items.length - s.1) (0, decide ([a, b, c, d] = [0, 0, 0, 0]), decide ((items.length : Int) ≤ n)) ⟨by omega, by simp_all [baseB], by unfold manyB; first | (simp_all; done) | (simp_all; rw [Bool.eq_iff_iff]; simp only [beq_iff_eq, decide_eq_true_eq]; omega) | (simp_all; rfl)⟩ (.cons rfl (.cons rfl (.cons rfl (.cons rfl (.cons rfl (.cons rfl .nil)))))) (List.Sublist.refl _) (fun _ _ h => h) ?_
                                          | refine HC_loop (σ := Nat × Bool × Bool) (fun s => s.1 ≤ items.length ∧ (s.2.1 && partsB (items.drop s.1) k ins s.1) = (baseB a b c d bits pick && partsB items k ins 0) ∧ s.2.2 = manyB k n ins.length items.length) (fun s => [(2, .pointer (some ⟨r1, 0, none⟩)), (3, .pointer (some ⟨r2, 0, none⟩)), (5, .bool true), (7, .bool s.2.1), (8, .bool s.2.2), (9, .int .i64 (s.1 : Int))]) (fun _ => [(r2, .cells #[uV a, uV b, uV c, uV d, plV bits.length pb, plV items.length pi, .int .i64 pick] 31 (0, 0)), (r1, .cells #[.int .i64 k, .int .i64 n, plV ins.length p] 24 (0, 0))]) (fun _ _ _ => True) (fun s => items.length - s.1) (0, decide ([a, b, c, d] = [0, 0, 0, 0]), ((items.length : Int) == n)) ⟨by omega, by simp_all [baseB], by unfold manyB; first | (simp_all; done) | (simp_all; rw [Bool.eq_iff_iff]; simp only [beq_iff_eq, decide_eq_true_eq]; omega) | (simp_all; rfl)⟩ (.cons rfl (.cons rfl (.cons rfl (.cons rfl (.cons rfl (.cons rfl .nil)))))) (List.Sublist.refl _) (fun _ _ h => h) ?_
                                          | refine HC_loop (σ := Nat × Bool × Bool) (fun s => s.1 ≤ items.length ∧ (s.2.1 && partsB (items.drop s.1) k ins s.1) = (baseB a b c d bits pick && partsB items k ins 0) ∧ s.2.2 = manyB k n ins.length items.length) (fun s => [(2, .pointer (some ⟨r1, 0, none⟩)), (3, .pointer (some ⟨r2, 0, none⟩)), (5, .bool true), (7, .bool s.2.1), (8, .bool s.2.2), (9, .int .i64 (s.1 : Int))]) (fun _ => [(r2, .cells #[uV a, uV b, uV c, uV d, plV bits.length pb, plV items.length pi, .int .i64 pick] 31 (0, 0)), (r1, .cells #[.int .i64 k, .int .i64 n, plV ins.length p] 24 (0, 0))]) (fun _ _ _ => True) (fun s => items.length - s.1) (0, decide ([a, b, c, d] = [0, 0, 0, 0]), ((items.length : Int) == (ins.length : Int))) ⟨by omega, by simp_all [baseB], by unfold manyB; first | (simp_all; done) | (simp_all; rw [Bool.eq_iff_iff]; simp only [beq_iff_eq, decide_eq_true_eq]; omega) | (simp_all; rfl)⟩ (.cons rfl (.cons rfl (.cons rfl (.cons rfl (.cons rfl (.cons rfl .nil)))))) (List.Sublist.refl _) (fun _ _ h => h) ?_
                                          | refine HC_loop (σ := Nat × Bool × Bool) (fun s => s.1 ≤ items.length ∧ (s.2.1 && partsB (items.drop s.1) k ins s.1) = (baseB a b c d bits pick && partsB items k ins 0) ∧ s.2.2 = manyB k n ins.length items.length) (fun s => [(2, .pointer (some ⟨r1, 0, none⟩)), (3, .pointer (some ⟨r2, 0, none⟩)), (5, .bool true), (7, .bool s.2.1), (8, .bool s.2.2), (9, .int .i64 (s.1 : Int))]) (fun _ => [(r2, .cells #[uV a, uV b, uV c, uV d, plV bits.length pb, plV items.length pi, .int .i64 pick] 31 (0, 0)), (r1, .cells #[.int .i64 k, .int .i64 n, plV ins.length p] 24 (0, 0))]) (fun _ _ _ => True) (fun s => items.length - s.1) (0, false, decide ((items.length : Int) ≤ n)) ⟨by omega, by simp_all [baseB], by unfold manyB; first | (simp_all; done) | (simp_all; rw [Bool.eq_iff_iff]; simp only [beq_iff_eq, decide_eq_true_eq]; omega) | (simp_all; rfl)⟩ (.cons rfl (.cons rfl (.cons rfl (.cons rfl (.cons rfl (.cons rfl .nil)))))) (List.Sublist.refl _) (fun _ _ h => h) ?_
                                          | refine HC_loop (σ := Nat × Bool × Bool) (fun s => s.1 ≤ items.length ∧ (s.2.1 && partsB (items.drop s.1) k ins s.1) = (baseB a b c d bits pick && partsB items k ins 0) ∧ s.2.2 = manyB k n ins.length items.length) (fun s => [(2, .pointer (some ⟨r1, 0, none⟩)), (3, .pointer (some ⟨r2, 0, none⟩)), (5, .bool true), (7, .bool s.2.1), (8, .bool s.2.2), (9, .int .i64 (s.1 : Int))]) (fun _ => [(r2, .cells #[uV a, uV b, uV c, uV d, plV bits.length pb, plV items.length pi, .int .i64 pick] 31 (0, 0)), (r1, .cells #[.int .i64 k, .int .i64 n, plV ins.length p] 24 (0, 0))]) (fun _ _ _ => True) (fun s => items.length - s.1) (0, false, ((items.length : Int) == n)) ⟨by omega, by simp_all [baseB], by unfold manyB; first | (simp_all; done) | (simp_all; rw [Bool.eq_iff_iff]; simp only [beq_iff_eq, decide_eq_true_eq]; omega) | (simp_all; rfl)⟩ (.cons rfl (.cons rfl (.cons rfl (.cons rfl (.cons rfl (.cons rfl .nil)))))) (List.Sublist.refl _) (fun _ _ h => h) ?_
                                          | refine HC_loop (σ := Nat × Bool × Bool) (fun s => s.1 ≤ items.length ∧ (s.2.1 && partsB (items.drop s.1) k ins s.1) = (baseB a b c d bits pick && partsB items k ins 0) ∧ s.2.2 = manyB k n ins.length items.length) (fun s => [(2, .pointer (some ⟨r1, 0, none⟩)), (3, .pointer (some ⟨r2, 0, none⟩)), (5, .bool true), (7, .bool s.2.1), (8, .bool s.2.2), (9, .int .i64 (s.1 : Int))]) (fun _ => [(r2, .cells #[uV a, uV b, uV c, uV d, plV bits.length pb, plV items.length pi, .int .i64 pick] 31 (0, 0)), (r1, .cells #[.int .i64 k, .int .i64 n, plV ins.length p] 24 (0, 0))]) (fun _ _ _ => True) (fun s => items.length - s.1) (0, false, ((items.length : Int) == (ins.length : Int))) ⟨by omega, by simp_all [baseB], by unfold manyB; first | (simp_all; done) | (simp_all; rw [Bool.eq_iff_iff]; simp only [beq_iff_eq, decide_eq_true_eq]; omega) | (simp_all; rfl)⟩ (.cons rfl (.cons rfl (.cons rfl (.cons rfl (.cons rfl (.cons rfl .nil)))))) (List.Sublist.refl _) (fun _ _ h => h) ?_
                                        rintro ⟨i, bb, mm⟩ ⟨hi1, hinv, hmm⟩
                                        simp only at hinv hi1 hmm
                                        change HC _ _ [(2, _), (3, _), (5, _), (7, .bool bb), (8, .bool mm), (9, .int .i64 (i : Int))] _ _ _ _
                                        refine HC_seq fun K136 hK136 => ?_
                                        refine HC_seq fun K137 hK137 => ?_
                                        refine HC_region ?_
                                        all_goals refine HL_r rfl rfl rfl rfl (R_move rfl) ?_
                                        all_goals refine HL_r rfl rfl rfl rfl (R_fieldAddr rfl rfl (by first | (simp only [Nat.zero_add, Nat.reduceAdd, Nat.reduceMul, Nat.zero_mul, Nat.mul_one, Nat.add_zero]; exact rfl) | exact rfl)) ?_
                                        all_goals (refine HL_r rfl rfl rfl rfl (R_load rfl (known_L (k := 0) rfl) rfl rfl) ?_)
                                        all_goals (refine HL_r rfl rfl rfl rfl (R_lenPl rfl hs rfl) ?_)
                                        all_goals refine HL_r rfl rfl rfl rfl (R_pure rfl rfl rfl) ?_
                                        all_goals refine HL_nil ?_
                                        all_goals (
                                          refine HQ_then ?_
                                          refine hK137 _ _ _ _ ?_; clear hK137 K137
                                          refine HC_cond rfl (fun h138 => ?_) (fun h138 => ?_)
                                          · try exact Bool.noConfusion h138
                                            all_goals try simp only [decide_eq_true_eq, decide_eq_false_iff_not, beq_iff_eq, beq_eq_false_iff_ne, bne_iff_ne, bne_eq_false_iff_eq, Bool.not_eq_true', Bool.not_eq_false', ne_eq, Int.not_lt, Int.not_le, ge_iff_le, gt_iff_lt] at h138
                                            all_goals (
                                              refine HC_skip ?_
                                              refine HQ_then ?_
                                              refine hK136 _ _ _ _ ?_; clear hK136 K136
                                              refine HC_seq fun K139 hK139 => ?_
                                              refine HC_block ?_
                                              refine HC_seq fun K140 hK140 => ?_
                                              obtain ⟨x, hx, hmx⟩ := getI (show i < items.length by omega)
                                              have hty := kty_get (k := k) h0l i
                                              rw [dropI hx, partsB] at hinv
                                              refine HC_region ?_
                                              all_goals refine HL_r rfl rfl rfl rfl (R_assign rfl) ?_
                                              all_goals refine HL_nil ?_
                                              all_goals (
                                                refine HQ_then ?_
                                                refine hK140 _ _ _ _ ?_; clear hK140 K140
                                                refine HC_seq fun K141 hK141 => ?_
                                                refine HC_seq fun K142 hK142 => ?_
                                                refine HC_region ?_
                                                all_goals refine HL_r rfl rfl rfl rfl (R_fieldAddr rfl rfl (by first | (simp only [Nat.zero_add, Nat.reduceAdd, Nat.reduceMul, Nat.zero_mul, Nat.mul_one, Nat.add_zero]; exact rfl) | exact rfl)) ?_
                                                all_goals (refine HL_r rfl rfl rfl rfl (R_load rfl (known_L (k := 1) rfl) rfl rfl) ?_)
                                                all_goals refine HL_r rfl rfl rfl rfl (R_pure rfl rfl rfl) ?_
                                                all_goals refine HL_nil ?_
                                                all_goals (
                                                  refine HQ_then ?_
                                                  refine hK142 _ _ _ _ ?_; clear hK142 K142
                                                  refine HC_cond rfl (fun h143 => ?_) (fun h143 => ?_)
                                                  · try exact Bool.noConfusion h143
                                                    all_goals try simp only [decide_eq_true_eq, decide_eq_false_iff_not, beq_iff_eq, beq_eq_false_iff_ne, bne_iff_ne, bne_eq_false_iff_eq, Bool.not_eq_true', Bool.not_eq_false', ne_eq, Int.not_lt, Int.not_le, ge_iff_le, gt_iff_lt] at h143
                                                    all_goals (
                                                      refine HC_region ?_
                                                      all_goals refine HL_r rfl rfl rfl rfl (R_move rfl) ?_
                                                      all_goals refine HL_r rfl rfl rfl rfl (R_fieldAddr rfl rfl (by first | (simp only [Nat.zero_add, Nat.reduceAdd, Nat.reduceMul, Nat.zero_mul, Nat.mul_one, Nat.add_zero]; exact rfl) | exact rfl)) ?_
                                                      all_goals (refine HL_r rfl rfl rfl rfl (R_load rfl (known_L (k := 1) rfl) rfl rfl) ?_)
                                                      all_goals (refine HL_r rfl rfl rfl rfl (R_lenPl rfl hst rfl) ?_)
                                                      all_goals (refine HL_r rfl rfl rfl rfl (R_pure rfl rfl rfl) ?_; refine HL_wrap_i64 (by omega) (by omega) ?_)
                                                      all_goals refine HL_r rfl rfl rfl rfl (R_min2 rfl rfl rfl) ?_
                                                      all_goals refine HL_r rfl rfl rfl rfl (R_assign rfl) ?_
                                                      all_goals refine HL_nil ?_
                                                      all_goals (
                                                        refine HQ_then ?_
                                                        refine hK141 _ _ _ _ ?_; clear hK141 K141
                                                        refine HC_draw 16 (by kernel_rfl) (by kernel_rfl) ?_
                                                        all_goals refine HD_r rfl rfl rfl (R_move rfl) ?_
                                                        all_goals refine HD_r rfl rfl rfl (R_move rfl) ?_
                                                        all_goals (refine HD_case 97 rfl (fun hb144 => ?_) (fun hb144 => ?_) <;> (try simp only [decide_eq_true_eq, decide_eq_false_iff_not, beq_iff_eq, beq_eq_false_iff_ne, bne_iff_ne, bne_eq_false_iff_eq, Bool.not_eq_true', Bool.not_eq_false', ne_eq, Int.not_lt, Int.not_le, ge_iff_le, gt_iff_lt] at hb144) <;> first | (refine HD_r rfl rfl rfl (R_fieldAddr rfl rfl (by first | (simp only [Nat.zero_add, Nat.reduceAdd, Nat.reduceMul, Nat.zero_mul, Nat.mul_one, Nat.add_zero]; exact rfl) | exact rfl)) ?_) | (refine HD_skip rfl rfl rfl ?_))
                                                        all_goals first
                                                          | (refine HD_r rfl rfl rfl (R_load rfl (known_L (k := 1) rfl) rfl rfl) ?_)
                                                          | (refine HD_skip rfl rfl rfl ?_)
                                                        all_goals first
                                                          | (refine HD_r rfl rfl rfl (R_move rfl) ?_)
                                                          | (refine HD_skip rfl rfl rfl ?_)
                                                        all_goals first
                                                          | (refine HD_r rfl rfl rfl (R_indexPl (j := kkx k ins i) rfl hst rfl rfl rfl (by first | (rw [kkx_7 (by assumption)]; split <;> omega) | (rw [kkx_0 (by assumption)]; rfl)) (kkx_lt h0l i)) ?_)
                                                          | (refine HD_skip rfl rfl rfl ?_)
                                                        all_goals first
                                                          | (refine HD_r rfl rfl rfl (R_loadTy (fun q hq => Or.inr hq) rfl hst hty.1 rfl rfl) ?_)
                                                          | (refine HD_skip rfl rfl rfl ?_)
                                                        all_goals first
                                                          | (refine HD_r rfl rfl rfl (R_fieldAddr rfl rfl (by first | (simp only [Nat.zero_add, Nat.reduceAdd, Nat.reduceMul, Nat.zero_mul, Nat.mul_one, Nat.add_zero]; exact rfl) | exact rfl)) ?_)
                                                          | (refine HD_skip rfl rfl rfl ?_)
                                                        all_goals first
                                                          | (refine HD_r rfl rfl rfl (R_load rfl (known_L (k := 0) rfl) rfl rfl) ?_)
                                                          | (refine HD_skip rfl rfl rfl ?_)
                                                        all_goals first
                                                          | (refine HD_r rfl rfl rfl (R_move rfl) ?_)
                                                          | (refine HD_skip rfl rfl rfl ?_)
                                                        all_goals first
                                                          | (refine HD_r rfl rfl rfl (R_indexPl (j := i) rfl hs rfl rfl rfl rfl (by omega)) ?_)
                                                          | (refine HD_skip rfl rfl rfl ?_)
                                                        all_goals first
                                                          | (refine HD_r rfl rfl rfl (R_loadVl (fun q hq => Or.inr hq) rfl hs hx rfl rfl) ?_)
                                                          | (refine HD_skip rfl rfl rfl ?_)
                                                        all_goals first
                                                          | (refine HD_callR rfl rfl rfl (enters_of Tryd.func19 (by kernel_rfl) rfl) (S_Fits (hit _ hty.2) (hi x hmx)) (fun q hq => Or.inr hq) ?_)
                                                          | (refine HD_skip rfl rfl rfl ?_)
                                                        all_goals first
                                                          | (refine HD_r rfl rfl rfl (R_pure rfl rfl rfl) ?_)
                                                          | (refine HD_skip rfl rfl rfl ?_)
                                                        all_goals first
                                                          | (refine HD_r rfl rfl rfl (R_pickT rfl rfl) ?_)
                                                          | (refine HD_r rfl rfl rfl (R_pickF rfl rfl) ?_)
                                                        all_goals refine HD_r rfl rfl rfl (R_assign rfl) ?_
                                                        all_goals refine HD_end ?_
                                                        all_goals refine HL_nil ?_
                                                        all_goals (
                                                          refine HQ_blockN ?_
                                                          refine HQ_then ?_
                                                          refine hK139 _ _ _ _ ?_; clear hK139 K139
                                                          refine HC_region ?_
                                                          all_goals refine HL_r rfl rfl rfl rfl (R_move rfl) ?_
                                                          all_goals (refine HL_r rfl rfl rfl rfl (R_pure rfl rfl rfl) ?_; refine HL_wrap_i64 (by omega) (by omega) ?_)
                                                          all_goals refine HL_r rfl rfl rfl rfl (R_assign rfl) ?_
                                                          all_goals refine HL_nil ?_
                                                          all_goals (
                                                            refine HQ_then ?_
                                                            exact HQ_again (i + 1, _, mm) ⟨by simp only; omega, by first | (simp only [‹bb = true›, Bool.true_and] at hinv; exact hinv) | (simp only [‹bb = false›, Bool.false_and] at hinv ⊢; exact hinv), hmm⟩ (by simp only; omega) (.cons rfl (.cons rfl (.cons rfl (.cons rfl (.cons rfl (.cons rfl .nil)))))) (List.Sublist.refl _) (fun _ _ h => h)
                                                            skip)
                                                          skip)
                                                        skip)
                                                      skip)
                                                  · try exact Bool.noConfusion h143
                                                    all_goals try simp only [decide_eq_true_eq, decide_eq_false_iff_not, beq_iff_eq, beq_eq_false_iff_ne, bne_iff_ne, bne_eq_false_iff_eq, Bool.not_eq_true', Bool.not_eq_false', ne_eq, Int.not_lt, Int.not_le, ge_iff_le, gt_iff_lt] at h143
                                                    all_goals (
                                                      refine HC_skip ?_
                                                      refine HQ_then ?_
                                                      refine hK141 _ _ _ _ ?_; clear hK141 K141
                                                      refine HC_draw 16 (by kernel_rfl) (by kernel_rfl) ?_
                                                      all_goals refine HD_r rfl rfl rfl (R_move rfl) ?_
                                                      all_goals refine HD_r rfl rfl rfl (R_move rfl) ?_
                                                      all_goals (refine HD_case 97 rfl (fun hb156 => ?_) (fun hb156 => ?_) <;> (try simp only [decide_eq_true_eq, decide_eq_false_iff_not, beq_iff_eq, beq_eq_false_iff_ne, bne_iff_ne, bne_eq_false_iff_eq, Bool.not_eq_true', Bool.not_eq_false', ne_eq, Int.not_lt, Int.not_le, ge_iff_le, gt_iff_lt] at hb156) <;> first | (refine HD_r rfl rfl rfl (R_fieldAddr rfl rfl (by first | (simp only [Nat.zero_add, Nat.reduceAdd, Nat.reduceMul, Nat.zero_mul, Nat.mul_one, Nat.add_zero]; exact rfl) | exact rfl)) ?_) | (refine HD_skip rfl rfl rfl ?_))
                                                      all_goals first
                                                        | (refine HD_r rfl rfl rfl (R_load rfl (known_L (k := 1) rfl) rfl rfl) ?_)
                                                        | (refine HD_skip rfl rfl rfl ?_)
                                                      all_goals first
                                                        | (refine HD_r rfl rfl rfl (R_move rfl) ?_)
                                                        | (refine HD_skip rfl rfl rfl ?_)
                                                      all_goals first
                                                        | (refine HD_r rfl rfl rfl (R_indexPl (j := kkx k ins i) rfl hst rfl rfl rfl (by first | (rw [kkx_7 (by assumption)]; split <;> omega) | (rw [kkx_0 (by assumption)]; rfl)) (kkx_lt h0l i)) ?_)
                                                        | (refine HD_skip rfl rfl rfl ?_)
                                                      all_goals first
                                                        | (refine HD_r rfl rfl rfl (R_loadTy (fun q hq => Or.inr hq) rfl hst hty.1 rfl rfl) ?_)
                                                        | (refine HD_skip rfl rfl rfl ?_)
                                                      all_goals first
                                                        | (refine HD_r rfl rfl rfl (R_fieldAddr rfl rfl (by first | (simp only [Nat.zero_add, Nat.reduceAdd, Nat.reduceMul, Nat.zero_mul, Nat.mul_one, Nat.add_zero]; exact rfl) | exact rfl)) ?_)
                                                        | (refine HD_skip rfl rfl rfl ?_)
                                                      all_goals first
                                                        | (refine HD_r rfl rfl rfl (R_load rfl (known_L (k := 0) rfl) rfl rfl) ?_)
                                                        | (refine HD_skip rfl rfl rfl ?_)
                                                      all_goals first
                                                        | (refine HD_r rfl rfl rfl (R_move rfl) ?_)
                                                        | (refine HD_skip rfl rfl rfl ?_)
                                                      all_goals first
                                                        | (refine HD_r rfl rfl rfl (R_indexPl (j := i) rfl hs rfl rfl rfl rfl (by omega)) ?_)
                                                        | (refine HD_skip rfl rfl rfl ?_)
                                                      all_goals first
                                                        | (refine HD_r rfl rfl rfl (R_loadVl (fun q hq => Or.inr hq) rfl hs hx rfl rfl) ?_)
                                                        | (refine HD_skip rfl rfl rfl ?_)
                                                      all_goals first
                                                        | (refine HD_callR rfl rfl rfl (enters_of Tryd.func19 (by kernel_rfl) rfl) (S_Fits (hit _ hty.2) (hi x hmx)) (fun q hq => Or.inr hq) ?_)
                                                        | (refine HD_skip rfl rfl rfl ?_)
                                                      all_goals first
                                                        | (refine HD_r rfl rfl rfl (R_pure rfl rfl rfl) ?_)
                                                        | (refine HD_skip rfl rfl rfl ?_)
                                                      all_goals first
                                                        | (refine HD_r rfl rfl rfl (R_pickT rfl rfl) ?_)
                                                        | (refine HD_r rfl rfl rfl (R_pickF rfl rfl) ?_)
                                                      all_goals refine HD_r rfl rfl rfl (R_assign rfl) ?_
                                                      all_goals refine HD_end ?_
                                                      all_goals refine HL_nil ?_
                                                      all_goals (
                                                        refine HQ_blockN ?_
                                                        refine HQ_then ?_
                                                        refine hK139 _ _ _ _ ?_; clear hK139 K139
                                                        refine HC_region ?_
                                                        all_goals refine HL_r rfl rfl rfl rfl (R_move rfl) ?_
                                                        all_goals (refine HL_r rfl rfl rfl rfl (R_pure rfl rfl rfl) ?_; refine HL_wrap_i64 (by omega) (by omega) ?_)
                                                        all_goals refine HL_r rfl rfl rfl rfl (R_assign rfl) ?_
                                                        all_goals refine HL_nil ?_
                                                        all_goals (
                                                          refine HQ_then ?_
                                                          exact HQ_again (i + 1, _, mm) ⟨by simp only; omega, by first | (simp only [‹bb = true›, Bool.true_and] at hinv; exact hinv) | (simp only [‹bb = false›, Bool.false_and] at hinv ⊢; exact hinv), hmm⟩ (by simp only; omega) (.cons rfl (.cons rfl (.cons rfl (.cons rfl (.cons rfl (.cons rfl .nil)))))) (List.Sublist.refl _) (fun _ _ h => h)
                                                          skip)
                                                        skip)
                                                      skip)
                                                  skip)
                                                skip)
                                              skip)
                                          · try exact Bool.noConfusion h138
                                            all_goals try simp only [decide_eq_true_eq, decide_eq_false_iff_not, beq_iff_eq, beq_eq_false_iff_ne, bne_iff_ne, bne_eq_false_iff_eq, Bool.not_eq_true', Bool.not_eq_false', ne_eq, Int.not_lt, Int.not_le, ge_iff_le, gt_iff_lt] at h138
                                            all_goals (
                                              refine HC_exit ?_
                                              refine HQ_thenE ?_; clear hK136 K136
                                              refine HQ_thenE ?_
                                              refine HQ_blockE ?_
                                              refine HQ_then ?_
                                              refine hK134 _ _ _ _ ?_; clear hK134 K134
                                              refine HC_seq fun K168 hK168 => ?_
                                              have hbe : bb = (baseB a b c d bits pick && partsB items k ins 0) := by rw [← hinv, List.drop_of_length_le (by omega), partsB, Bool.and_true]
                                              have hfin : decide (fitsT (.mk k n p ins) (.mk a b c d bits pb items pi pick) = 0) = (bb && mm) := by rw [hlaw, hbe, hmm]; rfl
                                              clear hbe hlaw hmm
                                              refine HC_region ?_
                                              all_goals refine HL_r rfl rfl rfl rfl (R_move rfl) ?_
                                              all_goals refine HL_r rfl rfl rfl rfl (R_move rfl) ?_
                                              all_goals (refine HL_r rfl rfl rfl rfl (R_loadA (vs := [_, _, _]) rfl (known_L (k := 1) rfl) rfl rfl rfl rfl) ?_)
                                              all_goals (refine HL_r rfl rfl rfl rfl (R_loadA (vs := [_, _, _, _, _, _, _]) rfl (known_L (k := 0) rfl) rfl rfl rfl rfl) ?_)
                                              all_goals (refine HL_callR rfl rfl rfl (enters_of Tryd.func19 (by kernel_rfl) rfl) s4 (fun q hq => Or.inr hq) ?_)
                                              all_goals (refine HL_r rfl rfl rfl rfl (R_pure rfl rfl rfl) ?_)
                                              all_goals (refine HL_r rfl rfl rfl rfl (R_move rfl) ?_)
                                              all_goals (refine HL_r rfl rfl rfl rfl (R_move rfl) ?_)
                                              all_goals (refine HL_case 118 rfl (fun hb175 => ?_) (fun hb175 => ?_) <;> (try simp only [decide_eq_true_eq, decide_eq_false_iff_not, beq_iff_eq, beq_eq_false_iff_ne, bne_iff_ne, bne_eq_false_iff_eq, Bool.not_eq_true', Bool.not_eq_false', ne_eq, Int.not_lt, Int.not_le, ge_iff_le, gt_iff_lt] at hb175) <;> first | (refine HL_r rfl rfl rfl rfl (R_move rfl) ?_) | (refine HL_skip rfl rfl rfl ?_))
                                              all_goals first
                                                | (refine HL_r rfl rfl rfl rfl (R_pickT rfl rfl) ?_)
                                                | (refine HL_r rfl rfl rfl rfl (R_pickF rfl rfl) ?_)
                                              all_goals (refine HL_r rfl rfl rfl rfl (R_pure rfl rfl rfl) ?_)
                                              all_goals (refine HL_r rfl rfl rfl rfl (R_pickT rfl rfl) ?_)
                                              all_goals refine HL_r rfl rfl rfl rfl (R_assign rfl) ?_
                                              all_goals refine HL_nil ?_
                                              all_goals (
                                                refine HQ_then ?_
                                                refine hK168 _ _ _ _ ?_; clear hK168 K168
                                                refine HC_ret ?_
                                                refine HQ_post rfl rfl (.cons (res_tmp rfl) .nil) (fun w1 hs1 => ?_)
                                                refine ⟨?_, hs1.keep⟩
                                                simp only [resVal]
                                                try simp_all [baseB]
                                                all_goals first | done | omega | (trace_state; omega)
                                                skip)
                                              skip)
                                          skip)
                                        skip)
                                      skip)
                                    skip)
                                · try exact Bool.noConfusion h133
                                  all_goals try simp only [decide_eq_true_eq, decide_eq_false_iff_not, beq_iff_eq, beq_eq_false_iff_ne, bne_iff_ne, bne_eq_false_iff_eq, Bool.not_eq_true', Bool.not_eq_false', ne_eq, Int.not_lt, Int.not_le, ge_iff_le, gt_iff_lt] at h133
                                  all_goals (
                                    refine HC_skip ?_
                                    refine HQ_then ?_
                                    refine hK131 _ _ _ _ ?_; clear hK131 K131
                                    refine HC_seq fun K178 hK178 => ?_
                                    refine HC_seq fun K179 hK179 => ?_
                                    refine HC_region ?_
                                    all_goals refine HL_r rfl rfl rfl rfl (R_assign rfl) ?_
                                    all_goals refine HL_nil ?_
                                    all_goals (
                                      refine HQ_then ?_
                                      refine hK179 _ _ _ _ ?_; clear hK179 K179
                                      refine HC_block ?_
                                      first
                                        | refine HC_loop (σ := Nat × Bool × Bool) (fun s => s.1 ≤ items.length ∧ (s.2.1 && partsB (items.drop s.1) k ins s.1) = (baseB a b c d bits pick && partsB items k ins 0) ∧ s.2.2 = manyB k n ins.length items.length) (fun s => [(2, .pointer (some ⟨r1, 0, none⟩)), (3, .pointer (some ⟨r2, 0, none⟩)), (5, .bool true), (7, .bool s.2.1), (8, .bool s.2.2), (9, .int .i64 (s.1 : Int))]) (fun _ => [(r2, .cells #[uV a, uV b, uV c, uV d, plV bits.length pb, plV items.length pi, .int .i64 pick] 31 (0, 0)), (r1, .cells #[.int .i64 k, .int .i64 n, plV ins.length p] 24 (0, 0))]) (fun _ _ _ => True) (fun s => items.length - s.1) (0, decide ([a, b, c, d] = [0, 0, 0, 0]), decide ((items.length : Int) ≤ n)) ⟨by omega, by simp_all [baseB], by unfold manyB; first | (simp_all; done) | (simp_all; rw [Bool.eq_iff_iff]; simp only [beq_iff_eq, decide_eq_true_eq]; omega) | (simp_all; rfl)⟩ (.cons rfl (.cons rfl (.cons rfl (.cons rfl (.cons rfl (.cons rfl .nil)))))) (List.Sublist.refl _) (fun _ _ h => h) ?_
                                        | refine HC_loop (σ := Nat × Bool × Bool) (fun s => s.1 ≤ items.length ∧ (s.2.1 && partsB (items.drop s.1) k ins s.1) = (baseB a b c d bits pick && partsB items k ins 0) ∧ s.2.2 = manyB k n ins.length items.length) (fun s => [(2, .pointer (some ⟨r1, 0, none⟩)), (3, .pointer (some ⟨r2, 0, none⟩)), (5, .bool true), (7, .bool s.2.1), (8, .bool s.2.2), (9, .int .i64 (s.1 : Int))]) (fun _ => [(r2, .cells #[uV a, uV b, uV c, uV d, plV bits.length pb, plV items.length pi, .int .i64 pick] 31 (0, 0)), (r1, .cells #[.int .i64 k, .int .i64 n, plV ins.length p] 24 (0, 0))]) (fun _ _ _ => True) (fun s => items.length - s.1) (0, decide ([a, b, c, d] = [0, 0, 0, 0]), ((items.length : Int) == n)) ⟨by omega, by simp_all [baseB], by unfold manyB; first | (simp_all; done) | (simp_all; rw [Bool.eq_iff_iff]; simp only [beq_iff_eq, decide_eq_true_eq]; omega) | (simp_all; rfl)⟩ (.cons rfl (.cons rfl (.cons rfl (.cons rfl (.cons rfl (.cons rfl .nil)))))) (List.Sublist.refl _) (fun _ _ h => h) ?_
                                        | refine HC_loop (σ := Nat × Bool × Bool) (fun s => s.1 ≤ items.length ∧ (s.2.1 && partsB (items.drop s.1) k ins s.1) = (baseB a b c d bits pick && partsB items k ins 0) ∧ s.2.2 = manyB k n ins.length items.length) (fun s => [(2, .pointer (some ⟨r1, 0, none⟩)), (3, .pointer (some ⟨r2, 0, none⟩)), (5, .bool true), (7, .bool s.2.1), (8, .bool s.2.2), (9, .int .i64 (s.1 : Int))]) (fun _ => [(r2, .cells #[uV a, uV b, uV c, uV d, plV bits.length pb, plV items.length pi, .int .i64 pick] 31 (0, 0)), (r1, .cells #[.int .i64 k, .int .i64 n, plV ins.length p] 24 (0, 0))]) (fun _ _ _ => True) (fun s => items.length - s.1) (0, decide ([a, b, c, d] = [0, 0, 0, 0]), ((items.length : Int) == (ins.length : Int))) ⟨by omega, by simp_all [baseB], by unfold manyB; first | (simp_all; done) | (simp_all; rw [Bool.eq_iff_iff]; simp only [beq_iff_eq, decide_eq_true_eq]; omega) | (simp_all; rfl)⟩ (.cons rfl (.cons rfl (.cons rfl (.cons rfl (.cons rfl (.cons rfl .nil)))))) (List.Sublist.refl _) (fun _ _ h => h) ?_
                                        | refine HC_loop (σ := Nat × Bool × Bool) (fun s => s.1 ≤ items.length ∧ (s.2.1 && partsB (items.drop s.1) k ins s.1) = (baseB a b c d bits pick && partsB items k ins 0) ∧ s.2.2 = manyB k n ins.length items.length) (fun s => [(2, .pointer (some ⟨r1, 0, none⟩)), (3, .pointer (some ⟨r2, 0, none⟩)), (5, .bool true), (7, .bool s.2.1), (8, .bool s.2.2), (9, .int .i64 (s.1 : Int))]) (fun _ => [(r2, .cells #[uV a, uV b, uV c, uV d, plV bits.length pb, plV items.length pi, .int .i64 pick] 31 (0, 0)), (r1, .cells #[.int .i64 k, .int .i64 n, plV ins.length p] 24 (0, 0))]) (fun _ _ _ => True) (fun s => items.length - s.1) (0, false, decide ((items.length : Int) ≤ n)) ⟨by omega, by simp_all [baseB], by unfold manyB; first | (simp_all; done) | (simp_all; rw [Bool.eq_iff_iff]; simp only [beq_iff_eq, decide_eq_true_eq]; omega) | (simp_all; rfl)⟩ (.cons rfl (.cons rfl (.cons rfl (.cons rfl (.cons rfl (.cons rfl .nil)))))) (List.Sublist.refl _) (fun _ _ h => h) ?_
                                        | refine HC_loop (σ := Nat × Bool × Bool) (fun s => s.1 ≤ items.length ∧ (s.2.1 && partsB (items.drop s.1) k ins s.1) = (baseB a b c d bits pick && partsB items k ins 0) ∧ s.2.2 = manyB k n ins.length items.length) (fun s => [(2, .pointer (some ⟨r1, 0, none⟩)), (3, .pointer (some ⟨r2, 0, none⟩)), (5, .bool true), (7, .bool s.2.1), (8, .bool s.2.2), (9, .int .i64 (s.1 : Int))]) (fun _ => [(r2, .cells #[uV a, uV b, uV c, uV d, plV bits.length pb, plV items.length pi, .int .i64 pick] 31 (0, 0)), (r1, .cells #[.int .i64 k, .int .i64 n, plV ins.length p] 24 (0, 0))]) (fun _ _ _ => True) (fun s => items.length - s.1) (0, false, ((items.length : Int) == n)) ⟨by omega, by simp_all [baseB], by unfold manyB; first | (simp_all; done) | (simp_all; rw [Bool.eq_iff_iff]; simp only [beq_iff_eq, decide_eq_true_eq]; omega) | (simp_all; rfl)⟩ (.cons rfl (.cons rfl (.cons rfl (.cons rfl (.cons rfl (.cons rfl .nil)))))) (List.Sublist.refl _) (fun _ _ h => h) ?_
                                        | refine HC_loop (σ := Nat × Bool × Bool) (fun s => s.1 ≤ items.length ∧ (s.2.1 && partsB (items.drop s.1) k ins s.1) = (baseB a b c d bits pick && partsB items k ins 0) ∧ s.2.2 = manyB k n ins.length items.length) (fun s => [(2, .pointer (some ⟨r1, 0, none⟩)), (3, .pointer (some ⟨r2, 0, none⟩)), (5, .bool true), (7, .bool s.2.1), (8, .bool s.2.2), (9, .int .i64 (s.1 : Int))]) (fun _ => [(r2, .cells #[uV a, uV b, uV c, uV d, plV bits.length pb, plV items.length pi, .int .i64 pick] 31 (0, 0)), (r1, .cells #[.int .i64 k, .int .i64 n, plV ins.length p] 24 (0, 0))]) (fun _ _ _ => True) (fun s => items.length - s.1) (0, false, ((items.length : Int) == (ins.length : Int))) ⟨by omega, by simp_all [baseB], by unfold manyB; first | (simp_all; done) | (simp_all; rw [Bool.eq_iff_iff]; simp only [beq_iff_eq, decide_eq_true_eq]; omega) | (simp_all; rfl)⟩ (.cons rfl (.cons rfl (.cons rfl (.cons rfl (.cons rfl (.cons rfl .nil)))))) (List.Sublist.refl _) (fun _ _ h => h) ?_
                                      rintro ⟨i, bb, mm⟩ ⟨hi1, hinv, hmm⟩
                                      simp only at hinv hi1 hmm
                                      change HC _ _ [(2, _), (3, _), (5, _), (7, .bool bb), (8, .bool mm), (9, .int .i64 (i : Int))] _ _ _ _
                                      refine HC_seq fun K180 hK180 => ?_
                                      refine HC_seq fun K181 hK181 => ?_
                                      refine HC_region ?_
                                      all_goals refine HL_r rfl rfl rfl rfl (R_move rfl) ?_
                                      all_goals refine HL_r rfl rfl rfl rfl (R_fieldAddr rfl rfl (by first | (simp only [Nat.zero_add, Nat.reduceAdd, Nat.reduceMul, Nat.zero_mul, Nat.mul_one, Nat.add_zero]; exact rfl) | exact rfl)) ?_
                                      all_goals (refine HL_r rfl rfl rfl rfl (R_load rfl (known_L (k := 0) rfl) rfl rfl) ?_)
                                      all_goals (refine HL_r rfl rfl rfl rfl (R_lenPl rfl hs rfl) ?_)
                                      all_goals refine HL_r rfl rfl rfl rfl (R_pure rfl rfl rfl) ?_
                                      all_goals refine HL_nil ?_
                                      all_goals (
                                        refine HQ_then ?_
                                        refine hK181 _ _ _ _ ?_; clear hK181 K181
                                        refine HC_cond rfl (fun h182 => ?_) (fun h182 => ?_)
                                        · try exact Bool.noConfusion h182
                                          all_goals try simp only [decide_eq_true_eq, decide_eq_false_iff_not, beq_iff_eq, beq_eq_false_iff_ne, bne_iff_ne, bne_eq_false_iff_eq, Bool.not_eq_true', Bool.not_eq_false', ne_eq, Int.not_lt, Int.not_le, ge_iff_le, gt_iff_lt] at h182
                                          all_goals (
                                            refine HC_skip ?_
                                            refine HQ_then ?_
                                            refine hK180 _ _ _ _ ?_; clear hK180 K180
                                            refine HC_seq fun K183 hK183 => ?_
                                            refine HC_block ?_
                                            refine HC_seq fun K184 hK184 => ?_
                                            obtain ⟨x, hx, hmx⟩ := getI (show i < items.length by omega)
                                            have hty := kty_get (k := k) h0l i
                                            rw [dropI hx, partsB] at hinv
                                            refine HC_region ?_
                                            all_goals refine HL_r rfl rfl rfl rfl (R_assign rfl) ?_
                                            all_goals refine HL_nil ?_
                                            all_goals (
                                              refine HQ_then ?_
                                              refine hK184 _ _ _ _ ?_; clear hK184 K184
                                              refine HC_seq fun K185 hK185 => ?_
                                              refine HC_seq fun K186 hK186 => ?_
                                              refine HC_region ?_
                                              all_goals refine HL_r rfl rfl rfl rfl (R_fieldAddr rfl rfl (by first | (simp only [Nat.zero_add, Nat.reduceAdd, Nat.reduceMul, Nat.zero_mul, Nat.mul_one, Nat.add_zero]; exact rfl) | exact rfl)) ?_
                                              all_goals (refine HL_r rfl rfl rfl rfl (R_load rfl (known_L (k := 1) rfl) rfl rfl) ?_)
                                              all_goals refine HL_r rfl rfl rfl rfl (R_pure rfl rfl rfl) ?_
                                              all_goals refine HL_nil ?_
                                              all_goals (
                                                refine HQ_then ?_
                                                refine hK186 _ _ _ _ ?_; clear hK186 K186
                                                refine HC_cond rfl (fun h187 => ?_) (fun h187 => ?_)
                                                · try exact Bool.noConfusion h187
                                                  all_goals try simp only [decide_eq_true_eq, decide_eq_false_iff_not, beq_iff_eq, beq_eq_false_iff_ne, bne_iff_ne, bne_eq_false_iff_eq, Bool.not_eq_true', Bool.not_eq_false', ne_eq, Int.not_lt, Int.not_le, ge_iff_le, gt_iff_lt] at h187
                                                  all_goals (
                                                    refine HC_region ?_
                                                    all_goals refine HL_r rfl rfl rfl rfl (R_move rfl) ?_
                                                    all_goals refine HL_r rfl rfl rfl rfl (R_fieldAddr rfl rfl (by first | (simp only [Nat.zero_add, Nat.reduceAdd, Nat.reduceMul, Nat.zero_mul, Nat.mul_one, Nat.add_zero]; exact rfl) | exact rfl)) ?_
                                                    all_goals (refine HL_r rfl rfl rfl rfl (R_load rfl (known_L (k := 1) rfl) rfl rfl) ?_)
                                                    all_goals (refine HL_r rfl rfl rfl rfl (R_lenPl rfl hst rfl) ?_)
                                                    all_goals (refine HL_r rfl rfl rfl rfl (R_pure rfl rfl rfl) ?_; refine HL_wrap_i64 (by omega) (by omega) ?_)
                                                    all_goals refine HL_r rfl rfl rfl rfl (R_min2 rfl rfl rfl) ?_
                                                    all_goals refine HL_r rfl rfl rfl rfl (R_assign rfl) ?_
                                                    all_goals refine HL_nil ?_
                                                    all_goals (
                                                      refine HQ_then ?_
                                                      refine hK185 _ _ _ _ ?_; clear hK185 K185
                                                      refine HC_draw 16 (by kernel_rfl) (by kernel_rfl) ?_
                                                      all_goals refine HD_r rfl rfl rfl (R_move rfl) ?_
                                                      all_goals refine HD_r rfl rfl rfl (R_move rfl) ?_
                                                      all_goals (refine HD_case 97 rfl (fun hb188 => ?_) (fun hb188 => ?_) <;> (try simp only [decide_eq_true_eq, decide_eq_false_iff_not, beq_iff_eq, beq_eq_false_iff_ne, bne_iff_ne, bne_eq_false_iff_eq, Bool.not_eq_true', Bool.not_eq_false', ne_eq, Int.not_lt, Int.not_le, ge_iff_le, gt_iff_lt] at hb188) <;> first | (refine HD_r rfl rfl rfl (R_fieldAddr rfl rfl (by first | (simp only [Nat.zero_add, Nat.reduceAdd, Nat.reduceMul, Nat.zero_mul, Nat.mul_one, Nat.add_zero]; exact rfl) | exact rfl)) ?_) | (refine HD_skip rfl rfl rfl ?_))
                                                      all_goals first
                                                        | (refine HD_r rfl rfl rfl (R_load rfl (known_L (k := 1) rfl) rfl rfl) ?_)
                                                        | (refine HD_skip rfl rfl rfl ?_)
                                                      all_goals first
                                                        | (refine HD_r rfl rfl rfl (R_move rfl) ?_)
                                                        | (refine HD_skip rfl rfl rfl ?_)
                                                      all_goals first
                                                        | (refine HD_r rfl rfl rfl (R_indexPl (j := kkx k ins i) rfl hst rfl rfl rfl (by first | (rw [kkx_7 (by assumption)]; split <;> omega) | (rw [kkx_0 (by assumption)]; rfl)) (kkx_lt h0l i)) ?_)
                                                        | (refine HD_skip rfl rfl rfl ?_)
                                                      all_goals first
                                                        | (refine HD_r rfl rfl rfl (R_loadTy (fun q hq => Or.inr hq) rfl hst hty.1 rfl rfl) ?_)
                                                        | (refine HD_skip rfl rfl rfl ?_)
                                                      all_goals first
                                                        | (refine HD_r rfl rfl rfl (R_fieldAddr rfl rfl (by first | (simp only [Nat.zero_add, Nat.reduceAdd, Nat.reduceMul, Nat.zero_mul, Nat.mul_one, Nat.add_zero]; exact rfl) | exact rfl)) ?_)
                                                        | (refine HD_skip rfl rfl rfl ?_)
                                                      all_goals first
                                                        | (refine HD_r rfl rfl rfl (R_load rfl (known_L (k := 0) rfl) rfl rfl) ?_)
                                                        | (refine HD_skip rfl rfl rfl ?_)
                                                      all_goals first
                                                        | (refine HD_r rfl rfl rfl (R_move rfl) ?_)
                                                        | (refine HD_skip rfl rfl rfl ?_)
                                                      all_goals first
                                                        | (refine HD_r rfl rfl rfl (R_indexPl (j := i) rfl hs rfl rfl rfl rfl (by omega)) ?_)
                                                        | (refine HD_skip rfl rfl rfl ?_)
                                                      all_goals first
                                                        | (refine HD_r rfl rfl rfl (R_loadVl (fun q hq => Or.inr hq) rfl hs hx rfl rfl) ?_)
                                                        | (refine HD_skip rfl rfl rfl ?_)
                                                      all_goals first
                                                        | (refine HD_callR rfl rfl rfl (enters_of Tryd.func19 (by kernel_rfl) rfl) (S_Fits (hit _ hty.2) (hi x hmx)) (fun q hq => Or.inr hq) ?_)
                                                        | (refine HD_skip rfl rfl rfl ?_)
                                                      all_goals first
                                                        | (refine HD_r rfl rfl rfl (R_pure rfl rfl rfl) ?_)
                                                        | (refine HD_skip rfl rfl rfl ?_)
                                                      all_goals first
                                                        | (refine HD_r rfl rfl rfl (R_pickT rfl rfl) ?_)
                                                        | (refine HD_r rfl rfl rfl (R_pickF rfl rfl) ?_)
                                                      all_goals refine HD_r rfl rfl rfl (R_assign rfl) ?_
                                                      all_goals refine HD_end ?_
                                                      all_goals refine HL_nil ?_
                                                      all_goals (
                                                        refine HQ_blockN ?_
                                                        refine HQ_then ?_
                                                        refine hK183 _ _ _ _ ?_; clear hK183 K183
                                                        refine HC_region ?_
                                                        all_goals refine HL_r rfl rfl rfl rfl (R_move rfl) ?_
                                                        all_goals (refine HL_r rfl rfl rfl rfl (R_pure rfl rfl rfl) ?_; refine HL_wrap_i64 (by omega) (by omega) ?_)
                                                        all_goals refine HL_r rfl rfl rfl rfl (R_assign rfl) ?_
                                                        all_goals refine HL_nil ?_
                                                        all_goals (
                                                          refine HQ_then ?_
                                                          exact HQ_again (i + 1, _, mm) ⟨by simp only; omega, by first | (simp only [‹bb = true›, Bool.true_and] at hinv; exact hinv) | (simp only [‹bb = false›, Bool.false_and] at hinv ⊢; exact hinv), hmm⟩ (by simp only; omega) (.cons rfl (.cons rfl (.cons rfl (.cons rfl (.cons rfl (.cons rfl .nil)))))) (List.Sublist.refl _) (fun _ _ h => h)
                                                          skip)
                                                        skip)
                                                      skip)
                                                    skip)
                                                · try exact Bool.noConfusion h187
                                                  all_goals try simp only [decide_eq_true_eq, decide_eq_false_iff_not, beq_iff_eq, beq_eq_false_iff_ne, bne_iff_ne, bne_eq_false_iff_eq, Bool.not_eq_true', Bool.not_eq_false', ne_eq, Int.not_lt, Int.not_le, ge_iff_le, gt_iff_lt] at h187
                                                  all_goals (
                                                    refine HC_skip ?_
                                                    refine HQ_then ?_
                                                    refine hK185 _ _ _ _ ?_; clear hK185 K185
                                                    refine HC_draw 16 (by kernel_rfl) (by kernel_rfl) ?_
                                                    all_goals refine HD_r rfl rfl rfl (R_move rfl) ?_
                                                    all_goals refine HD_r rfl rfl rfl (R_move rfl) ?_
                                                    all_goals (refine HD_case 97 rfl (fun hb200 => ?_) (fun hb200 => ?_) <;> (try simp only [decide_eq_true_eq, decide_eq_false_iff_not, beq_iff_eq, beq_eq_false_iff_ne, bne_iff_ne, bne_eq_false_iff_eq, Bool.not_eq_true', Bool.not_eq_false', ne_eq, Int.not_lt, Int.not_le, ge_iff_le, gt_iff_lt] at hb200) <;> first | (refine HD_r rfl rfl rfl (R_fieldAddr rfl rfl (by first | (simp only [Nat.zero_add, Nat.reduceAdd, Nat.reduceMul, Nat.zero_mul, Nat.mul_one, Nat.add_zero]; exact rfl) | exact rfl)) ?_) | (refine HD_skip rfl rfl rfl ?_))
                                                    all_goals first
                                                      | (refine HD_r rfl rfl rfl (R_load rfl (known_L (k := 1) rfl) rfl rfl) ?_)
                                                      | (refine HD_skip rfl rfl rfl ?_)
                                                    all_goals first
                                                      | (refine HD_r rfl rfl rfl (R_move rfl) ?_)
                                                      | (refine HD_skip rfl rfl rfl ?_)
                                                    all_goals first
                                                      | (refine HD_r rfl rfl rfl (R_indexPl (j := kkx k ins i) rfl hst rfl rfl rfl (by first | (rw [kkx_7 (by assumption)]; split <;> omega) | (rw [kkx_0 (by assumption)]; rfl)) (kkx_lt h0l i)) ?_)
                                                      | (refine HD_skip rfl rfl rfl ?_)
                                                    all_goals first
                                                      | (refine HD_r rfl rfl rfl (R_loadTy (fun q hq => Or.inr hq) rfl hst hty.1 rfl rfl) ?_)
                                                      | (refine HD_skip rfl rfl rfl ?_)
                                                    all_goals first
                                                      | (refine HD_r rfl rfl rfl (R_fieldAddr rfl rfl (by first | (simp only [Nat.zero_add, Nat.reduceAdd, Nat.reduceMul, Nat.zero_mul, Nat.mul_one, Nat.add_zero]; exact rfl) | exact rfl)) ?_)
                                                      | (refine HD_skip rfl rfl rfl ?_)
                                                    all_goals first
                                                      | (refine HD_r rfl rfl rfl (R_load rfl (known_L (k := 0) rfl) rfl rfl) ?_)
                                                      | (refine HD_skip rfl rfl rfl ?_)
                                                    all_goals first
                                                      | (refine HD_r rfl rfl rfl (R_move rfl) ?_)
                                                      | (refine HD_skip rfl rfl rfl ?_)
                                                    all_goals first
                                                      | (refine HD_r rfl rfl rfl (R_indexPl (j := i) rfl hs rfl rfl rfl rfl (by omega)) ?_)
                                                      | (refine HD_skip rfl rfl rfl ?_)
                                                    all_goals first
                                                      | (refine HD_r rfl rfl rfl (R_loadVl (fun q hq => Or.inr hq) rfl hs hx rfl rfl) ?_)
                                                      | (refine HD_skip rfl rfl rfl ?_)
                                                    all_goals first
                                                      | (refine HD_callR rfl rfl rfl (enters_of Tryd.func19 (by kernel_rfl) rfl) (S_Fits (hit _ hty.2) (hi x hmx)) (fun q hq => Or.inr hq) ?_)
                                                      | (refine HD_skip rfl rfl rfl ?_)
                                                    all_goals first
                                                      | (refine HD_r rfl rfl rfl (R_pure rfl rfl rfl) ?_)
                                                      | (refine HD_skip rfl rfl rfl ?_)
                                                    all_goals first
                                                      | (refine HD_r rfl rfl rfl (R_pickT rfl rfl) ?_)
                                                      | (refine HD_r rfl rfl rfl (R_pickF rfl rfl) ?_)
                                                    all_goals refine HD_r rfl rfl rfl (R_assign rfl) ?_
                                                    all_goals refine HD_end ?_
                                                    all_goals refine HL_nil ?_
                                                    all_goals (
                                                      refine HQ_blockN ?_
                                                      refine HQ_then ?_
                                                      refine hK183 _ _ _ _ ?_; clear hK183 K183
                                                      refine HC_region ?_
                                                      all_goals refine HL_r rfl rfl rfl rfl (R_move rfl) ?_
                                                      all_goals (refine HL_r rfl rfl rfl rfl (R_pure rfl rfl rfl) ?_; refine HL_wrap_i64 (by omega) (by omega) ?_)
                                                      all_goals refine HL_r rfl rfl rfl rfl (R_assign rfl) ?_
                                                      all_goals refine HL_nil ?_
                                                      all_goals (
                                                        refine HQ_then ?_
                                                        exact HQ_again (i + 1, _, mm) ⟨by simp only; omega, by first | (simp only [‹bb = true›, Bool.true_and] at hinv; exact hinv) | (simp only [‹bb = false›, Bool.false_and] at hinv ⊢; exact hinv), hmm⟩ (by simp only; omega) (.cons rfl (.cons rfl (.cons rfl (.cons rfl (.cons rfl (.cons rfl .nil)))))) (List.Sublist.refl _) (fun _ _ h => h)
                                                        skip)
                                                      skip)
                                                    skip)
                                                skip)
                                              skip)
                                            skip)
                                        · try exact Bool.noConfusion h182
                                          all_goals try simp only [decide_eq_true_eq, decide_eq_false_iff_not, beq_iff_eq, beq_eq_false_iff_ne, bne_iff_ne, bne_eq_false_iff_eq, Bool.not_eq_true', Bool.not_eq_false', ne_eq, Int.not_lt, Int.not_le, ge_iff_le, gt_iff_lt] at h182
                                          all_goals (
                                            refine HC_exit ?_
                                            refine HQ_thenE ?_; clear hK180 K180
                                            refine HQ_thenE ?_
                                            refine HQ_blockE ?_
                                            refine HQ_then ?_
                                            refine hK178 _ _ _ _ ?_; clear hK178 K178
                                            refine HC_seq fun K212 hK212 => ?_
                                            have hbe : bb = (baseB a b c d bits pick && partsB items k ins 0) := by rw [← hinv, List.drop_of_length_le (by omega), partsB, Bool.and_true]
                                            have hfin : decide (fitsT (.mk k n p ins) (.mk a b c d bits pb items pi pick) = 0) = (bb && mm) := by rw [hlaw, hbe, hmm]; rfl
                                            clear hbe hlaw hmm
                                            refine HC_region ?_
                                            all_goals refine HL_r rfl rfl rfl rfl (R_move rfl) ?_
                                            all_goals refine HL_r rfl rfl rfl rfl (R_move rfl) ?_
                                            all_goals (refine HL_r rfl rfl rfl rfl (R_loadA (vs := [_, _, _]) rfl (known_L (k := 1) rfl) rfl rfl rfl rfl) ?_)
                                            all_goals (refine HL_r rfl rfl rfl rfl (R_loadA (vs := [_, _, _, _, _, _, _]) rfl (known_L (k := 0) rfl) rfl rfl rfl rfl) ?_)
                                            all_goals (refine HL_callR rfl rfl rfl (enters_of Tryd.func19 (by kernel_rfl) rfl) s4 (fun q hq => Or.inr hq) ?_)
                                            all_goals (refine HL_r rfl rfl rfl rfl (R_pure rfl rfl rfl) ?_)
                                            all_goals (refine HL_r rfl rfl rfl rfl (R_move rfl) ?_)
                                            all_goals (refine HL_r rfl rfl rfl rfl (R_move rfl) ?_)
                                            all_goals (refine HL_case 118 rfl (fun hb219 => ?_) (fun hb219 => ?_) <;> (try simp only [decide_eq_true_eq, decide_eq_false_iff_not, beq_iff_eq, beq_eq_false_iff_ne, bne_iff_ne, bne_eq_false_iff_eq, Bool.not_eq_true', Bool.not_eq_false', ne_eq, Int.not_lt, Int.not_le, ge_iff_le, gt_iff_lt] at hb219) <;> first | (refine HL_r rfl rfl rfl rfl (R_move rfl) ?_) | (refine HL_skip rfl rfl rfl ?_))
                                            all_goals first
                                              | (refine HL_r rfl rfl rfl rfl (R_pickT rfl rfl) ?_)
                                              | (refine HL_r rfl rfl rfl rfl (R_pickF rfl rfl) ?_)
                                            all_goals (refine HL_r rfl rfl rfl rfl (R_pure rfl rfl rfl) ?_)
                                            all_goals (refine HL_r rfl rfl rfl rfl (R_pickT rfl rfl) ?_)
                                            all_goals refine HL_r rfl rfl rfl rfl (R_assign rfl) ?_
                                            all_goals refine HL_nil ?_
                                            all_goals (
                                              refine HQ_then ?_
                                              refine hK212 _ _ _ _ ?_; clear hK212 K212
                                              refine HC_ret ?_
                                              refine HQ_post rfl rfl (.cons (res_tmp rfl) .nil) (fun w1 hs1 => ?_)
                                              refine ⟨?_, hs1.keep⟩
                                              simp only [resVal]
                                              try simp_all [baseB]
                                              all_goals first | done | omega | (trace_state; omega)
                                              skip)
                                            skip)
                                        skip)
                                      skip)
                                    skip)
                                skip)
                              skip)
                          skip)
                        skip)
                      skip)
                    skip)
                skip)
              skip)
            skip)
        skip)
      skip)
    skip)
end Go.Proofs.YtdadaddakcidjaaDoor
