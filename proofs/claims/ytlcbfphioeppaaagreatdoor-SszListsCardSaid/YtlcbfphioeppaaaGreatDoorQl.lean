import Derived.Test.YtlcbfphioeppaaaGreatDoorQld
namespace Go.Proofs.YtlcbfphioeppaaaGreatDoor
set_option linter.all false
open Go.SL Go.RowKit Go.Shelf
open Go.Proofs (Enters enters_of)
theorem putL_congr : ∀ {l : List Vl} {k k' pick pick' : Int} {ins ins' : List Ty} {i : Nat}, (∀ j, j < l.length → inTy k pick ins (i + j) = inTy k' pick' ins' (i + j)) → putL l k pick ins i = putL l k' pick' ins' i
  | [], _, _, _, _, _, _, _, _ => by rw [putL, putL]
  | x :: xs, k, k', pick, pick', ins, ins', i, h => by
    have h0 := h 0 (by simp)
    rw [Nat.add_zero] at h0
    rw [putL, putL, h0, putL_congr (l := xs) (k := k) (k' := k') (pick := pick) (pick' := pick') (ins := ins) (ins' := ins') (i := i + 1) fun j hj => by
      rw [show i + 1 + j = i + (j + 1) by omega]; exact h (j + 1) (by simpa using hj)]
section
variable {a b c d : Nat} {bits : List Bool} {pb : Pl} {items : List Vl} {pi : Pl} {pick n : Int} {p p' : Pl} {ins : List Ty}
theorem putR_34 (h : fitsT (.mk 4 n p ins) (.mk a b c d bits pb items pi pick) = 0) (hl : (items.length : Int) = n) : putR (.mk 3 n p ins) (.mk a b c d bits pb items pi pick) = putR (.mk 4 n p ins) (.mk a b c d bits pb items pi pick) := by
  have e : putV (.mk a b c d bits pb items pi pick) (.mk 3 n p ins) = putV (.mk a b c d bits pb items pi pick) (.mk 4 n p ins) := by
    rw [putV_mk, putV_mk, putL_congr (k := 3) (k' := 4) (ins := ins) (ins' := ins) (pick := pick) (pick' := pick) fun j _ => rfl]
    rfl
  unfold putR
  rw [fits_34 h hl, h, e]
theorem inTy_rep {x : Ty} {N i : Nat} (h : i < N) (pick : Int) : inTy 7 pick (List.replicate N x) i = x := by
  unfold inTy inX
  rw [if_pos rfl, List.getD_eq_getElem?_getD, List.getElem?_replicate, if_pos h]; rfl
theorem putR_7 {x : Ty} {N : Nat} (h : fitsT (.mk 4 n p [x]) (.mk a b c d bits pb items pi pick) = 0) (hl : (items.length : Int) = n) (hN : N = items.length) (h16 : N ≤ 16) : putR (.mk 7 0 p' (List.replicate N x)) (.mk a b c d bits pb items pi pick) = putR (.mk 4 n p [x]) (.mk a b c d bits pb items pi pick) := by
  obtain ⟨hc, hf⟩ := fits_split h
  obtain ⟨_, ho, _, hs⟩ := chk_mk hc
  obtain ⟨h1, h2, h3⟩ := fit_split hf
  have hN1 : 1 ≤ N := by unfold okForm at ho; simp at ho; omega
  have hc7 : chk (.mk 7 0 p' (List.replicate N x)) 0 = 0 := by
    rw [chk_in' (by decide) (by unfold okForm; rw [List.length_replicate]; simp; omega), if_neg (by decide)]; exact chkL_zero fun y hy => by rw [List.eq_of_mem_replicate hy]; exact hs x List.mem_cons_self
  have hf7 : fitT (.mk a b c d bits pb items pi pick) (.mk 7 0 p' (List.replicate N x)) = 0 := by
    refine (fit_ok (by omega) ?_).trans ?_
    · rw [ofT_mk 4 n [x].length a b c d bits pb items pi pick _ rfl] at h2
      rw [ofT_mk 7 0 _ a b c d bits pb items pi pick _ rfl, List.length_replicate]; simp at h2 ⊢; exact ⟨h2, hN.symm⟩
    · exact fitL_zero fun j y hy => by
        have hj := (List.getElem?_eq_some_iff.1 hy).1
        have := fitL_get h3 hy
        rw [Nat.zero_add] at this ⊢; rw [inTy_rep (by omega)]; exact this
  have hf7' : fitsT (.mk 7 0 p' (List.replicate N x)) (.mk a b c d bits pb items pi pick) = 0 := by unfold fitsT; rw [if_pos hc7]; exact hf7
  have e : putV (.mk a b c d bits pb items pi pick) (.mk 7 0 p' (List.replicate N x)) = putV (.mk a b c d bits pb items pi pick) (.mk 4 n p [x]) := by
    have e1 : tysN 7 (List.replicate N x) items.length = tysN 4 [x] items.length := by
      unfold tysN
      exact List.map_congr_left fun i hi => by have := List.mem_range.1 hi; rw [inTy_rep (by omega)]; rfl
    have e2 : putL items 7 pick (List.replicate N x) 0 = putL items 4 pick [x] 0 := putL_congr fun j hj => by rw [Nat.zero_add, inTy_rep (by omega)]; rfl
    rw [putV_mk, putV_mk]; simp only [show ¬ ((7 : Int) = 1) by decide, show ¬ ((7 : Int) = 2) by decide, show ¬ ((7 : Int) = 5) by decide, show ¬ ((7 : Int) = 6) by decide, show ¬ ((7 : Int) = 8) by decide, show ¬ ((4 : Int) = 1) by decide, show ¬ ((4 : Int) = 2) by decide, show ¬ ((4 : Int) = 5) by decide, show ¬ ((4 : Int) = 6) by decide, show ¬ ((4 : Int) = 8) by decide, if_false]; rw [e2]
    first | rw [e1] | skip
    first | done | (rw [putL_n8 (by decide), tysN_put] )
  unfold putR
  rw [hf7', h, e]
end
theorem tysC_rep (x : Ty) (i : Nat) : tysC (List.replicate (i + 1) x) = tysC (List.replicate i x) ++ x.cells := by
  unfold tysC; rw [List.replicate_succ', List.flatMap_append]; simp
set_option maxRecDepth 10000 in
set_option maxHeartbeats 1000000 in
theorem L_SszLists {R : List (Nat × Obj)} {t : Ty} {v : Vl} (ht : t.In R) (hv : v.In R) : PureR Tryz.prog 8 [t.val, v.val].toArray (.bool true) R := by
  have h1 := S_few8 ht hv
  have hF := S_Fits ht hv
  have hfw := fun h : few8 t v = true => few8_w h
  have s1 := fun h : few8 t v = true => S_sPut ht hv (few8_w h)
  obtain ⟨k, n, p, ins⟩ := t
  obtain ⟨a, b, c, d, bits, pb, items, pi, pick⟩ := v
  have hs : Seg R items.length (vlsC items) pi := by cases hv; assumption
  have hst : Seg R ins.length (tysC ins) p := by cases ht; assumption
  have hti := ht.sub
  obtain ⟨q, hq⟩ : ∃ q, putR (.mk k n p ins) (.mk a b c d bits pb items pi pick) = q := ⟨_, rfl⟩
  have s2 : few8 (.mk k n p ins) (.mk a b c d bits pb items pi pick) = true → k = 4 → (items.length : Int) = n → fitsT (.mk k n p ins) (.mk a b c d bits pb items pi pick) = 0 → PureR Tryz.prog 17 [Ty.val (.mk 3 n p ins), Vl.val (.mk a b c d bits pb items pi pick)].toArray (resS q) R := fun h hk hn hf => by
    subst hk
    have := S_sPut (tyIn_as ht (k' := 3) (iz 3)) hv (hfw h)
    rw [putR_34 hf hn, hq] at this; exact this
  have hone : k = 4 → fitsT (.mk k n p ins) (.mk a b c d bits pb items pi pick) = 0 → ∃ x, ins = [x] ∧ 0 ≤ n := fun hk hf => by
    subst hk
    obtain ⟨_, ho, _, _⟩ := chk_mk (fits_split hf).1
    unfold okForm at ho
    simp at ho
    obtain ⟨x, hx⟩ := List.length_eq_one_iff.1 ho.1.1
    exact ⟨x, hx, by omega⟩
  have s3 : ∀ (x : Ty) (N : Nat) (p' : Pl) (Y : List (Nat × Obj)), few8 (.mk k n p ins) (.mk a b c d bits pb items pi pick) = true → k = 4 → ins = [x] → (items.length : Int) = n → fitsT (.mk k n p ins) (.mk a b c d bits pb items pi pick) = 0 → N = items.length → N ≤ 16 → Seg Y N (tysC (List.replicate N x)) p' →
      PureR Tryz.prog 17 [Ty.val (.mk 7 0 p' (List.replicate N x)), Vl.val (.mk a b c d bits pb items pi pick)].toArray (resS q) (Y ++ R) := fun x N p' Y h hk hx hn hf hN h16 hY => by
    subst hk hx
    have hIn : Ty.In (Y ++ R) (.mk 7 0 p' (List.replicate N x)) := .mk (iz 7) (iz 0) (by rw [List.length_replicate]; omega) (by rw [List.length_replicate]; exact hY.mono fun q hq => List.mem_append_left _ hq) (fun z hz => by rw [List.eq_of_mem_replicate hz]; exact (hti x List.mem_cons_self).mono fun q hq => List.mem_append_right _ hq)
    have := S_sPut hIn (hv.mono (R' := Y ++ R) fun q hq => List.mem_append_right _ hq) (hfw h)
    rw [putR_7 hf hn hN h16, hq] at this; exact this
  rw [hq] at s1
  generalize few8 (.mk k n p ins) (.mk a b c d bits pb items pi pick) = fw at h1 s1 s2 s3
  generalize fitsT (.mk k n p ins) (.mk a b c d bits pb items pi pick) = e at hF s2 s3 hone
  obtain ⟨P, g⟩ := q
  refine pureR_of_HC Tryz.func8 rfl rfl fun w => ?_; refine HC_seq fun K1 hK1 => ?_; refine HC_region ?_; refine HL_box (cs := #[_, _, _]) rfl rfl rfl rfl fun r1 => ?_; refine HL_box (cs := #[_, _, _, _, _, _, _]) rfl rfl rfl rfl fun r2 => ?_; refine HL_r rfl rfl rfl rfl (R_assign rfl) ?_; refine HL_nil ?_; refine HQ_then ?_; refine hK1 _ _ _ _ ?_; clear hK1 K1; refine HC_seq fun K2 hK2 => ?_; refine HC_region ?_; refine HL_callP rfl rfl rfl (enters_of Tryz.func15 (by kernel_rfl) rfl) P_works08 ?_; refine HL_r rfl rfl rfl rfl (R_assign rfl) ?_; refine HL_nil ?_; refine HQ_then ?_; refine hK2 _ _ _ _ ?_; clear hK2 K2; refine HC_seq fun K3 hK3 => ?_; refine HC_seq fun K4 hK4 => ?_; refine HC_region ?_; refine HL_r rfl rfl rfl rfl (R_move rfl) ?_; refine HL_r rfl rfl rfl rfl (R_pure rfl rfl rfl) ?_; refine HL_nil ?_; refine HQ_then ?_; refine hK4 _ _ _ _ ?_; clear hK4 K4; refine HC_cond rfl (fun h5 => ?_) (fun h5 => ?_)
  · try exact Bool.noConfusion h5
  · try exact Bool.noConfusion h5
    try simp only [Z1, Z2, Z3, Z4, Z5, Z6, Z7, Z8, Z9, Z10, Z11, Z12, Z13] at h5
    refine HC_skip ?_; refine HQ_then ?_; refine hK3 _ _ _ _ ?_; clear hK3 K3; refine HC_seq fun K7 hK7 => ?_; refine HC_region ?_; refine HL_r rfl rfl rfl rfl (R_loadA (vs := [_, _, _]) rfl (known_L (k := 1) rfl) rfl rfl rfl rfl) ?_; refine HL_r rfl rfl rfl rfl (R_loadA (vs := [_, _, _, _, _, _, _]) rfl (known_L (k := 0) rfl) rfl rfl rfl rfl) ?_; refine HL_callR rfl rfl rfl (enters_of Tryz.func16 (by kernel_rfl) rfl) h1 (fun q hq => Or.inr hq) ?_; refine HL_r rfl rfl rfl rfl (R_assign rfl) ?_; refine HL_nil ?_; refine HQ_then ?_; refine hK7 _ _ _ _ ?_; clear hK7 K7; refine HC_seq fun K8 hK8 => ?_; refine HC_seq fun K9 hK9 => ?_; refine HC_region ?_; refine HL_r rfl rfl rfl rfl (R_move rfl) ?_; refine HL_r rfl rfl rfl rfl (R_pure rfl rfl rfl) ?_; refine HL_r rfl rfl rfl rfl (R_move rfl) ?_
    refine HL_case 23 rfl (fun hb10 => ?_) (fun hb10 => ?_) <;> (try simp only [Z1, Z2, Z3, Z4, Z5, Z6, Z7, Z8, Z9, Z10, Z11, Z12, Z13] at hb10) <;> first | (refine HL_r rfl rfl rfl rfl (R_fieldAddr rfl rfl (by first | (simp only [Nat.zero_add, Nat.reduceAdd, Nat.reduceMul, Nat.zero_mul, Nat.mul_one, Nat.add_zero]; exact rfl) | exact rfl)) ?_) | (refine HL_skip rfl rfl rfl ?_)
    all_goals first
      | (refine HL_r rfl rfl rfl rfl (R_load rfl (known_L (k := 1) rfl) rfl rfl) ?_)
      | (refine HL_skip rfl rfl rfl ?_)
    all_goals first
      | (refine HL_r rfl rfl rfl rfl (R_pure rfl rfl rfl) ?_)
      | (refine HL_skip rfl rfl rfl ?_)
    all_goals first
      | (refine HL_r rfl rfl rfl rfl (R_pickT rfl rfl) ?_)
      | (refine HL_r rfl rfl rfl rfl (R_pickF rfl rfl) ?_)
    all_goals refine HL_r rfl rfl rfl rfl (R_move rfl) ?_
    all_goals first
      | (refine HL_skip rfl rfl rfl ?_)
      | (refine HL_case 28 rfl (fun hb13 => ?_) (fun hb13 => ?_) <;> (try simp only [Z1, Z2, Z3, Z4, Z5, Z6, Z7, Z8, Z9, Z10, Z11, Z12, Z13] at hb13) <;> first | (refine HL_r rfl rfl rfl rfl (R_fieldAddr rfl rfl (by first | (simp only [Nat.zero_add, Nat.reduceAdd, Nat.reduceMul, Nat.zero_mul, Nat.mul_one, Nat.add_zero]; exact rfl) | exact rfl)) ?_) | (refine HL_skip rfl rfl rfl ?_))
    all_goals first
      | (refine HL_r rfl rfl rfl rfl (R_load rfl (known_L (k := 0) rfl) rfl rfl) ?_)
      | (refine HL_skip rfl rfl rfl ?_)
    all_goals first
      | (refine HL_r rfl rfl rfl rfl (R_lenPl rfl hs rfl) ?_)
      | (refine HL_skip rfl rfl rfl ?_)
    all_goals first
      | (refine HL_r rfl rfl rfl rfl (R_fieldAddr rfl rfl (by first | (simp only [Nat.zero_add, Nat.reduceAdd, Nat.reduceMul, Nat.zero_mul, Nat.mul_one, Nat.add_zero]; exact rfl) | exact rfl)) ?_)
      | (refine HL_skip rfl rfl rfl ?_)
    all_goals first
      | (refine HL_r rfl rfl rfl rfl (R_load rfl (known_L (k := 1) rfl) rfl rfl) ?_)
      | (refine HL_skip rfl rfl rfl ?_)
    all_goals first
      | (refine HL_r rfl rfl rfl rfl (R_pure rfl rfl rfl) ?_)
      | (refine HL_skip rfl rfl rfl ?_)
    all_goals first
      | (refine HL_r rfl rfl rfl rfl (R_pickT rfl rfl) ?_)
      | (refine HL_r rfl rfl rfl rfl (R_pickF rfl rfl) ?_)
    all_goals refine HL_r rfl rfl rfl rfl (R_move rfl) ?_
    all_goals first
      | (refine HL_skip rfl rfl rfl ?_)
      | (refine HL_case 36 rfl (fun hb19 => ?_) (fun hb19 => ?_) <;> (try simp only [Z1, Z2, Z3, Z4, Z5, Z6, Z7, Z8, Z9, Z10, Z11, Z12, Z13] at hb19) <;> first | (refine HL_r rfl rfl rfl rfl (R_loadA (vs := [_, _, _]) rfl (known_L (k := 0) rfl) rfl rfl rfl rfl) ?_) | (refine HL_r rfl rfl rfl rfl (R_loadA (vs := [_, _, _]) rfl (known_L (k := 1) rfl) rfl rfl rfl rfl) ?_) | (refine HL_r rfl rfl rfl rfl (R_loadA (vs := [_, _, _]) rfl (known_L (k := 2) rfl) rfl rfl rfl rfl) ?_) | (refine HL_skip rfl rfl rfl ?_))
    all_goals first
      | (refine HL_r rfl rfl rfl rfl (R_loadA (vs := [_, _, _, _, _, _, _]) rfl (known_L (k := 0) rfl) rfl rfl rfl rfl) ?_)
      | (refine HL_skip rfl rfl rfl ?_)
    all_goals first
      | (refine HL_callR rfl rfl rfl (enters_of Tryz.func22 (by kernel_rfl) rfl) hF (fun q hq => Or.inr hq) ?_)
      | (refine HL_skip rfl rfl rfl ?_)
    all_goals first
      | (refine HL_r rfl rfl rfl rfl (R_pure rfl rfl rfl) ?_)
      | (refine HL_skip rfl rfl rfl ?_)
    all_goals first
      | (refine HL_r rfl rfl rfl rfl (R_pickT rfl rfl) ?_)
      | (refine HL_r rfl rfl rfl rfl (R_pickF rfl rfl) ?_)
    all_goals refine HL_nil ?_
    all_goals (
     refine HQ_then ?_; refine hK9 _ _ _ _ ?_; clear hK9 K9; refine HC_cond rfl (fun h23 => ?_) (fun h23 => ?_)
     · try exact Bool.noConfusion h23
       try simp only [Z1, Z2, Z3, Z4, Z5, Z6, Z7, Z8, Z9, Z10, Z11, Z12, Z13] at h23
       refine HC_seq fun K24 hK24 => ?_; refine HC_region ?_; refine HL_r rfl rfl rfl rfl (R_move rfl) ?_; refine HL_r rfl rfl rfl rfl (R_assign rfl) ?_; refine HL_nil ?_; refine HQ_then ?_; refine hK24 _ _ _ _ ?_; clear hK24 K24; refine HC_ret ?_; refine HQ_thenR ?_; clear hK8 K8; refine HQ_post rfl rfl (.cons (res_tmp rfl) .nil) (fun w1 hs1 => ?_); exact ⟨rfl, hs1.keep⟩
     · try exact Bool.noConfusion h23
       all_goals try simp only [Z1, Z2, Z3, Z4, Z5, Z6, Z7, Z8, Z9, Z10, Z11, Z12, Z13] at h23
       all_goals (
        refine HC_skip ?_; refine HQ_then ?_; refine hK8 _ _ _ _ ?_; clear hK8 K8; refine HC_seq fun K25 hK25 => ?_; refine HC_region ?_; refine HL_r rfl rfl rfl rfl (R_loadA (vs := [_, _, _]) rfl (known_L (k := 1) rfl) rfl rfl rfl rfl) ?_; refine HL_r rfl rfl rfl rfl (R_loadA (vs := [_, _, _, _, _, _, _]) rfl (known_L (k := 0) rfl) rfl rfl rfl rfl) ?_; refine HL_callR rfl rfl rfl (enters_of Tryz.func17 (by kernel_rfl) rfl) (s1 (by assumption)) (fun q hq => Or.inr hq) ?_; refine HL_r rfl rfl rfl rfl (R_move rfl) ?_; refine HL_r rfl rfl rfl rfl (R_extract rfl rfl) ?_; refine HL_r rfl rfl rfl rfl (R_extract rfl rfl) ?_; refine HL_r rfl rfl rfl rfl (R_assign rfl) ?_; refine HL_r rfl rfl rfl rfl (R_assign rfl) ?_; refine HL_nil ?_; refine HQ_then ?_; refine hK25 _ _ _ _ ?_; clear hK25 K25; refine HC_seq fun K26 hK26 => ?_; refine HC_region ?_
        refine HL_r rfl rfl rfl rfl (R_fieldAddr rfl rfl (by first | (simp only [Nat.zero_add, Nat.reduceAdd, Nat.reduceMul, Nat.zero_mul, Nat.mul_one, Nat.add_zero]; exact rfl) | exact rfl)) ?_; refine HL_r rfl rfl rfl rfl (R_load rfl (known_L (k := 1) rfl) rfl rfl) ?_
        refine HL_r rfl rfl rfl rfl (R_fieldAddr rfl rfl (by first | (simp only [Nat.zero_add, Nat.reduceAdd, Nat.reduceMul, Nat.zero_mul, Nat.mul_one, Nat.add_zero]; exact rfl) | exact rfl)) ?_; refine HL_r rfl rfl rfl rfl (R_load rfl (known_L (k := 1) rfl) rfl rfl) ?_; refine HL_r rfl rfl rfl rfl (R_build (r := [_, _, _]) rfl rfl) ?_; refine HL_r rfl rfl rfl rfl (R_loadA (vs := [_, _, _, _, _, _, _]) rfl (known_L (k := 0) rfl) rfl rfl rfl rfl) ?_; refine HL_callR rfl rfl rfl (enters_of Tryz.func17 (by kernel_rfl) rfl) (s2 (by assumption) (by assumption) (by assumption) (by assumption)) (fun q hq => Or.inr hq) ?_; refine HL_r rfl rfl rfl rfl (R_move rfl) ?_; refine HL_r rfl rfl rfl rfl (R_extract rfl rfl) ?_; refine HL_r rfl rfl rfl rfl (R_extract rfl rfl) ?_; refine HL_r rfl rfl rfl rfl (R_assign rfl) ?_; refine HL_r rfl rfl rfl rfl (R_assign rfl) ?_; refine HL_nil ?_; refine HQ_then ?_; refine hK26 _ _ _ _ ?_; clear hK26 K26; refine HC_seq fun K27 hK27 => ?_; refine HC_seq fun K28 hK28 => ?_; refine HC_region ?_; refine HL_r rfl rfl rfl rfl (R_move rfl) ?_; refine HL_r rfl rfl rfl rfl (R_move rfl) ?_; refine HL_r rfl rfl rfl rfl (R_strNe rfl rfl) ?_; refine HL_r rfl rfl rfl rfl (R_move rfl) ?_
        refine HL_case 62 rfl (fun hb29 => ?_) (fun hb29 => ?_) <;> (try simp only [Z1, Z2, Z3, Z4, Z5, Z6, Z7, Z8, Z9, Z10, Z11, Z12, Z13] at hb29) <;> first | (refine HL_r rfl rfl rfl rfl (R_move rfl) ?_) | (refine HL_skip rfl rfl rfl ?_)
        all_goals first
          | (refine HL_r rfl rfl rfl rfl (R_move rfl) ?_)
          | (refine HL_skip rfl rfl rfl ?_)
        all_goals first
          | (refine HL_r rfl rfl rfl rfl (R_pure rfl rfl rfl) ?_)
          | (refine HL_skip rfl rfl rfl ?_)
        all_goals first
          | (refine HL_as (show _ = Value.bool false from bool_eq' (bne_self_eq_false _)) ?_)
          | skip
        all_goals first
          | (refine HL_r rfl rfl rfl rfl (R_pickT rfl rfl) ?_)
          | (refine HL_r rfl rfl rfl rfl (R_pickF rfl rfl) ?_)
        all_goals refine HL_nil ?_
        all_goals (
         refine HQ_then ?_; refine hK28 _ _ _ _ ?_; clear hK28 K28; refine HC_cond rfl (fun h32 => ?_) (fun h32 => ?_)
         · try exact Bool.noConfusion h32
           all_goals try simp only [Z1, Z2, Z3, Z4, Z5, Z6, Z7, Z8, Z9, Z10, Z11, Z12, Z13] at h32
           all_goals (
            refine HC_seq fun K33 hK33 => ?_; refine HC_region ?_; refine HL_r rfl rfl rfl rfl (R_assign rfl) ?_; refine HL_nil ?_; refine HQ_then ?_; refine hK33 _ _ _ _ ?_; clear hK33 K33; refine HC_ret ?_; refine HQ_thenR ?_; clear hK27 K27; refine HQ_post rfl rfl (.cons (res_tmp rfl) .nil) (fun w1 hs1 => ?_); exact absurd trivial (by assumption)
            skip)
         · try exact Bool.noConfusion h32
           all_goals try simp only [Z1, Z2, Z3, Z4, Z5, Z6, Z7, Z8, Z9, Z10, Z11, Z12, Z13] at h32
           all_goals (
            refine HC_skip ?_; refine HQ_then ?_; refine hK27 _ _ _ _ ?_; clear hK27 K27; refine HC_seq fun K34 hK34 => ?_; refine HC_seq fun K35 hK35 => ?_; refine HC_region ?_
            refine HL_r rfl rfl rfl rfl (R_fieldAddr rfl rfl (by first | (simp only [Nat.zero_add, Nat.reduceAdd, Nat.reduceMul, Nat.zero_mul, Nat.mul_one, Nat.add_zero]; exact rfl) | exact rfl)) ?_; refine HL_r rfl rfl rfl rfl (R_load rfl (known_L (k := 1) rfl) rfl rfl) ?_; refine HL_r rfl rfl rfl rfl (R_pure rfl rfl rfl) ?_; refine HL_nil ?_; refine HQ_then ?_; refine hK35 _ _ _ _ ?_; clear hK35 K35; refine HC_cond rfl (fun h36 => ?_) (fun h36 => ?_)
            · try exact Bool.noConfusion h36
              try simp only [Z1, Z2, Z3, Z4, Z5, Z6, Z7, Z8, Z9, Z10, Z11, Z12, Z13] at h36
              refine HC_seq fun K37 hK37 => ?_; refine HC_region ?_; refine HL_r rfl rfl rfl rfl (R_move rfl) ?_; refine HL_r rfl rfl rfl rfl (R_assign rfl) ?_; refine HL_nil ?_; refine HQ_then ?_; refine hK37 _ _ _ _ ?_; clear hK37 K37; refine HC_ret ?_; refine HQ_thenR ?_; clear hK34 K34; refine HQ_post rfl rfl (.cons (res_tmp rfl) .nil) (fun w1 hs1 => ?_); exact ⟨rfl, hs1.keep⟩
            · try exact Bool.noConfusion h36
              try simp only [Z1, Z2, Z3, Z4, Z5, Z6, Z7, Z8, Z9, Z10, Z11, Z12, Z13] at h36
              refine HC_skip ?_; refine HQ_then ?_; refine hK34 _ _ _ _ ?_; clear hK34 K34; refine HC_seq fun K38 hK38 => ?_; refine HC_region ?_; refine HL_r rfl rfl rfl rfl (R_build (r := [_, _, _]) rfl rfl) ?_; refine HL_alloc (cs := #[_, _, _]) rfl rfl rfl rfl fun r3 => ?_
              refine HL_storeA (k := 0) (n := 3) (cs' := #[_, _, _]) (vs := #[_, _, _]) rfl rfl rfl rfl rfl rfl rfl (by exact Nat.le_of_ble_eq_true rfl) rfl (by first | (simp only [List.set_cons_zero, List.set_cons_succ]; exact rfl) | exact rfl) ?_; refine HL_nil ?_; refine HQ_then ?_; refine hK38 _ _ _ _ ?_; clear hK38 K38; refine HC_seq fun K39 hK39 => ?_; refine HC_seq fun K40 hK40 => ?_
              obtain ⟨⟨xk, xn, xp, xi⟩, hx, hn0⟩ := hone (by assumption) (by assumption)
              refine HC_region ?_; refine HL_r rfl rfl rfl rfl (R_assign rfl) ?_; refine HL_nil ?_; refine HQ_then ?_; refine hK40 _ _ _ _ ?_; clear hK40 K40; refine HC_block ?_; refine HC_loop (σ := Nat × Row) (fun q => (q.1 : Int) ≤ n ∧ rowOk 3 q.1 (tysC (List.replicate q.1 (.mk xk xn xp xi))) q.2) (fun q => [(2, pt0 r1), (3, pt0 r2), (7, strV P), (8, .int .i64 g), (5, .bool true), (11, pt0 r3), (12, .int .i64 (q.1 : Int))]) (fun q => (r3, .cells #[.int .i64 7, .int .i64 0, rowV q.1 q.2] 24 (0, 0)) :: vBlk r2 (.mk a b c d bits pb items pi pick) :: tBlk r1 (.mk k n p ins) :: rowL 24 (tysC (List.replicate q.1 (.mk xk xn xp xi))) q.2) (fun _ _ _ => True) (fun q => n.toNat - q.1) (0, none) ⟨hn0, rfl, rfl⟩ (.cons rfl (.cons rfl (.cons rfl (.cons rfl (.cons rfl (.cons rfl (.cons rfl .nil))))))) (List.Sublist.refl _) (fun _ _ h => h) ?_; rintro ⟨i, row⟩ ⟨hi1, hrow⟩; simp only at hi1 hrow; refine HC_seq fun K41 hK41 => ?_; refine HC_seq fun K42 hK42 => ?_; refine HC_region ?_; refine HL_r rfl rfl rfl rfl (R_move rfl) ?_
              refine HL_r rfl rfl rfl rfl (R_fieldAddr rfl rfl (by first | (simp only [Nat.zero_add, Nat.reduceAdd, Nat.reduceMul, Nat.zero_mul, Nat.mul_one, Nat.add_zero]; exact rfl) | exact rfl)) ?_; refine HL_r rfl rfl rfl rfl (R_load rfl (known_L (k := 2) rfl) rfl rfl) ?_; refine HL_r rfl rfl rfl rfl (R_pure rfl rfl rfl) ?_; refine HL_nil ?_; refine HQ_then ?_; refine hK42 _ _ _ _ ?_; clear hK42 K42; refine HC_cond rfl (fun h43 => ?_) (fun h43 => ?_)
              · try exact Bool.noConfusion h43
                try simp only [Z1, Z2, Z3, Z4, Z5, Z6, Z7, Z8, Z9, Z10, Z11, Z12, Z13] at h43
                refine HC_skip ?_; refine HQ_then ?_; refine hK41 _ _ _ _ ?_; clear hK41 K41; refine HC_seq fun K44 hK44 => ?_; refine HC_block ?_
                refine HC_drawB [] [(0, .pure), (2, .pure), (4, .pure), (6, .grow (geNew (slV 1) (.cells #[.int .i64 xk, .int .i64 xn, plV xi.length xp] 24 (0, 0))))] 7 [0, 1, 2, 3, 4, 5, 6] (by kernel_rfl) (by kernel_rfl) (by first | exact (fun _ h => absurd h List.not_mem_nil) | simp [SubS] | (intro p hp; simp [hp])) ?_
                refine HB_p (k := 0) rfl rfl rfl rfl rfl (fun _ hS => (R_fieldAddr rfl rfl (by first | (simp only [Nat.zero_add, Nat.reduceAdd, Nat.reduceMul, Nat.zero_mul, Nat.mul_one, Nat.add_zero]; exact rfl) | exact rfl))) ?_; refine HB_r (k := 1) rfl rfl rfl rfl rfl (R_load (v := rowV i row) rfl (known_L (k := 0) rfl) rfl rfl) ?_
                refine HB_p (k := 2) rfl rfl rfl rfl rfl (fun _ hS => (R_fieldAddr rfl rfl (by first | (simp only [Nat.zero_add, Nat.reduceAdd, Nat.reduceMul, Nat.zero_mul, Nat.mul_one, Nat.add_zero]; exact rfl) | exact rfl))) ?_; refine HB_r (k := 3) rfl rfl rfl rfl rfl (R_load rfl (known_L (k := 2) rfl) rfl rfl) ?_; refine HB_p (k := 4) rfl rfl rfl rfl rfl (fun _ _ => R_indexPl (j := 0) rfl hst rfl rfl rfl rfl (by rw [hx]; exact Nat.one_pos)) ?_; refine HB_r (k := 5) rfl rfl rfl rfl rfl (R_loadTy (fun q hq => Or.inr hq) rfl hst (by rw [hx]; rfl : ins[0]? = some (.mk xk xn xp xi)) rfl rfl) ?_; refine HB_buildSlice (k := 6) (n := 1) (sz := 3) (vs := [_]) (zs := [_, _, _]) (r := [.int .i64 xk, .int .i64 xn, plV xi.length xp]) rfl rfl rfl rfl rfl rfl rfl rfl rfl rfl rfl (by rw [made_list]; exact rfl) rfl fun rv => ?_; refine HB_end ?_; refine HL_appendRow (L0 := [_, _, _, _]) (xs := tysC (List.replicate i (.mk xk xn xp xi))) (row := row) (n := i) (sz := 3) (b := 40) (news := [_, _, _]) (List.perm_append_comm (l₁ := [_, _, _, _])) rfl rfl rfl rfl (known_L (k := 0) rfl) rfl rfl rfl rfl rfl (by decide) rfl rfl rfl (by decide) hrow (by omega) (by omega) fun ra cap sp hra => ?_
                refine HL_r rfl rfl rfl rfl (R_fieldAddr rfl rfl (by first | (simp only [Nat.zero_add, Nat.reduceAdd, Nat.reduceMul, Nat.zero_mul, Nat.mul_one, Nat.add_zero]; exact rfl) | exact rfl)) ?_; refine HL_store (k := 2) (cs' := #[.int .i64 7, .int .i64 0, rowV (i + 1) (some (ra, cap, sp))]) rfl rfl rfl rfl rfl rfl rfl rfl rfl rfl ?_; refine HL_nil ?_; refine HQ_blockN ?_; refine HQ_then ?_; refine hK44 _ _ _ _ ?_; clear hK44 K44; refine HC_region ?_; refine HL_r rfl rfl rfl rfl (R_move rfl) ?_
                refine HL_r rfl rfl rfl rfl (R_pure rfl rfl rfl) ?_; refine HL_as (show _ = Value.int .i64 ((i + 1 : Nat) : Int) from by rw [wrap_i64 (by omega) (by omega)]; congr 1 <;> omega) ?_; refine HL_r rfl rfl rfl rfl (R_assign rfl) ?_; refine HL_nil ?_; refine HQ_then ?_; rw [show tysC (List.replicate i (Ty.mk xk xn xp xi)) ++ [_, _, _] = tysC (List.replicate (i + 1) (.mk xk xn xp xi)) from (tysC_rep _ i).symm] at hra ⊢; refine HQ_perm' (List.perm_append_comm (l₁ := [_]) (l₂ := [_, _, _, _])) ?_; exact HQ_again (i + 1, some (ra, cap, sp)) ⟨by simp only; omega, hra⟩ (by simp only; omega) (.cons rfl (.cons rfl (.cons rfl (.cons rfl (.cons rfl (.cons rfl (.cons rfl .nil))))))) (.cons _ (List.Sublist.refl _)) (fun _ _ h => h)
              · try exact Bool.noConfusion h43
                try simp only [Z1, Z2, Z3, Z4, Z5, Z6, Z7, Z8, Z9, Z10, Z11, Z12, Z13] at h43
                refine HC_exit ?_; refine HQ_thenE ?_; clear hK41 K41; refine HQ_thenE ?_; refine HQ_blockE ?_; refine HQ_then ?_; refine hK39 _ _ _ _ ?_; clear hK39 K39; refine HC_seq fun K45 hK45 => ?_; refine HC_region ?_; refine HL_r rfl rfl rfl rfl (R_loadArr (xs := [.int .i64 7, .int .i64 0, rowV i row]) (n := 3) rfl (known_L (k := 0) rfl) rfl rfl rfl) ?_; refine HL_as (show _ = Ty.val (.mk 7 0 (rowP row) (List.replicate i (.mk xk xn xp xi))) from by show _ = Value.agg #[.int .i64 7, .int .i64 0, plV (List.replicate i (Ty.mk xk xn xp xi)).length (rowP row)]; rw [List.length_replicate, rowP_V _ _ (fun h => by rw [h] at hrow; exact hrow.1)]) ?_; refine HL_r rfl rfl rfl rfl (R_loadA (vs := [_, _, _, _, _, _, _]) rfl (known_L (k := 1) rfl) rfl rfl rfl rfl) ?_; refine HL_callR (Rl := rowL 24 (tysC (List.replicate i (.mk xk xn xp xi))) row ++ R) rfl rfl rfl (enters_of Tryz.func17 (by kernel_rfl) rfl) (s3 _ i _ _ (by assumption) (by assumption) hx (by assumption) (by assumption) (by omega) (by omega) (rowP_seg hrow (by decide))) (fun q hq => (List.mem_append.1 hq).elim (fun hq => .inl (List.mem_cons_of_mem _ (List.mem_cons_of_mem _ (List.mem_cons_of_mem _ hq)))) Or.inr) ?_; refine HL_r rfl rfl rfl rfl (R_move rfl) ?_; refine HL_r rfl rfl rfl rfl (R_extract rfl rfl) ?_; refine HL_r rfl rfl rfl rfl (R_extract rfl rfl) ?_; refine HL_r rfl rfl rfl rfl (R_assign rfl) ?_; refine HL_r rfl rfl rfl rfl (R_assign rfl) ?_; refine HL_nil ?_; refine HQ_then ?_; refine hK45 _ _ _ _ ?_; clear hK45 K45; refine HC_seq fun K46 hK46 => ?_; refine HC_region ?_; refine HL_r rfl rfl rfl rfl (R_move rfl) ?_; refine HL_r rfl rfl rfl rfl (R_move rfl) ?_; refine HL_r rfl rfl rfl rfl (R_move rfl) ?_; refine HL_r rfl rfl rfl rfl (R_move rfl) ?_; refine HL_r rfl rfl rfl rfl (R_strEq rfl rfl) ?_; refine HL_r rfl rfl rfl rfl (R_pickT rfl rfl) ?_; refine HL_r rfl rfl rfl rfl (R_move rfl) ?_
                refine HL_case 99 rfl (fun hb50 => ?_) (fun hb50 => ?_) <;> (try simp only [Z1, Z2, Z3, Z4, Z5, Z6, Z7, Z8, Z9, Z10, Z11, Z12, Z13] at hb50) <;> first | (refine HL_r rfl rfl rfl rfl (R_move rfl) ?_) | (refine HL_skip rfl rfl rfl ?_)
                all_goals first
                  | (refine HL_r rfl rfl rfl rfl (R_move rfl) ?_)
                  | (refine HL_skip rfl rfl rfl ?_)
                all_goals first
                  | (refine HL_r rfl rfl rfl rfl (R_pure rfl rfl rfl) ?_)
                  | (refine HL_skip rfl rfl rfl ?_)
                all_goals first
                  | (refine HL_r rfl rfl rfl rfl (R_pickT rfl rfl) ?_)
                  | (refine HL_r rfl rfl rfl rfl (R_pickF rfl rfl) ?_)
                all_goals refine HL_r rfl rfl rfl rfl (R_assign rfl) ?_
                all_goals refine HL_nil ?_
                all_goals (
                 refine HQ_then ?_; refine hK46 _ _ _ _ ?_; clear hK46 K46; refine HC_ret ?_; refine HQ_post rfl rfl (.cons (res_tmp rfl) .nil) (fun w1 hs1 => ?_)
                 first
                   | exact absurd trivial (by assumption)
                   | exact ⟨congrArg (fun b => Ending.returned (.bool b)) (beq_self_eq_true _), hs1.keep⟩
                 skip)
            skip)
         skip)
        skip)
     skip)
end Go.Proofs.YtlcbfphioeppaaaGreatDoor
