import Derived.Test.YtlcbfphioeppaaaGreatDoorQbe
namespace Go.Proofs.YtlcbfphioeppaaaGreatDoor
set_option linter.all false
open Go.SL Go.RowKit Go.Shelf
open Go.Proofs (Enters enters_of)
theorem putR_ok {t : Ty} {v : Vl} (h : (putR t v).2 = 0) : fitsT t v = 0 ∧ (putV v t).length ≤ 65536 ∧ putR t v = (putV v t, 0) := by
  unfold putR at h ⊢
  by_cases h1 : fitsT t v = 0
  · rw [if_neg (by rw [h1]; decide)] at h ⊢
    by_cases h2 : 65536 < (putV v t).length
    · rw [if_pos h2] at h; cases h
    · rw [if_neg h2]; exact ⟨h1, by omega, rfl⟩
  · rw [if_pos h1] at h; exact absurd h h1
theorem putR_no {t : Ty} {v : Vl} (h : (putR t v).2 ≠ 0) : (putR t v).1 = [] ∧ (fitsT t v = (putR t v).2 ∨ (putR t v).2 = 5) := by
  unfold putR at h ⊢
  by_cases h1 : fitsT t v ≠ 0
  · rw [if_pos h1]; exact ⟨rfl, .inl rfl⟩
  · rw [if_neg h1] at h ⊢
    by_cases h2 : 65536 < (putV v t).length
    · rw [if_pos h2]; exact ⟨rfl, .inr rfl⟩
    · rw [if_neg h2] at h; exact absurd rfl h
theorem ieq_of {a b : Int} (h : a = b) : (a == b) = true := by rw [h]; exact beq_self_eq_true b
theorem get_back {R : List (Nat × Obj)} {t : Ty} {v : Vl} (hv : v.In R) (hw : wV v ≤ 20000) (h : (putR t v).2 = 0) : getR t (putV v t) = (erV v, 0) := by
  obtain ⟨h1, h2, _⟩ := putR_ok h
  obtain ⟨hc, hf⟩ := fits_split h1
  unfold getR
  rw [if_neg (by rw [hc]; decide), if_neg (by omega)]; exact get_put hv t hc hf hw
set_option maxRecDepth 10000 in
theorem L_SszBack {R : List (Nat × Obj)} {t : Ty} {v : Vl} (ht : t.In R) (hv : v.In R) : PureR Tryz.prog 5 [t.val, v.val].toArray (.bool true) R := by
  have h1 := S_few8 ht hv
  have s1 := fun h : few8 t v = true => S_sPut ht hv (few8_w h)
  have hF := S_Fits ht hv
  have hX := S_Fixed ht
  have hZ := S_Size ht
  have hno := putR_no (t := t) (v := v)
  have hG := fun (h : few8 t v = true) => get_back (t := t) hv (few8_w h)
  have hgt := T_Get ht (putR t v).1
  have hp1 := putR_ok (t := t) (v := v)
  have hfl : (putR t v).2 = 0 → isFix t = true → ((putR t v).1.length : Int) = sizeT t := fun h hx => by
    obtain ⟨f1, _, e⟩ := putR_ok h
    obtain ⟨c1, q1⟩ := fits_split f1
    unfold sizeT
    rw [if_pos hx, e]; exact fix_len v t c1 q1 (isFix_iff.1 hx).2
  have hG2 : few8 t v = true → (putR t v).2 = 0 → getR t (putR t v).1 = (erV v, 0) := fun h1 h2 => by
    rw [(hp1 h2).2.2]; exact hG h1 h2
  generalize few8 t v = f at h1 s1 hG2
  generalize hpq : putR t v = q at s1 hno hgt hfl hG2
  generalize fitsT t v = ft at hF hno
  generalize isFix t = fx at hX hfl
  generalize sizeT t = sz at hZ hfl
  obtain ⟨x, g⟩ := q
  simp only at hno hgt hfl hG2
  have hvv : v.In R := hv
  obtain ⟨V, hV⟩ : ∃ V, V = v := ⟨_, rfl⟩
  obtain ⟨k, n, p, ins⟩ := t
  obtain ⟨a, b, c, d, bits, pb, items, pi, pick⟩ := v
  refine pureR_of_HC Tryz.func5 rfl rfl fun w => ?_; refine HC_seq fun K1 hK1 => ?_; refine HC_region ?_; refine HL_box (cs := #[_, _, _]) rfl rfl rfl rfl fun r1 => ?_; refine HL_box (cs := #[_, _, _, _, _, _, _]) rfl rfl rfl rfl fun r2 => ?_; refine HL_r rfl rfl rfl rfl (R_assign rfl) ?_; refine HL_nil ?_; refine HQ_then ?_; refine hK1 _ _ _ _ ?_; clear hK1 K1; refine HC_seq fun K2 hK2 => ?_; refine HC_region ?_; refine HL_callP rfl rfl rfl (enters_of Tryz.func15 (by kernel_rfl) rfl) P_works08 ?_; refine HL_r rfl rfl rfl rfl (R_assign rfl) ?_; refine HL_nil ?_; refine HQ_then ?_; refine hK2 _ _ _ _ ?_; clear hK2 K2; refine HC_seq fun K3 hK3 => ?_; refine HC_seq fun K4 hK4 => ?_; refine HC_region ?_; refine HL_r rfl rfl rfl rfl (R_move rfl) ?_; refine HL_r rfl rfl rfl rfl (R_pure rfl rfl rfl) ?_; refine HL_nil ?_; refine HQ_then ?_; refine hK4 _ _ _ _ ?_; clear hK4 K4; refine HC_cond rfl (fun h5 => ?_) (fun h5 => ?_)
  · try exact Bool.noConfusion h5
  · try exact Bool.noConfusion h5
    try simp only [Z1, Z2, Z3, Z4, Z5, Z6, Z7, Z8, Z9, Z10, Z11, Z12, Z13] at h5
    refine HC_skip ?_; refine HQ_then ?_; refine hK3 _ _ _ _ ?_; clear hK3 K3; refine HC_seq fun K7 hK7 => ?_; refine HC_region ?_; refine HL_r rfl rfl rfl rfl (R_loadA (vs := [_, _, _]) rfl (known_L (k := 1) rfl) rfl rfl rfl rfl) ?_; refine HL_r rfl rfl rfl rfl (R_loadA (vs := [_, _, _, _, _, _, _]) rfl (known_L (k := 0) rfl) rfl rfl rfl rfl) ?_; refine HL_callR rfl rfl rfl (enters_of Tryz.func16 (by kernel_rfl) rfl) h1 (fun q hq => Or.inr hq) ?_; refine HL_r rfl rfl rfl rfl (R_assign rfl) ?_; refine HL_nil ?_; refine HQ_then ?_; refine hK7 _ _ _ _ ?_; clear hK7 K7; refine HC_seq fun K8 hK8 => ?_; refine HC_seq fun K9 hK9 => ?_; refine HC_region ?_; refine HL_r rfl rfl rfl rfl (R_move rfl) ?_; refine HL_r rfl rfl rfl rfl (R_pure rfl rfl rfl) ?_; refine HL_nil ?_; refine HQ_then ?_; refine hK9 _ _ _ _ ?_; clear hK9 K9; refine HC_cond rfl (fun h10 => ?_) (fun h10 => ?_)
    · try exact Bool.noConfusion h10
      try simp only [Z1, Z2, Z3, Z4, Z5, Z6, Z7, Z8, Z9, Z10, Z11, Z12, Z13] at h10
      refine HC_seq fun K11 hK11 => ?_; refine HC_region ?_; refine HL_r rfl rfl rfl rfl (R_move rfl) ?_; refine HL_r rfl rfl rfl rfl (R_assign rfl) ?_; refine HL_nil ?_; refine HQ_then ?_; refine hK11 _ _ _ _ ?_; clear hK11 K11; refine HC_ret ?_; refine HQ_thenR ?_; clear hK8 K8; refine HQ_post rfl rfl (.cons (res_tmp rfl) .nil) (fun w1 hs1 => ?_); exact ⟨rfl, hs1.keep⟩
    · try exact Bool.noConfusion h10
      try simp only [Z1, Z2, Z3, Z4, Z5, Z6, Z7, Z8, Z9, Z10, Z11, Z12, Z13] at h10
      refine HC_skip ?_; refine HQ_then ?_; refine hK8 _ _ _ _ ?_; clear hK8 K8; refine HC_seq fun K12 hK12 => ?_; refine HC_region ?_; refine HL_r rfl rfl rfl rfl (R_loadA (vs := [_, _, _]) rfl (known_L (k := 1) rfl) rfl rfl rfl rfl) ?_; refine HL_r rfl rfl rfl rfl (R_loadA (vs := [_, _, _, _, _, _, _]) rfl (known_L (k := 0) rfl) rfl rfl rfl rfl) ?_; refine HL_callR rfl rfl rfl (enters_of Tryz.func17 (by kernel_rfl) rfl) (s1 (by assumption)) (fun q hq => Or.inr hq) ?_; refine HL_r rfl rfl rfl rfl (R_move rfl) ?_; refine HL_r rfl rfl rfl rfl (R_extract rfl rfl) ?_; refine HL_r rfl rfl rfl rfl (R_extract rfl rfl) ?_; refine HL_r rfl rfl rfl rfl (R_assign rfl) ?_; refine HL_r rfl rfl rfl rfl (R_assign rfl) ?_; refine HL_nil ?_; refine HQ_then ?_; refine hK12 _ _ _ _ ?_; clear hK12 K12; refine HC_seq fun K13 hK13 => ?_; refine HC_seq fun K14 hK14 => ?_; refine HC_region ?_; refine HL_r rfl rfl rfl rfl (R_move rfl) ?_; refine HL_r rfl rfl rfl rfl (R_pure rfl rfl rfl) ?_; refine HL_nil ?_; refine HQ_then ?_; refine hK14 _ _ _ _ ?_; clear hK14 K14; refine HC_cond rfl (fun h15 => ?_) (fun h15 => ?_)
      · try exact Bool.noConfusion h15
        try simp only [Z1, Z2, Z3, Z4, Z5, Z6, Z7, Z8, Z9, Z10, Z11, Z12, Z13] at h15
        refine HC_seq fun K16 hK16 => ?_; refine HC_region ?_; refine HL_r rfl rfl rfl rfl (R_move rfl) ?_; refine HL_r rfl rfl rfl rfl (R_move rfl) ?_; refine HL_r rfl rfl rfl rfl (R_move rfl) ?_; refine HL_r rfl rfl rfl rfl (R_strEq rfl rfl) ?_; refine HL_r rfl rfl rfl rfl (R_pickT rfl rfl) ?_; refine HL_r rfl rfl rfl rfl (R_move rfl) ?_
        refine HL_case 33 rfl (fun hb19 => ?_) (fun hb19 => ?_) <;> (try simp only [Z1, Z2, Z3, Z4, Z5, Z6, Z7, Z8, Z9, Z10, Z11, Z12, Z13] at hb19) <;> first | (refine HL_r rfl rfl rfl rfl (R_loadA (vs := [_, _, _]) rfl (known_L (k := 0) rfl) rfl rfl rfl rfl) ?_) | (refine HL_r rfl rfl rfl rfl (R_loadA (vs := [_, _, _]) rfl (known_L (k := 1) rfl) rfl rfl rfl rfl) ?_) | (refine HL_r rfl rfl rfl rfl (R_loadA (vs := [_, _, _]) rfl (known_L (k := 2) rfl) rfl rfl rfl rfl) ?_) | (refine HL_skip rfl rfl rfl ?_)
        all_goals first
          | (refine HL_r rfl rfl rfl rfl (R_loadA (vs := [_, _, _, _, _, _, _]) rfl (known_L (k := 0) rfl) rfl rfl rfl rfl) ?_)
          | (refine HL_skip rfl rfl rfl ?_)
        all_goals first
          | (refine HL_callR rfl rfl rfl (enters_of Tryz.func22 (by kernel_rfl) rfl) hF (fun q hq => Or.inr hq) ?_)
          | (refine HL_skip rfl rfl rfl ?_)
        all_goals first
          | (refine HL_r rfl rfl rfl rfl (R_move rfl) ?_)
          | (refine HL_skip rfl rfl rfl ?_)
        all_goals first
          | (refine HL_r rfl rfl rfl rfl (R_pure rfl rfl rfl) ?_)
          | (refine HL_skip rfl rfl rfl ?_)
        all_goals first
          | (refine HL_r rfl rfl rfl rfl (R_move rfl) ?_)
          | (refine HL_skip rfl rfl rfl ?_)
        all_goals first
          | (refine HL_skip rfl rfl rfl ?_)
          | (refine HL_case 39 rfl (fun hb25 => ?_) (fun hb25 => ?_) <;> (try simp only [Z1, Z2, Z3, Z4, Z5, Z6, Z7, Z8, Z9, Z10, Z11, Z12, Z13] at hb25) <;> first | (refine HL_r rfl rfl rfl rfl (R_move rfl) ?_) | (refine HL_skip rfl rfl rfl ?_))
        all_goals first
          | (refine HL_r rfl rfl rfl rfl (R_pure rfl rfl rfl) ?_)
          | (refine HL_skip rfl rfl rfl ?_)
        all_goals first
          | (refine HL_r rfl rfl rfl rfl (R_pickT rfl rfl) ?_)
          | (refine HL_r rfl rfl rfl rfl (R_pickF rfl rfl) ?_)
          | (refine HL_skip rfl rfl rfl ?_)
        all_goals first
          | (refine HL_r rfl rfl rfl rfl (R_pickT rfl rfl) ?_)
          | (refine HL_r rfl rfl rfl rfl (R_pickF rfl rfl) ?_)
        all_goals refine HL_r rfl rfl rfl rfl (R_assign rfl) ?_
        all_goals refine HL_nil ?_
        all_goals (
         refine HQ_then ?_; refine hK16 _ _ _ _ ?_; clear hK16 K16; refine HC_ret ?_; refine HQ_thenR ?_; clear hK13 K13; refine HQ_post rfl rfl (.cons (res_tmp rfl) .nil) (fun w1 hs1 => ?_)
         first
           | exact ⟨rfl, hs1.keep⟩
           | exact absurd (hno (by assumption)).1 (by assumption)
           | exact ⟨congrArg (fun z => Ending.returned (Value.bool z)) (ieq_of ((hno (by assumption)).2.resolve_left (by assumption))), hs1.keep⟩
         skip)
      · try exact Bool.noConfusion h15
        try simp only [Z1, Z2, Z3, Z4, Z5, Z6, Z7, Z8, Z9, Z10, Z11, Z12, Z13] at h15
        refine HC_skip ?_; refine HQ_then ?_; refine hK13 _ _ _ _ ?_; clear hK13 K13; refine HC_seq fun K28 hK28 => ?_; refine HC_region ?_; refine HL_r rfl rfl rfl rfl (R_loadA (vs := [_, _, _]) rfl (known_L (k := 1) rfl) rfl rfl rfl rfl) ?_; refine HL_r rfl rfl rfl rfl (R_move rfl) ?_; refine HL_callRE (Rl := R) rfl rfl rfl (enters_of Tryz.func19 (by kernel_rfl) rfl) (hgt) (fun q hq => Or.inr hq) fun y => ?_; refine HL_as (congrArg (fun z => Value.tuple #[y.x.val, .int .i64 z]) (congrArg Prod.snd (hG2 (by assumption) (by assumption)))) ?_; refine HL_perm List.perm_append_comm ?_
        obtain ⟨⟨ya, yb, yc, yd, ybits, ypb, yit, ypi, ypk⟩, yL, yok, yer⟩ := y
        refine HL_r rfl rfl rfl rfl (R_move rfl) ?_; refine HL_r rfl rfl rfl rfl (R_extract rfl rfl) ?_; refine HL_r rfl rfl rfl rfl (R_extract rfl rfl) ?_; refine HL_alloc (cs := #[_, _, _, _, _, _, _]) rfl rfl rfl rfl fun r3 => ?_
        refine HL_storeA (k := 0) (n := 7) (cs' := #[_, _, _, _, _, _, _]) (vs := #[_, _, _, _, _, _, _]) rfl rfl rfl rfl rfl rfl rfl (by exact Nat.le_of_ble_eq_true rfl) rfl (by first | (simp only [List.set_cons_zero, List.set_cons_succ]; exact rfl) | exact rfl) ?_; refine HL_r rfl rfl rfl rfl (R_assign rfl) ?_; refine HL_nil ?_; refine HQ_then ?_; refine hK28 _ _ _ _ ?_; clear hK28 K28; refine HC_seq fun K29 hK29 => ?_; refine HC_region ?_; refine HL_r rfl rfl rfl rfl (R_move rfl) ?_; refine HL_r rfl rfl rfl rfl (R_move rfl) ?_; refine HL_r rfl rfl rfl rfl (R_move rfl) ?_; refine HL_r rfl rfl rfl rfl (R_pure rfl rfl rfl) ?_; refine HL_r rfl rfl rfl rfl (R_pickT rfl rfl) ?_; refine HL_r rfl rfl rfl rfl (R_move rfl) ?_; refine HL_r rfl rfl rfl rfl (R_loadA (vs := [_, _, _, _, _, _, _]) rfl (known_L (k := 1) rfl) rfl rfl rfl rfl) ?_; refine HL_r rfl rfl rfl rfl (R_loadA (vs := [_, _, _, _, _, _, _]) rfl (known_L (k := 0) rfl) rfl rfl rfl rfl) ?_; refine HL_callR (Rl := R ++ yL) rfl rfl rfl (enters_of Tryz.func23 (by kernel_rfl) rfl) (S_Same (hvv.mono (R' := R ++ yL) (fun q hq => List.mem_append_left _ hq)) _ (yok.mono (fun q hq => List.mem_append_right _ hq))) (fun q hq => (List.mem_append.1 hq).elim Or.inr (fun hq => .inl (by simp only [List.cons_append, List.mem_cons, List.mem_append, hq, or_true]))) ?_; refine HL_as (congrArg Value.bool ((same_er _ _).2 (by rw [yer, hG2 (by assumption) (by assumption)]))) ?_; refine HL_r rfl rfl rfl rfl (R_pickT rfl rfl) ?_; refine HL_r rfl rfl rfl rfl (R_move rfl) ?_; refine HL_r rfl rfl rfl rfl (R_loadA (vs := [_, _, _]) rfl (known_L (k := 2) rfl) rfl rfl rfl rfl) ?_; refine HL_callR rfl rfl rfl (enters_of Tryz.func24 (by kernel_rfl) rfl) hX (fun q hq => Or.inr hq) ?_; refine HL_r rfl rfl rfl rfl (R_pure rfl rfl rfl) ?_; refine HL_r rfl rfl rfl rfl (R_move rfl) ?_
        refine HL_case 64 rfl (fun hb39 => ?_) (fun hb39 => ?_) <;> (try simp only [Z1, Z2, Z3, Z4, Z5, Z6, Z7, Z8, Z9, Z10, Z11, Z12, Z13] at hb39) <;> first | (refine HL_r rfl rfl rfl rfl (R_move rfl) ?_) | (refine HL_skip rfl rfl rfl ?_)
        all_goals first
          | (refine HL_r rfl rfl rfl rfl (R_lenBs rfl rfl) ?_)
          | (refine HL_skip rfl rfl rfl ?_)
        all_goals first
          | (refine HL_r rfl rfl rfl rfl (R_loadA (vs := [_, _, _]) rfl (known_L (k := 2) rfl) rfl rfl rfl rfl) ?_)
          | (refine HL_skip rfl rfl rfl ?_)
        all_goals first
          | (refine HL_callR rfl rfl rfl (enters_of Tryz.func25 (by kernel_rfl) rfl) hZ (fun q hq => Or.inr hq) ?_)
          | (refine HL_skip rfl rfl rfl ?_)
        all_goals first
          | (refine HL_r rfl rfl rfl rfl (R_pure rfl rfl rfl) ?_)
          | (refine HL_skip rfl rfl rfl ?_)
        all_goals first
          | (refine HL_r rfl rfl rfl rfl (R_pickT rfl rfl) ?_)
          | (refine HL_r rfl rfl rfl rfl (R_pickF rfl rfl) ?_)
        all_goals (refine HL_r rfl rfl rfl rfl (R_pickT rfl rfl) ?_)
        all_goals refine HL_r rfl rfl rfl rfl (R_assign rfl) ?_
        all_goals refine HL_nil ?_
        all_goals (
         refine HQ_then ?_; refine hK29 _ _ _ _ ?_; clear hK29 K29; refine HC_ret ?_; refine HQ_post rfl rfl (.cons (res_tmp rfl) .nil) (fun w1 hs1 => ?_)
         first
           | exact ⟨rfl, hs1.keep⟩
           | exact ⟨congrArg (fun z => Ending.returned (Value.bool z)) (ieq_of (hfl (by assumption) (by assumption))), hs1.keep⟩
         skip)
end Go.Proofs.YtlcbfphioeppaaaGreatDoor
