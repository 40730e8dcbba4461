import Derived.Test.YtlcbfphioeppaaaGreatDoorQoe
namespace Go.Proofs.YtlcbfphioeppaaaGreatDoor
set_option linter.all false
open Go.SL Go.RowKit Go.Shelf
open Go.Proofs (Enters enters_of)
/-! ### The laws of what is got, and of lists -/
theorem getR_bad {t : Ty} {s : BS} (h : (getR t s).2 ≠ 0) : (getR t s).1 = v0L := by
  unfold getR at h ⊢
  split
  · rfl
  · rename_i h1
    rw [if_neg h1] at h
    split
    · rfl
    · rename_i h2
      rw [if_neg h2] at h; exact getT_bad t s h
theorem got_put {t : Ty} {s : BS} (h : (getR t s).2 = 0) (hl : s.length ≤ 800) {y : Vl} (hy : erV y = (getR t s).1) : wV y ≤ 20000 ∧ putR t y = (s, 0) ∧ fitsT t y = 0 := by
  unfold getR at h hy
  by_cases hc : chk t 0 ≠ 0
  · rw [if_pos hc] at h; exact absurd h hc
  rw [if_neg hc, if_neg (by omega)] at h hy
  have hc0 := Decidable.not_not.1 hc
  obtain ⟨v, hv⟩ : ∃ v, v = (getT t s).1 := ⟨_, rfl⟩
  rw [← hv] at hy
  obtain ⟨f1, f2, f3, f4⟩ := put_get t 0 hc0 s v (by omega) (Prod.ext hv.symm h)
  rw [← hy, fit_er] at f1; rw [← hy, put_er] at f2; rw [← hy, wV_er] at f4
  have hf : fitsT t y = 0 := by unfold fitsT; rw [if_pos hc0]; exact f1
  refine ⟨by omega, ?_, hf⟩
  unfold putR
  rw [if_neg (by rw [hf]; decide), f2, if_neg (by omega)]
set_option maxRecDepth 10000 in
theorem L_SszOnly {R : List (Nat × Obj)} {t : Ty} (ht : t.In R) (s : BS) : PureR Tryz.prog 6 [t.val, strV s].toArray (.bool true) R := by
  have h1 := S_few8 ht (v0_in.mono (R' := R) (fun q hq => absurd hq List.not_mem_nil))
  have hgt := T_Get ht s
  have hbd := getR_bad (t := t) (s := s)
  have hgp := fun (h : (getR t s).2 = 0) (hl : s.length ≤ 800) (y : Vl) (hy : erV y = (getR t s).1) => got_put h hl hy
  have hput : ∀ (h : (getR t s).2 = 0) (hl : s.length ≤ 800) (y : Vl) (hy : erV y = (getR t s).1) (Y : List (Nat × Obj)), y.In Y → PureR Tryz.prog 17 [t.val, y.val].toArray (resS (s, 0)) (R ++ Y) := fun h hl y hy Y hY => by
    have := S_sPut (ht.mono (R' := R ++ Y) (fun q hq => List.mem_append_left _ hq)) (hY.mono (fun q hq => List.mem_append_right _ hq)) (hgp h hl y hy).1
    rw [(hgp h hl y hy).2.1] at this; exact this
  have hfit : ∀ (h : (getR t s).2 = 0) (hl : s.length ≤ 800) (y : Vl) (hy : erV y = (getR t s).1) (Y : List (Nat × Obj)), y.In Y → PureR Tryz.prog 22 [t.val, y.val].toArray (.int .i64 0) (R ++ Y) := fun h hl y hy Y hY => by
    have := S_Fits (ht.mono (R' := R ++ Y) (fun q hq => List.mem_append_left _ hq)) (hY.mono (fun q hq => List.mem_append_right _ hq))
    rw [(hgp h hl y hy).2.2] at this; exact this
  generalize few8 t v0L = f at h1
  generalize hgr : getR t s = gr at hgt hbd hput hfit
  obtain ⟨gv, ge⟩ := gr
  simp only at hbd hput hfit
  obtain ⟨k, n, p, ins⟩ := t
  refine pureR_of_HC Tryz.func6 rfl rfl fun w => ?_; refine HC_seq fun K1 hK1 => ?_; refine HC_region ?_; refine HL_box (cs := #[_, _, _]) rfl rfl rfl rfl fun r1 => ?_; refine HL_r rfl rfl rfl rfl (R_assign rfl) ?_; refine HL_nil ?_; refine HQ_then ?_; refine hK1 _ _ _ _ ?_; clear hK1 K1; refine HC_seq fun K2 hK2 => ?_; refine HC_region ?_; refine HL_callP rfl rfl rfl (enters_of Tryz.func15 (by kernel_rfl) rfl) P_works08 ?_; refine HL_r rfl rfl rfl rfl (R_assign rfl) ?_; refine HL_nil ?_; refine HQ_then ?_; refine hK2 _ _ _ _ ?_; clear hK2 K2; refine HC_seq fun K3 hK3 => ?_; refine HC_seq fun K4 hK4 => ?_; refine HC_region ?_; refine HL_r rfl rfl rfl rfl (R_move rfl) ?_; refine HL_r rfl rfl rfl rfl (R_pure rfl rfl rfl) ?_; refine HL_nil ?_; refine HQ_then ?_; refine hK4 _ _ _ _ ?_; clear hK4 K4; refine HC_cond rfl (fun h5 => ?_) (fun h5 => ?_)
  · try exact Bool.noConfusion h5
  · try exact Bool.noConfusion h5
    try simp only [Z1, Z2, Z3, Z4, Z5, Z6, Z7, Z8, Z9, Z10, Z11, Z12, Z13] at h5
    refine HC_skip ?_; refine HQ_then ?_; refine hK3 _ _ _ _ ?_; clear hK3 K3; refine HC_seq fun K7 hK7 => ?_; refine HC_region ?_; refine HL_r rfl rfl rfl rfl (R_loadA (vs := [_, _, _]) rfl (known_L (k := 0) rfl) rfl rfl rfl rfl) ?_; refine HL_r rfl rfl rfl rfl (R_build (r := [_, _, _, _, _, _, _]) rfl rfl) ?_; refine HL_callR rfl rfl rfl (enters_of Tryz.func16 (by kernel_rfl) rfl) h1 (fun q hq => Or.inr hq) ?_; refine HL_r rfl rfl rfl rfl (R_assign rfl) ?_; refine HL_nil ?_; refine HQ_then ?_; refine hK7 _ _ _ _ ?_; clear hK7 K7; refine HC_seq fun K8 hK8 => ?_; refine HC_seq fun K9 hK9 => ?_; refine HC_region ?_; refine HL_r rfl rfl rfl rfl (R_move rfl) ?_; refine HL_r rfl rfl rfl rfl (R_pure rfl rfl rfl) ?_; refine HL_r rfl rfl rfl rfl (R_move rfl) ?_
    refine HL_case 19 rfl (fun hb10 => ?_) (fun hb10 => ?_) <;> (try simp only [Z1, Z2, Z3, Z4, Z5, Z6, Z7, Z8, Z9, Z10, Z11, Z12, Z13] at hb10) <;> first | (refine HL_r rfl rfl rfl rfl (R_move rfl) ?_) | (refine HL_skip rfl rfl rfl ?_)
    all_goals first
      | (refine HL_r rfl rfl rfl rfl (R_lenBs rfl rfl) ?_)
      | (refine HL_skip rfl rfl rfl ?_)
    all_goals first
      | (refine HL_r rfl rfl rfl rfl (R_pure rfl rfl rfl) ?_)
      | (refine HL_skip rfl rfl rfl ?_)
    all_goals first
      | (refine HL_r rfl rfl rfl rfl (R_pickT rfl rfl) ?_)
      | (refine HL_r rfl rfl rfl rfl (R_pickF rfl rfl) ?_)
    all_goals refine HL_nil ?_
    all_goals (
     refine HQ_then ?_; refine hK9 _ _ _ _ ?_; clear hK9 K9; refine HC_cond rfl (fun h13 => ?_) (fun h13 => ?_)
     · try exact Bool.noConfusion h13
       try simp only [Z1, Z2, Z3, Z4, Z5, Z6, Z7, Z8, Z9, Z10, Z11, Z12, Z13] at h13
       refine HC_seq fun K14 hK14 => ?_; refine HC_region ?_; refine HL_r rfl rfl rfl rfl (R_move rfl) ?_; refine HL_r rfl rfl rfl rfl (R_assign rfl) ?_; refine HL_nil ?_; refine HQ_then ?_; refine hK14 _ _ _ _ ?_; clear hK14 K14; refine HC_ret ?_; refine HQ_thenR ?_; clear hK8 K8; refine HQ_post rfl rfl (.cons (res_tmp rfl) .nil) (fun w1 hs1 => ?_); exact ⟨rfl, hs1.keep⟩
     · try exact Bool.noConfusion h13
       all_goals try simp only [Z1, Z2, Z3, Z4, Z5, Z6, Z7, Z8, Z9, Z10, Z11, Z12, Z13] at h13
       all_goals (
        refine HC_skip ?_; refine HQ_then ?_; refine hK8 _ _ _ _ ?_; clear hK8 K8; refine HC_seq fun K15 hK15 => ?_; refine HC_region ?_; refine HL_r rfl rfl rfl rfl (R_loadA (vs := [_, _, _]) rfl (known_L (k := 0) rfl) rfl rfl rfl rfl) ?_; refine HL_r rfl rfl rfl rfl (R_move rfl) ?_; refine HL_callRE (Rl := R) rfl rfl rfl (enters_of Tryz.func19 (by kernel_rfl) rfl) hgt (fun q hq => Or.inr hq) fun y => ?_; refine HL_perm List.perm_append_comm ?_
        obtain ⟨⟨ya, yb, yc, yd, ybits, ypb, yit, ypi, ypk⟩, yL, yok, yer⟩ := y
        simp only at yer; refine HL_r rfl rfl rfl rfl (R_move rfl) ?_; refine HL_r rfl rfl rfl rfl (R_extract rfl rfl) ?_; refine HL_r rfl rfl rfl rfl (R_extract rfl rfl) ?_; refine HL_alloc (cs := #[_, _, _, _, _, _, _]) rfl rfl rfl rfl fun r2 => ?_
        refine HL_storeA (k := 0) (n := 7) (cs' := #[_, _, _, _, _, _, _]) (vs := #[_, _, _, _, _, _, _]) rfl rfl rfl rfl rfl rfl rfl (by exact Nat.le_of_ble_eq_true rfl) rfl (by first | (simp only [List.set_cons_zero, List.set_cons_succ]; exact rfl) | exact rfl) ?_; refine HL_r rfl rfl rfl rfl (R_assign rfl) ?_; refine HL_nil ?_; refine HQ_then ?_; refine hK15 _ _ _ _ ?_; clear hK15 K15; refine HC_seq fun K16 hK16 => ?_; refine HC_seq fun K17 hK17 => ?_; refine HC_region ?_; refine HL_r rfl rfl rfl rfl (R_move rfl) ?_; refine HL_r rfl rfl rfl rfl (R_pure rfl rfl rfl) ?_; refine HL_nil ?_; refine HQ_then ?_; refine hK17 _ _ _ _ ?_; clear hK17 K17; refine HC_cond rfl (fun h18 => ?_) (fun h18 => ?_)
        · try exact Bool.noConfusion h18
          try simp only [Z1, Z2, Z3, Z4, Z5, Z6, Z7, Z8, Z9, Z10, Z11, Z12, Z13] at h18
          refine HC_seq fun K19 hK19 => ?_; refine HC_region ?_; refine HL_r rfl rfl rfl rfl (R_move rfl) ?_; refine HL_r rfl rfl rfl rfl (R_move rfl) ?_; refine HL_r rfl rfl rfl rfl (R_loadA (vs := [_, _, _, _, _, _, _]) rfl (known_L (k := 0) rfl) rfl rfl rfl rfl) ?_; refine HL_r rfl rfl rfl rfl (R_build (r := [_, _, _, _, _, _, _]) rfl rfl) ?_; refine HL_callR (Rl := yL) rfl rfl rfl (enters_of Tryz.func23 (by kernel_rfl) rfl) (S_Same yok _ (v0_in.mono (fun q hq => absurd hq List.not_mem_nil))) (fun q hq => .inl (by simp only [List.cons_append, List.mem_cons, List.mem_append, hq, or_true])) ?_; refine HL_as (congrArg Value.bool ((same_er _ _).2 (yer.trans (hbd (by assumption))))) ?_; refine HL_r rfl rfl rfl rfl (R_pickT rfl rfl) ?_; refine HL_r rfl rfl rfl rfl (R_assign rfl) ?_; refine HL_nil ?_; refine HQ_then ?_; refine hK19 _ _ _ _ ?_; clear hK19 K19; refine HC_ret ?_; refine HQ_thenR ?_; clear hK16 K16; refine HQ_post rfl rfl (.cons (res_tmp rfl) .nil) (fun w1 hs1 => ?_); exact ⟨rfl, hs1.keep⟩
        · try exact Bool.noConfusion h18
          try simp only [Z1, Z2, Z3, Z4, Z5, Z6, Z7, Z8, Z9, Z10, Z11, Z12, Z13] at h18
          refine HC_skip ?_; refine HQ_then ?_; refine hK16 _ _ _ _ ?_; clear hK16 K16; refine HC_seq fun K23 hK23 => ?_; refine HC_region ?_; refine HL_r rfl rfl rfl rfl (R_loadA (vs := [_, _, _]) rfl (known_L (k := 1) rfl) rfl rfl rfl rfl) ?_; refine HL_r rfl rfl rfl rfl (R_loadA (vs := [_, _, _, _, _, _, _]) rfl (known_L (k := 0) rfl) rfl rfl rfl rfl) ?_; refine HL_callR (Rl := R ++ yL) rfl rfl rfl (enters_of Tryz.func17 (by kernel_rfl) rfl) (hput (by assumption) (by omega) _ yer yL yok) (fun q hq => (List.mem_append.1 hq).elim Or.inr (fun hq => .inl (by simp only [List.cons_append, List.mem_cons, List.mem_append, hq, or_true]))) ?_; refine HL_r rfl rfl rfl rfl (R_move rfl) ?_; refine HL_r rfl rfl rfl rfl (R_extract rfl rfl) ?_; refine HL_r rfl rfl rfl rfl (R_extract rfl rfl) ?_; refine HL_r rfl rfl rfl rfl (R_assign rfl) ?_; refine HL_r rfl rfl rfl rfl (R_assign rfl) ?_; refine HL_nil ?_; refine HQ_then ?_; refine hK23 _ _ _ _ ?_; clear hK23 K23; refine HC_seq fun K24 hK24 => ?_; refine HC_region ?_; refine HL_r rfl rfl rfl rfl (R_move rfl) ?_; refine HL_r rfl rfl rfl rfl (R_move rfl) ?_; refine HL_r rfl rfl rfl rfl (R_move rfl) ?_; refine HL_r rfl rfl rfl rfl (R_pure rfl rfl rfl) ?_; refine HL_r rfl rfl rfl rfl (R_pickT rfl rfl) ?_; refine HL_r rfl rfl rfl rfl (R_move rfl) ?_; refine HL_r rfl rfl rfl rfl (R_move rfl) ?_; refine HL_r rfl rfl rfl rfl (R_move rfl) ?_; refine HL_r rfl rfl rfl rfl (R_strEq rfl rfl) ?_; refine HL_as (show _ = Value.bool true from bool_eq' (decide_eq_true rfl)) ?_; refine HL_r rfl rfl rfl rfl (R_pickT rfl rfl) ?_; refine HL_r rfl rfl rfl rfl (R_move rfl) ?_; refine HL_r rfl rfl rfl rfl (R_loadA (vs := [_, _, _]) rfl (known_L (k := 1) rfl) rfl rfl rfl rfl) ?_; refine HL_r rfl rfl rfl rfl (R_loadA (vs := [_, _, _, _, _, _, _]) rfl (known_L (k := 0) rfl) rfl rfl rfl rfl) ?_; refine HL_callR (Rl := R ++ yL) rfl rfl rfl (enters_of Tryz.func22 (by kernel_rfl) rfl) (hfit (by assumption) (by omega) _ yer yL yok) (fun q hq => (List.mem_append.1 hq).elim Or.inr (fun hq => .inl (by simp only [List.cons_append, List.mem_cons, List.mem_append, hq, or_true]))) ?_; refine HL_r rfl rfl rfl rfl (R_pure rfl rfl rfl) ?_; refine HL_r rfl rfl rfl rfl (R_pickT rfl rfl) ?_; refine HL_r rfl rfl rfl rfl (R_assign rfl) ?_; refine HL_nil ?_; refine HQ_then ?_; refine hK24 _ _ _ _ ?_; clear hK24 K24; refine HC_ret ?_; refine HQ_post rfl rfl (.cons (res_tmp rfl) .nil) (fun w1 hs1 => ?_); exact ⟨rfl, hs1.keep⟩
        skip)
     skip)
section
variable {a b c d : Nat} {bits : List Bool} {pb : Pl} {items : List Vl} {pi : Pl} {pick n : Int} {p p' : Pl} {ins : List Ty}
end
end Go.Proofs.YtlcbfphioeppaaaGreatDoor
