import Derived.Test.YtlcbfphioeppaaaGreatDoorQge
namespace Go.Proofs.YtlcbfphioeppaaaGreatDoor
set_option linter.all false
open Go.SL Go.RowKit Go.Shelf
open Go.Proofs (Enters enters_of)
/-! ### law SszGets -/
set_option maxRecDepth 20000 in
set_option maxHeartbeats 1000000 in
theorem T_rGet {R : List (Nat × Obj)} {t : Ty} (ht : t.In R) (s : BS) : PureT (α := VR (getR t s).1) Tryz.prog 20 [t.val, strV s].toArray (fun y => .tuple #[y.x.val, .int .i64 (getR t s).2]) [] (fun y => y.L) R := by
  have hC := S_ref_Check ht
  have hO := T_rOf ht (s := s)
  have hg0 : chk t 0 ≠ 0 → getR t s = (v0L, chk t 0) := fun h => by unfold getR; rw [if_pos h]
  have hg1 : chk t 0 = 0 → 65536 < s.length → getR t s = (v0L, 5) := fun h h2 => by unfold getR; rw [if_neg (by rw [h]; decide), if_pos h2]
  have hg2 : chk t 0 = 0 → ¬ 65536 < s.length → getR t s = getT t s := fun h h2 => by unfold getR; rw [if_neg (by rw [h]; decide), if_neg h2]
  generalize hcz : chk t 0 = z at hC hO hg0 hg1 hg2
  obtain ⟨k, n, p, ins⟩ := t
  refine pureT_of_HC Tryz.func20 rfl rfl fun w => ?_; refine HC_seq fun K1 hK1 => HC_region ?_; refine HL_box (cs := #[_, _, _]) rfl rfl rfl rfl fun r1 => ?_; refine HL_alloc (cs := #[_, _, _, _, _, _, _]) rfl rfl rfl rfl fun r2 => ?_; refine HLm rfl ?_; refine HL_nil (hK1 _ _ _ _ ?_); refine HC_seq fun K2 hK2 => HC_region ?_; refine HL_r rfl rfl rfl rfl (R_loadA (vs := [_, _, _]) rfl (known_L (k := 1) rfl) rfl rfl rfl rfl) ?_; refine HL_callR rfl rfl rfl (enters_of Tryz.func44 (by kernel_rfl) rfl) hC (fun q hq => Or.inr hq) ?_; refine HLm rfl ?_; refine HL_nil (hK2 _ _ _ _ ?_); refine HC_seq fun K3 hK3 => ?_; refine HC_seq fun K4 hK4 => HC_region ?_; refine HLm rfl (HLp rfl ?_); refine HL_nil (hK4 _ _ _ _ ?_); refine HC_cond rfl (fun h5 => ?_) (fun h5 => ?_)
  · try exact Bool.noConfusion h5
    try simp only [ZZ] at h5
    refine HC_seq fun K6 hK6 => HC_region ?_; refine HL_r rfl rfl rfl rfl (R_build (r := [_, _, _, _, _, _, _]) rfl rfl) ?_; refine HLm rfl ?_
    refine HL_storeA (k := 0) (n := 7) (cs' := #[_, _, _, _, _, _, _]) (vs := #[_, _, _, _, _, _, _]) rfl rfl rfl rfl rfl rfl rfl (by exact Nat.le_of_ble_eq_true rfl) rfl (by first | (simp only [List.set_cons_zero, List.set_cons_succ]; exact rfl) | exact rfl) ?_; refine HLm rfl ?_; refine HL_nil (hK6 _ _ _ _ ?_); refine HC_ret (HQ_thenR ?_); refine HQ_post rfl rfl (.cons (res_cellA (vs := [_, _, _, _, _, _, _]) rfl (known_L (k := 0) rfl) rfl rfl) (.cons (res_tmp rfl) .nil)) (fun w1 hs1 => ?_)
    (have e1 := hg0 (by assumption)
     exact ⟨⟨v0L, [], v0_in, by rw [e1]; rfl⟩, congrArg (fun z => Ending.returned (Value.tuple #[v0L.val, .int .i64 z])) (congrArg Prod.snd e1).symm, hs1.weakL (List.nil_sublist _)⟩)
  · try exact Bool.noConfusion h5
    try simp only [ZZ] at h5
    refine HC_skip (hK3 _ _ _ _ ?_); refine HC_seq fun K7 hK7 => ?_; refine HC_seq fun K8 hK8 => HC_region ?_; refine HLm rfl (HL_r rfl rfl rfl rfl (R_lenBs rfl rfl) (HLp rfl ?_)); refine HL_nil (hK8 _ _ _ _ ?_); refine HC_cond rfl (fun h9 => ?_) (fun h9 => ?_)
    · try exact Bool.noConfusion h9
      try simp only [ZZ] at h9
      refine HC_seq fun K10 hK10 => HC_region ?_; refine HL_r rfl rfl rfl rfl (R_build (r := [_, _, _, _, _, _, _]) rfl rfl) ?_
      refine HL_storeA (k := 0) (n := 7) (cs' := #[_, _, _, _, _, _, _]) (vs := #[_, _, _, _, _, _, _]) rfl rfl rfl rfl rfl rfl rfl (by exact Nat.le_of_ble_eq_true rfl) rfl (by first | (simp only [List.set_cons_zero, List.set_cons_succ]; exact rfl) | exact rfl) ?_; refine HLm rfl ?_; refine HL_nil (hK10 _ _ _ _ ?_); refine HC_ret (HQ_thenR ?_); refine HQ_post rfl rfl (.cons (res_cellA (vs := [_, _, _, _, _, _, _]) rfl (known_L (k := 0) rfl) rfl rfl) (.cons (res_tmp rfl) .nil)) (fun w1 hs1 => ?_)
      (have e1 := hg1 (by assumption) (by omega)
       exact ⟨⟨v0L, [], v0_in, by rw [e1]; rfl⟩, congrArg (fun z => Ending.returned (Value.tuple #[v0L.val, .int .i64 z])) (congrArg Prod.snd e1).symm, hs1.weakL (List.nil_sublist _)⟩)
    · try exact Bool.noConfusion h9
      try simp only [ZZ] at h9
      refine HC_skip (hK7 _ _ _ _ ?_); refine HC_seq fun K11 hK11 => ?_
      have hz : z = 0 := by assumption
      have hl : ¬ 65536 < s.length := by omega
      have hO2 := hO hz (by omega)
      obtain ⟨ge, hge⟩ : ∃ g, (getT (.mk k n p ins) s).2 = g := ⟨_, rfl⟩
      rw [hge] at hO2; refine HC_region (HL_r rfl rfl rfl rfl (R_loadA (vs := [_, _, _]) rfl (known_L (k := 1) rfl) rfl rfl rfl rfl) ?_); refine HLm rfl (HL_callRE (Rl := R) rfl rfl rfl (enters_of Tryz.func45 (by kernel_rfl) rfl) hO2 (fun q hq => Or.inr hq) fun y => (HL_perm List.perm_append_comm ?_))
      obtain ⟨⟨ya, yb, yc, yd, ybits, ypb, yitems, ypi, ypick⟩, yL, yok, yer⟩ := y
      refine HL_as (show gotV (Vl.mk ya yb yc yd ybits ypb yitems ypi ypick) ge = .agg #[uV ya, uV yb, uV yc, uV yd, plV ybits.length ypb, plV yitems.length ypi, .int .i64 ypick, .int .i64 ge] from rfl) ?_; refine HL_alloc (cs := #[_, _, _, _, _, _, _, _]) rfl rfl rfl rfl fun r3 => ?_
      refine HL_storeA (k := 0) (n := 8) (cs' := #[_, _, _, _, _, _, _, _]) (vs := #[_, _, _, _, _, _, _, _]) rfl rfl rfl rfl rfl rfl rfl (by exact Nat.le_of_ble_eq_true rfl) rfl (by first | (simp only [List.set_cons_zero, List.set_cons_succ]; exact rfl) | exact rfl) ?_; refine HL_nil (hK11 _ _ _ _ ?_); refine HC_seq fun K12 hK12 => ?_
      refine HC_drawB [(r3, .cells #[uV ya, uV yb, uV yc, uV yd, plV ybits.length ypb, plV yitems.length ypi, .int .i64 ypick, .int .i64 ge] 61 (0, 0))] [(0, .pure), (1, .pure), (2, .pure), (3, .pure), (4, .turn)] 5 [0, 1, 2, 3, 4] (by kernel_rfl) (by kernel_rfl) (by first | exact (fun _ h => absurd h List.not_mem_nil) | simp [SubS] | (intro p hp; simp [hp])) ?_
      refine HB_p (k := 0) rfl rfl rfl rfl rfl (fun _ hS => (R_fieldAddr rfl rfl (by first | (simp only [Nat.zero_add, Nat.reduceAdd, Nat.reduceMul, Nat.zero_mul, Nat.mul_one, Nat.add_zero]; exact rfl) | exact rfl))) ?_; refine HB_p (k := 1) rfl rfl rfl rfl rfl (fun _ hS => (R_loadA (vs := [_, _, _, _, _, _, _]) rfl (.inl (hS _ (mem_nth (n := 0) rfl))) rfl rfl rfl rfl)) ?_
      refine HB_p (k := 2) rfl rfl rfl rfl rfl (fun _ hS => (R_fieldAddr rfl rfl (by first | (simp only [Nat.zero_add, Nat.reduceAdd, Nat.reduceMul, Nat.zero_mul, Nat.mul_one, Nat.add_zero]; exact rfl) | exact rfl))) ?_; refine HB_p (k := 3) rfl rfl rfl rfl rfl (fun _ hS => (R_load rfl (.inl (hS _ (mem_nth (n := 0) rfl))) rfl rfl)) ?_
      refine HB_storeArr (k := 4) (q := 1) (n := 7) (ys := [_, _, _, _, _, _, _]) rfl rfl rfl rfl rfl rfl rfl rfl rfl rfl (by first | (simp only [List.set_cons_zero, List.set_cons_succ]; exact rfl) | exact rfl) (by first | exact (fun _ h => absurd h List.not_mem_nil) | simp [SubS] | (intro p hp; simp [hp])) ?_; refine HB_end ?_; refine HLm rfl ?_; refine HL_nil (hK12 _ _ _ _ ?_); refine HC_ret ?_; refine HQ_post rfl rfl (.cons (res_cellA (vs := [_, _, _, _, _, _, _]) rfl (known_L (k := 1) rfl) rfl rfl) (.cons (res_tmp rfl) .nil)) (fun w1 hs1 => ?_)
      (have e1 := hg2 hz hl
       exact ⟨⟨Vl.mk ya yb yc yd ybits ypb yitems ypi ypick, yL, yok, by rw [e1]; exact yer⟩, congrArg (fun z => Ending.returned (Value.tuple #[Vl.val (Vl.mk ya yb yc yd ybits ypb yitems ypi ypick), .int .i64 z])) (hge.symm.trans (congrArg Prod.snd e1).symm), hs1.weakL (.cons _ (.cons _ (.cons _ (List.Sublist.refl _))))⟩)
set_option maxRecDepth 10000 in
theorem L_SszGets {R : List (Nat × Obj)} {t : Ty} (ht : t.In R) (s : BS) : PureR Tryz.prog 4 [t.val, strV s].toArray (.bool true) R := by
  have h1 := S_few8 ht (v0_in.mono (R' := R) (fun q hq => absurd hq List.not_mem_nil))
  have hg := T_Get ht s
  have hr := T_rGet ht s
  generalize few8 t v0L = f at h1
  generalize getR t s = gr at hg hr
  obtain ⟨gv, ge⟩ := gr
  obtain ⟨k, n, p, ins⟩ := t
  refine pureR_of_HC Tryz.func4 rfl rfl fun w => ?_; refine HC_seq fun K1 hK1 => HC_region ?_; refine HL_box (cs := #[_, _, _]) rfl rfl rfl rfl fun r1 => ?_; refine HLm rfl ?_; refine HL_nil (hK1 _ _ _ _ ?_); refine HC_seq fun K2 hK2 => HC_region ?_; refine HL_callP rfl rfl rfl (enters_of Tryz.func15 (by kernel_rfl) rfl) P_works08 ?_; refine HLm rfl ?_; refine HL_nil (hK2 _ _ _ _ ?_); refine HC_seq fun K3 hK3 => ?_; refine HC_seq fun K4 hK4 => HC_region ?_; refine HLm rfl (HLp rfl ?_); refine HL_nil (hK4 _ _ _ _ ?_); refine HC_cond rfl (fun h5 => ?_) (fun h5 => ?_)
  · try exact Bool.noConfusion h5
  · try exact Bool.noConfusion h5
    try simp only [ZZ] at h5
    refine HC_skip (hK3 _ _ _ _ ?_); refine HC_seq fun K7 hK7 => HC_region ?_; refine HL_r rfl rfl rfl rfl (R_loadA (vs := [_, _, _]) rfl (known_L (k := 0) rfl) rfl rfl rfl rfl) ?_; refine HL_r rfl rfl rfl rfl (R_build (r := [_, _, _, _, _, _, _]) rfl rfl) ?_; refine HL_callR rfl rfl rfl (enters_of Tryz.func16 (by kernel_rfl) rfl) h1 (fun q hq => Or.inr hq) ?_; refine HLm rfl ?_; refine HL_nil (hK7 _ _ _ _ ?_); refine HC_seq fun K8 hK8 => ?_; refine HC_seq fun K9 hK9 => HC_region ?_; refine HLm rfl (HLp rfl (HLm rfl ?_))
    refine HL_case 20 rfl (fun hb10 => ?_) (fun hb10 => ?_) <;> (try simp only [ZZ] at hb10) <;> first | (refine HLm rfl ?_) | (refine HL_skip rfl rfl rfl ?_)
    all_goals first
      | (refine HL_r rfl rfl rfl rfl (R_lenBs rfl rfl) ?_)
      | (refine HL_skip rfl rfl rfl ?_)
    all_goals first
      | (refine HLp rfl ?_)
      | (refine HL_skip rfl rfl rfl ?_)
    all_goals first
      | (refine HLm rfl ?_)
      | (refine HL_skip rfl rfl rfl ?_)
    all_goals first
      | (refine HL_skip rfl rfl rfl ?_)
      | (refine HL_case 24 rfl (fun hb14 => ?_) (fun hb14 => ?_) <;> (try simp only [ZZ] at hb14) <;> first | (refine HLm rfl ?_) | (refine HL_skip rfl rfl rfl ?_))
    all_goals first
      | (refine HL_r rfl rfl rfl rfl (R_lenBs rfl rfl) ?_)
      | (refine HL_skip rfl rfl rfl ?_)
    all_goals first
      | (refine HLp rfl ?_)
      | (refine HL_skip rfl rfl rfl ?_)
    all_goals first
      | (refine HL_r rfl rfl rfl rfl (R_pickT rfl rfl) ?_)
      | (refine HL_r rfl rfl rfl rfl (R_pickF rfl rfl) ?_)
      | (refine HL_skip rfl rfl rfl ?_)
    all_goals first
      | (refine HL_r rfl rfl rfl rfl (R_pickT rfl rfl) ?_)
      | (refine HL_r rfl rfl rfl rfl (R_pickF rfl rfl) ?_)
    all_goals refine HL_nil ?_
    all_goals (
     refine hK9 _ _ _ _ ?_; refine HC_cond rfl (fun h18 => ?_) (fun h18 => ?_)
     · try exact Bool.noConfusion h18
       all_goals try simp only [ZZ] at h18
       all_goals (
        refine HC_seq fun K19 hK19 => HC_region ?_; refine HLm rfl (HLm rfl ?_); refine HL_nil (hK19 _ _ _ _ ?_); refine HC_ret (HQ_thenR ?_); refine HQ_post rfl rfl (.cons (res_tmp rfl) .nil) (fun w1 hs1 => ?_); exact ⟨rfl, hs1.keep⟩
        skip)
     · try exact Bool.noConfusion h18
       all_goals try simp only [ZZ] at h18
       all_goals (
        refine HC_skip (hK8 _ _ _ _ ?_); refine HC_seq fun K20 hK20 => HC_region ?_; refine HL_r rfl rfl rfl rfl (R_loadA (vs := [_, _, _]) rfl (known_L (k := 0) rfl) rfl rfl rfl rfl) ?_; refine HLm rfl (HL_callRE (Rl := R) rfl rfl rfl (enters_of Tryz.func19 (by kernel_rfl) rfl) hg (fun q hq => Or.inr hq) fun y => (HL_perm List.perm_append_comm ?_))
        obtain ⟨⟨ya, yb, yc, yd, ybits, ypb, yitems, ypi, ypick⟩, yL, yok, yer⟩ := y
        refine HLm rfl (HL_r rfl rfl rfl rfl (R_extract rfl rfl) (HL_r rfl rfl rfl rfl (R_extract rfl rfl) ?_)); refine HL_alloc (cs := #[_, _, _, _, _, _, _]) rfl rfl rfl rfl fun r2 => ?_
        refine HL_storeA (k := 0) (n := 7) (cs' := #[_, _, _, _, _, _, _]) (vs := #[_, _, _, _, _, _, _]) rfl rfl rfl rfl rfl rfl rfl (by exact Nat.le_of_ble_eq_true rfl) rfl (by first | (simp only [List.set_cons_zero, List.set_cons_succ]; exact rfl) | exact rfl) ?_; refine HLm rfl ?_; refine HL_nil (hK20 _ _ _ _ ?_); refine HC_seq fun K21 hK21 => HC_region ?_; refine HL_r rfl rfl rfl rfl (R_loadA (vs := [_, _, _]) rfl (known_L (k := 1) rfl) rfl rfl rfl rfl) ?_; refine HLm rfl (HL_callRE (Rl := R) rfl rfl rfl (enters_of Tryz.func20 (by kernel_rfl) rfl) hr (fun q hq => Or.inr hq) fun y => (HL_perm List.perm_append_comm ?_))
        obtain ⟨⟨za, zb, zc, zd, zbits, zpb, zit, zpi, zpk⟩, zL, zok, zer⟩ := y
        refine HLm rfl (HL_r rfl rfl rfl rfl (R_extract rfl rfl) (HL_r rfl rfl rfl rfl (R_extract rfl rfl) ?_)); refine HL_alloc (cs := #[_, _, _, _, _, _, _]) rfl rfl rfl rfl fun r3 => ?_
        refine HL_storeA (k := 0) (n := 7) (cs' := #[_, _, _, _, _, _, _]) (vs := #[_, _, _, _, _, _, _]) rfl rfl rfl rfl rfl rfl rfl (by exact Nat.le_of_ble_eq_true rfl) rfl (by first | (simp only [List.set_cons_zero, List.set_cons_succ]; exact rfl) | exact rfl) ?_; refine HLm rfl ?_; refine HL_nil (hK21 _ _ _ _ ?_); refine HC_seq fun K22 hK22 => HC_region ?_; refine HL_r rfl rfl rfl rfl (R_loadA (vs := [_, _, _, _, _, _, _]) rfl (known_L (k := 1) rfl) rfl rfl rfl rfl) ?_; refine HL_r rfl rfl rfl rfl (R_loadA (vs := [_, _, _, _, _, _, _]) rfl (known_L (k := 0) rfl) rfl rfl rfl rfl) ?_
        refine HL_callR (Rl := yL ++ zL) rfl rfl rfl (enters_of Tryz.func21 (by kernel_rfl) rfl) (S_ref_Same (R := yL ++ zL) (yok.mono fun q hq => List.mem_append_left _ hq) (Vl.mk za zb zc zd zbits zpb zit zpi zpk) (zok.mono fun q hq => List.mem_append_right _ hq)) (fun q hq => .inl (by rcases List.mem_append.1 hq with hq | hq <;> simp only [List.cons_append, List.mem_cons, List.mem_append, hq, or_true, true_or])) ?_; refine HL_as (congrArg Value.bool ((same_er _ _).2 (yer.trans zer.symm))) ?_; refine HLm rfl ?_; refine HL_nil (hK22 _ _ _ _ ?_); refine HC_seq fun K23 hK23 => HC_region ?_; refine HLm rfl (HLm rfl ?_); refine HLm rfl (HL_r rfl rfl rfl rfl (R_pickT rfl rfl) ?_); refine HLm rfl (HLm rfl ?_); refine HLm rfl (HLp rfl (HL_r rfl rfl rfl rfl (R_pickT rfl rfl) ?_)); refine HLm rfl ?_; refine HL_nil (hK23 _ _ _ _ ?_); refine HC_ret ?_; refine HQ_post rfl rfl (.cons (res_tmp rfl) .nil) (fun w1 hs1 => ?_); exact ⟨congrArg (fun b => Ending.returned (.bool b)) (beq_self_eq_true _), hs1.keep⟩
        skip)
     skip)
end Go.Proofs.YtlcbfphioeppaaaGreatDoor
