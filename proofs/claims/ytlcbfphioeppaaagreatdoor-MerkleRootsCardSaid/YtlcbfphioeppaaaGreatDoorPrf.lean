import Derived.Test.YtlcbfphioeppaaaGreatDoorPre
namespace Go.Proofs.YtlcbfphioeppaaaGreatDoor
set_option linter.all false
open Go.SL Go.RowKit Go.Shelf
/-! ### The reference's root of a value; the law's few -/
set_option maxHeartbeats 1000000 in
set_option maxRecDepth 10000 in
theorem S_rOf {R : List (Nat × Obj)} {v : Vl} (hv : v.In R) : ∀ (t : Ty) (dp : Nat), t.In R → chk t (dp : Int) = 0 → fitT v t = 0 → wV v ≤ 20000 → PureR Tryz.prog 61 [t.val, v.val].toArray (strV (rootV v t)) R := by
  have hv0 := hv
  induction hv with
  | @mk a b c d bits pb items pi pick ha hb hcc hd hlb hsb hl hs hp hi ih =>
  intro t dp ht hck hfit hw
  obtain ⟨k, n, p, ins⟩ := t
  have ht0 := ht
  cases ht with
  | mk hk hn hlt hst hit =>
  obtain ⟨hk8, ho, h6, hci⟩ := chk_mk hck
  obtain ⟨N, rfl⟩ : ∃ N : Nat, n = (N : Int) := ⟨n.toNat, by have := form_nn hk8 ho; omega⟩
  obtain ⟨hf1, hf2, hf3⟩ := fit_split hfit
  obtain ⟨m1, m2, m3, m4⟩ := fit_many hck hfit
  obtain ⟨q1, q2, q3⟩ := fit_more hck hfit
  have hcz := chk_dn hck
  have hwd : WOk [a, b, c, d] := ⟨rfl, fun x hx => by simp at hx; rcases hx with rfl | rfl | rfl | rfl <;> assumption⟩
  have hrow := fun (h8 : k ≠ 8) (j : Nat) x (h : items[j]? = some x) => fit_row hcz hfit h8 h
  have hwi : ∀ x ∈ items, wV x ≤ 20000 := fun x hx => Nat.le_trans (wV_sub hx) hw
  have hrec : k ≠ 8 → ∀ (i : Nat) x, items[i]? = some x → PureR Tryz.prog 61 [(inTy k 0 ins i).val, x.val].toArray (strV (rootV x (inTy k 0 ins i))) R := fun h8 i x hx => by
    obtain ⟨_, r1, r2, r3⟩ := hrow h8 i x hx
    have hm := List.mem_of_getElem? hx
    exact ih x hm (hi x hm) _ 0 (hit _ r1) r2 r3 (hwi x hm)
  have hrw : k = 3 ∨ k = 4 ∨ k = 7 → PureR Tryz.prog 114 [Ty.val (.mk k (N : Int) p ins), Vl.val (.mk a b c d bits pb items pi pick)].toArray (strV (rowM k (N : Int) ins items (rootL items k 0 ins 0))) R := fun hk => by
    by_cases h7 : k = 7
    · subst h7
      obtain ⟨w1, w2, w3⟩ := q3 rfl
      have hM : rowM 7 (N : Int) ins items (rootL items 7 0 ins 0) = rootC (rootL items 7 0 ins 0) ins.length := by unfold rowM; rw [if_pos rfl]
      rw [hM]
      have hrl := rootL_len items 7 0 ins 0
      refine S_rrow7 hst (by omega) w3 (fun s hs => ?_) (T_rroots ht0 hv0 (by decide) (by omega) (fun i hi => ?_) (hrec (by decide)))
      · obtain ⟨j, x, h1, rfl⟩ := rootL_mem hs
        rw [Nat.zero_add]
        obtain ⟨_, r1, r2, r3⟩ := hrow (by decide) j x h1
        exact rootV_len x _ 0 r2 r3
      · show i < ins.length
        omega
    · obtain ⟨w1, w2, w3, w4⟩ := q1 (by omega)
      obtain ⟨x0, hx0⟩ := List.length_eq_one_iff.1 w4
      subst hx0
      have h8 : k ≠ 8 := by omega
      refine S_rrow1 ht0 hv0 h7 h8 (chk_sub hcz _ List.mem_cons_self) (by omega) (by omega) (fun v hv => ?_) hwi hi fun i x hx => ?_
      · obtain ⟨j, hj⟩ := List.getElem?_of_mem hv
        have := (hrow h8 j v hj).2.2.2
        rwa [inTy_one h7 h8] at this
      · have := hrec h8 i x hx
        rwa [inTy_one h7 h8] at this
  have hrl32 : k = 3 ∨ k = 4 ∨ k = 7 → (rowM k (N : Int) ins items (rootL items k 0 ins 0)).length = 32 := fun hk => rowM_len hcz hfit hk
  obtain ⟨RM, hRM⟩ : ∃ x, x = rowM k (N : Int) ins items (rootL items k 0 ins 0) := ⟨_, rfl⟩
  have hRM8 : k ≠ 8 → rowM k (N : Int) ins items (rootL items k pick ins 0) = RM := fun h8 => by rw [rootL_n8 h8, hRM]
  rw [← hRM] at hrw hrl32
  obtain ⟨PB, hPB⟩ : ∃ x, x = packB bits := ⟨_, rfl⟩
  have hnb : k = 5 ∨ k = 6 → (cutC PB).length ≤ (N + 255) / 256 := fun h => by have := need_bits (q2 h).2.2; rw [hPB]; simpa using this
  have hpl : PB.length ≤ 64 := by rw [hPB, packB_len]; omega
  have hpk := S_refPack (l := bits) (p := pb) (by omega) hsb
  rw [← hPB] at hpk; rw [rootV_mk, ← hPB]; refine pureR_of_HC Tryz.func61 rfl rfl fun w => ?_; refine HC_seq fun K1 hK1 => HC_region ?_; refine HL_box (cs := #[_, _, _]) rfl rfl rfl rfl fun r1 => ?_; refine HL_box (cs := #[_, _, _, _, _, _, _]) rfl rfl rfl rfl fun r2 => ?_; refine HLm rfl ?_; refine HL_nil (hK1 _ _ _ _ ?_); refine HC_seq fun K2 hK2 => ?_; refine HC_seq fun K3 hK3 => HC_region ?_
  refine HL_r rfl rfl rfl rfl (R_fieldAddr rfl rfl (by first | (simp only [Nat.zero_add, Nat.reduceAdd, Nat.reduceMul, Nat.zero_mul, Nat.mul_one, Nat.add_zero]; exact rfl) | exact rfl)) ?_; refine HL_r rfl rfl rfl rfl (R_load rfl (known_L (k := 1) rfl) rfl rfl) ?_; refine HL_nil (hK3 _ _ _ _ ?_); refine HC_block (HC_seq fun K4 hK4 => (HC_seq fun K5 hK5 => HC_region ?_)); refine HLp rfl (HLm rfl ?_); refine HL_nil (hK5 _ _ _ _ ?_); refine HC_cond rfl (fun h6 => ?_) (fun h6 => ?_)
  · try exact Bool.noConfusion h6
    try simp only [ZZ] at h6
    refine HC_skip (hK4 _ _ _ _ ?_); refine HC_cond rfl (fun h7 => ?_) (fun h7 => ?_)
    · try exact Bool.noConfusion h7
      try simp only [ZZ] at h7
      refine HC_seq fun K8 hK8 => HC_region ?_
      refine HL_r rfl rfl rfl rfl (R_fieldAddr rfl rfl (by first | (simp only [Nat.zero_add, Nat.reduceAdd, Nat.reduceMul, Nat.zero_mul, Nat.mul_one, Nat.add_zero]; exact rfl) | exact rfl)) ?_; refine HL_r rfl rfl rfl rfl (R_loadA (vs := [_, _, _, _]) rfl (known_L (k := 0) rfl) rfl rfl rfl rfl) ?_; refine HL_callP rfl rfl rfl (enters_of Tryz.func74 (by kernel_rfl) rfl) (P_Low hwd (n := 32) (by decide)) ?_; refine HLm rfl ?_; refine HL_nil (hK8 _ _ _ _ ?_); refine HC_ret (HQ_blockR (HQ_thenR ?_)); refine HQ_post rfl rfl (.cons (res_tmp rfl) .nil) (fun w1 hs1 => ?_); refine ⟨?_, hs1.keep⟩; rw [if_pos (by omega)]; rfl
    · try exact Bool.noConfusion h7
      try simp only [ZZ] at h7
      refine HC_seq fun K9 hK9 => HC_region ?_; refine HLp rfl (HLm rfl ?_); refine HL_nil (hK9 _ _ _ _ ?_); refine HC_cond rfl (fun h10 => ?_) (fun h10 => ?_)
      · try exact Bool.noConfusion h10
        try simp only [ZZ] at h10
        refine HC_seq fun K11 hK11 => ?_
        refine HC_drawB [] [(3, .pure), (5, .pure), (6, .pure), (7, .pure), (8, .pure)] 9 [0, 1, 3, 4, 5, 6, 2, 7, 8] (by kernel_rfl) (by kernel_rfl) (by first | exact (fun _ h => nomatch h) | simp [SubS] | (intro p hp; simp [hp])) ?_; refine HB_r (k := 0) rfl rfl rfl rfl rfl (R_loadArr (xs := (Ty.mk k (N : Int) p ins).cells) (n := 3) rfl (known_L (k := 1) rfl) rfl rfl (Ty.mk k (N : Int) p ins).len) ?_; refine HB_r (k := 1) rfl rfl rfl rfl rfl (R_loadArr (xs := (Vl.mk a b c d bits pb items pi pick).cells) (n := 7) rfl (known_L (k := 0) rfl) rfl rfl (Vl.mk a b c d bits pb items pi pick).len) ?_
        refine HB_p (k := 3) rfl rfl rfl rfl rfl (fun _ hS => (R_fieldAddr rfl rfl (by first | (simp only [Nat.zero_add, Nat.reduceAdd, Nat.reduceMul, Nat.zero_mul, Nat.mul_one, Nat.add_zero]; exact rfl) | exact rfl))) ?_; refine HB_r (k := 4) rfl rfl rfl rfl rfl (R_load rfl (known_L (k := 0) rfl) rfl rfl) ?_; refine HB_p (k := 5) rfl rfl rfl rfl rfl (fun _ hS => (R_lenPl rfl hs rfl)) ?_; refine HB_p (k := 6) rfl rfl rfl rfl rfl (fun _ _ => (R_pure rfl rfl rfl)) ?_; refine HB_as (show _ = uV (items.length) from congrArg (Value.int .u64) (wrap_u64 (by omega) (by omega))) ?_; refine HB_callR (k := 2) rfl rfl rfl rfl rfl (enters_of Tryz.func114 (by kernel_rfl) rfl) (hrw (by omega)) (fun q hq => Or.inr hq) ?_; refine HB_callP (k := 7) rfl rfl rfl rfl rfl (enters_of Tryz.func58 (by kernel_rfl) rfl) (P_rmix (by rw [hrl32 (by omega)]; decide) (by show _ < 18446744073709551616; omega)) ?_; refine HB_p (k := 8) rfl rfl rfl rfl rfl (fun _ hS => (R_assign rfl)) ?_; refine HB_end ?_; refine HL_nil (hK11 _ _ _ _ ?_); refine HC_ret (HQ_blockR (HQ_thenR ?_)); refine HQ_post rfl rfl (.cons (res_tmp rfl) .nil) (fun w1 hs1 => ?_); refine ⟨?_, hs1.keep⟩
        exfalso; omega
      · try exact Bool.noConfusion h10
        try simp only [ZZ] at h10
        refine HC_seq fun K12 hK12 => HC_region ?_; refine HLp rfl (HLm rfl ?_); refine HL_nil (hK12 _ _ _ _ ?_); refine HC_cond rfl (fun h13 => ?_) (fun h13 => ?_)
        · try exact Bool.noConfusion h13
          try simp only [ZZ] at h13
          refine HC_seq fun K14 hK14 => ?_
          have hN5 := (q2 (by omega)).2.1
          refine HC_drawB [] [(0, .pure), (3, .grow (geCall (rowP0 (cutC PB)) (fun x => rV x) (fun x => rL x))), (4, .pure), (6, .pure), (7, .pure), (9, .pure)] 10 [0, 1, 2, 4, 5, 6, 7, 3, 8, 9] (by kernel_rfl) (by kernel_rfl) (by first | exact (fun _ h => nomatch h) | simp [SubS] | (intro p hp; simp [hp])) ?_
          refine HB_p (k := 0) rfl rfl rfl rfl rfl (fun _ hS => (R_fieldAddr rfl rfl (by first | (simp only [Nat.zero_add, Nat.reduceAdd, Nat.reduceMul, Nat.zero_mul, Nat.mul_one, Nat.add_zero]; exact rfl) | exact rfl))) ?_; refine HB_r (k := 1) rfl rfl rfl rfl rfl (R_load rfl (known_L (k := 0) rfl) rfl rfl) ?_; refine HB_callR (k := 2) rfl rfl rfl rfl rfl (enters_of Tryz.func75 (by kernel_rfl) rfl) hpk (fun q hq => Or.inr hq) ?_
          refine HB_p (k := 4) rfl rfl rfl rfl rfl (fun _ hS => (R_fieldAddr rfl rfl (by first | (simp only [Nat.zero_add, Nat.reduceAdd, Nat.reduceMul, Nat.zero_mul, Nat.mul_one, Nat.add_zero]; exact rfl) | exact rfl))) ?_; refine HB_r (k := 5) rfl rfl rfl rfl rfl (R_load rfl (known_L (k := 1) rfl) rfl rfl) ?_
          refine HB_p (k := 6) rfl rfl rfl rfl rfl (fun _ _ => (R_pure rfl rfl rfl)) ?_; refine HB_as (show _ = Value.int .i64 ((N + 255 : Nat) : Int) from congrArg (Value.int .i64) (by first | exact rem_nat _ _ | exact quo_i64 (by omega) (by decide) (by omega) | (rw [wrap_i64 (by omega) (by omega)]; omega))) ?_
          refine HB_p (k := 7) rfl rfl rfl rfl rfl (fun _ _ => (R_pure rfl rfl rfl)) ?_; refine HB_as (show _ = Value.int .i64 (((N + 255) / 256 : Nat) : Int) from congrArg (Value.int .i64) (by first | exact rem_nat _ _ | exact quo_i64 (by omega) (by decide) (by omega) | (rw [wrap_i64 (by omega) (by omega)]; omega))) ?_
          refine HB_callRE (k := 3) rfl rfl rfl rfl rfl (enters_of Tryz.func115 (by kernel_rfl) rfl) (T_rchunksP (s := PB) (by omega)) (fun q hq => by first | exact .inr hq | cases hq) fun x => ?_; refine HB_callR (k := 8) rfl rfl rfl rfl rfl (enters_of Tryz.func55 (by kernel_rfl) rfl) (S_rtree (hnb (by omega)) (by have := (q2 (by omega)).2.1; omega) (rowP_seg x.2 (by decide)) (cutC_32 _)) (fun q hq => .inl (List.mem_append_left _ hq)) ?_; refine HB_p (k := 9) rfl rfl rfl rfl rfl (fun _ hS => (R_assign rfl)) ?_; refine HB_end ?_; refine HL_nil (hK14 _ _ _ _ ?_); refine HC_ret (HQ_blockR (HQ_thenR ?_)); refine HQ_post rfl rfl (.cons (res_tmp rfl) .nil) (fun w1 hs1 => ?_); refine ⟨?_, hs1.keep⟩
          exfalso; omega
        · try exact Bool.noConfusion h13
          try simp only [ZZ] at h13
          refine HC_seq fun K15 hK15 => HC_region ?_; refine HLp rfl (HLm rfl ?_); refine HL_nil (hK15 _ _ _ _ ?_); refine HC_cond rfl (fun h16 => ?_) (fun h16 => ?_)
          · try exact Bool.noConfusion h16
            try simp only [ZZ] at h16
            refine HC_seq fun K17 hK17 => ?_
            have hN5 := (q2 (by omega)).2.1
            refine HC_drawB [] [(0, .pure), (3, .grow (geCall (rowP0 (cutC PB)) (fun x => rV x) (fun x => rL x))), (4, .pure), (6, .pure), (7, .pure), (9, .pure), (11, .pure), (12, .pure), (13, .pure), (14, .pure)] 15 [0, 1, 2, 4, 5, 6, 7, 9, 10, 11, 12, 3, 8, 13, 14] (by kernel_rfl) (by kernel_rfl) (by first | exact (fun _ h => nomatch h) | simp [SubS] | (intro p hp; simp [hp])) ?_
            refine HB_p (k := 0) rfl rfl rfl rfl rfl (fun _ hS => (R_fieldAddr rfl rfl (by first | (simp only [Nat.zero_add, Nat.reduceAdd, Nat.reduceMul, Nat.zero_mul, Nat.mul_one, Nat.add_zero]; exact rfl) | exact rfl))) ?_; refine HB_r (k := 1) rfl rfl rfl rfl rfl (R_load rfl (known_L (k := 0) rfl) rfl rfl) ?_; refine HB_callR (k := 2) rfl rfl rfl rfl rfl (enters_of Tryz.func75 (by kernel_rfl) rfl) hpk (fun q hq => Or.inr hq) ?_
            refine HB_p (k := 4) rfl rfl rfl rfl rfl (fun _ hS => (R_fieldAddr rfl rfl (by first | (simp only [Nat.zero_add, Nat.reduceAdd, Nat.reduceMul, Nat.zero_mul, Nat.mul_one, Nat.add_zero]; exact rfl) | exact rfl))) ?_; refine HB_r (k := 5) rfl rfl rfl rfl rfl (R_load rfl (known_L (k := 1) rfl) rfl rfl) ?_
            refine HB_p (k := 6) rfl rfl rfl rfl rfl (fun _ _ => (R_pure rfl rfl rfl)) ?_; refine HB_as (show _ = Value.int .i64 ((N + 255 : Nat) : Int) from congrArg (Value.int .i64) (by first | exact rem_nat _ _ | exact quo_i64 (by omega) (by decide) (by omega) | (rw [wrap_i64 (by omega) (by omega)]; omega))) ?_
            refine HB_p (k := 7) rfl rfl rfl rfl rfl (fun _ _ => (R_pure rfl rfl rfl)) ?_; refine HB_as (show _ = Value.int .i64 (((N + 255) / 256 : Nat) : Int) from congrArg (Value.int .i64) (by first | exact rem_nat _ _ | exact quo_i64 (by omega) (by decide) (by omega) | (rw [wrap_i64 (by omega) (by omega)]; omega))) ?_
            refine HB_p (k := 9) rfl rfl rfl rfl rfl (fun _ hS => (R_fieldAddr rfl rfl (by first | (simp only [Nat.zero_add, Nat.reduceAdd, Nat.reduceMul, Nat.zero_mul, Nat.mul_one, Nat.add_zero]; exact rfl) | exact rfl))) ?_; refine HB_r (k := 10) rfl rfl rfl rfl rfl (R_load rfl (known_L (k := 0) rfl) rfl rfl) ?_; refine HB_p (k := 11) rfl rfl rfl rfl rfl (fun _ hS => (R_lenPl rfl hsb rfl)) ?_; refine HB_p (k := 12) rfl rfl rfl rfl rfl (fun _ _ => (R_pure rfl rfl rfl)) ?_; refine HB_as (show _ = uV (bits.length) from congrArg (Value.int .u64) (wrap_u64 (by omega) (by omega))) ?_
            refine HB_callRE (k := 3) rfl rfl rfl rfl rfl (enters_of Tryz.func115 (by kernel_rfl) rfl) (T_rchunksP (s := PB) (by omega)) (fun q hq => by first | exact .inr hq | cases hq) fun x => ?_; refine HB_callR (k := 8) rfl rfl rfl rfl rfl (enters_of Tryz.func55 (by kernel_rfl) rfl) (S_rtree (hnb (by omega)) (by have := (q2 (by omega)).2.1; omega) (rowP_seg x.2 (by decide)) (cutC_32 _)) (fun q hq => .inl (List.mem_append_left _ hq)) ?_; refine HB_callP (k := 13) rfl rfl rfl rfl rfl (enters_of Tryz.func58 (by kernel_rfl) rfl) (P_rmix (by rw [rootC_len (hnb (by omega)) (cutC_32 _)]; decide) (by show _ < 18446744073709551616; omega)) ?_; refine HB_p (k := 14) rfl rfl rfl rfl rfl (fun _ hS => (R_assign rfl)) ?_; refine HB_end ?_; refine HL_nil (hK17 _ _ _ _ ?_); refine HC_ret (HQ_blockR (HQ_thenR ?_)); refine HQ_post rfl rfl (.cons (res_tmp rfl) .nil) (fun w1 hs1 => ?_); refine ⟨?_, hs1.keep⟩
            exfalso; omega
          · try exact Bool.noConfusion h16
            try simp only [ZZ] at h16
            refine HC_seq fun K18 hK18 => HC_region ?_; refine HLp rfl (HLm rfl ?_); refine HL_nil (hK18 _ _ _ _ ?_); refine HC_cond rfl (fun h19 => ?_) (fun h19 => ?_)
            · try exact Bool.noConfusion h19
              try simp only [ZZ] at h19
              refine HC_seq fun K20 hK20 => ?_
              have hk0 : k = 8 := by assumption
              obtain ⟨h81, h82, h83, h84⟩ := m4 hk0
              have hx8 := itm_get (l := items) (i := 0) (by omega)
              have hin8 := inX_lt (v := .mk a b c d bits pb items pi pick) (i := 0) hcz hf2 (show 0 < items.length by omega)
              have hty8 := inTy_get hin8
              have hix8 : inX k (Vl.pick (.mk a b c d bits pb items pi pick)) 0 = pick.toNat := by unfold inX; rw [if_neg (by omega), if_pos hk0]; rfl
              rw [hix8] at hty8
              have hg8 := fitL_get (j := 0) hf3 hx8.1
              have hrec8 := ih _ hx8.2 (hi _ hx8.2) _ 0 (hit _ hty8.2) (chk_sub hcz _ hty8.2) hg8 (hwi _ hx8.2)
              have hXl := rootV_len _ _ 0 (chk_sub hcz _ hty8.2) hg8
              have hro8 := rootL_one (k := k) (pick := pick) (ins := ins) h81
              refine HC_drawB [] [(0, .pure), (2, .pure), (4, .pure), (6, .pure), (8, .pure), (11, .pure), (13, .pure), (14, .pure), (15, .pure)] 16 [0, 1, 2, 3, 4, 5, 6, 7, 8, 9, 11, 12, 13, 10, 14, 15] (by kernel_rfl) (by kernel_rfl) (by first | exact (fun _ h => nomatch h) | simp [SubS] | (intro p hp; simp [hp])) ?_
              refine HB_p (k := 0) rfl rfl rfl rfl rfl (fun _ hS => (R_fieldAddr rfl rfl (by first | (simp only [Nat.zero_add, Nat.reduceAdd, Nat.reduceMul, Nat.zero_mul, Nat.mul_one, Nat.add_zero]; exact rfl) | exact rfl))) ?_; refine HB_r (k := 1) rfl rfl rfl rfl rfl (R_load rfl (known_L (k := 1) rfl) rfl rfl) ?_
              refine HB_p (k := 2) rfl rfl rfl rfl rfl (fun _ hS => (R_fieldAddr rfl rfl (by first | (simp only [Nat.zero_add, Nat.reduceAdd, Nat.reduceMul, Nat.zero_mul, Nat.mul_one, Nat.add_zero]; exact rfl) | exact rfl))) ?_; refine HB_r (k := 3) rfl rfl rfl rfl rfl (R_load rfl (known_L (k := 0) rfl) rfl rfl) ?_; refine HB_p (k := 4) rfl rfl rfl rfl rfl (fun E' hS => R_indexPl (j := pick.toNat) rfl hst rfl rfl rfl (by omega) (by omega)) ?_; refine HB_r (k := 5) rfl rfl rfl rfl rfl (R_loadTy (fun q hq => Or.inr hq) rfl hst hty8.1 rfl rfl) ?_
              refine HB_p (k := 6) rfl rfl rfl rfl rfl (fun _ hS => (R_fieldAddr rfl rfl (by first | (simp only [Nat.zero_add, Nat.reduceAdd, Nat.reduceMul, Nat.zero_mul, Nat.mul_one, Nat.add_zero]; exact rfl) | exact rfl))) ?_; refine HB_r (k := 7) rfl rfl rfl rfl rfl (R_load rfl (known_L (k := 0) rfl) rfl rfl) ?_
              refine HB_p (k := 8) rfl rfl rfl rfl rfl (fun E' hS => R_indexPl (j := 0) rfl hs rfl rfl rfl (by first | rfl | omega) (by omega)) ?_; refine HB_r (k := 9) rfl rfl rfl rfl rfl (R_loadVl (fun q hq => Or.inr hq) rfl hs hx8.1 rfl rfl) ?_
              refine HB_p (k := 11) rfl rfl rfl rfl rfl (fun _ hS => (R_fieldAddr rfl rfl (by first | (simp only [Nat.zero_add, Nat.reduceAdd, Nat.reduceMul, Nat.zero_mul, Nat.mul_one, Nat.add_zero]; exact rfl) | exact rfl))) ?_; refine HB_r (k := 12) rfl rfl rfl rfl rfl (R_load rfl (known_L (k := 0) rfl) rfl rfl) ?_; refine HB_p (k := 13) rfl rfl rfl rfl rfl (fun _ _ => (R_pure rfl rfl rfl)) ?_; refine HB_as (show _ = uV (pick.toNat) from congrArg (Value.int .u64) ((wrap_u64 (by omega) (by omega)).trans (by omega))) ?_; refine HB_callR (k := 10) rfl rfl rfl rfl rfl (enters_of Tryz.func61 (by kernel_rfl) rfl) hrec8 (fun q hq => Or.inr hq) ?_; refine HB_callP (k := 14) rfl rfl rfl rfl rfl (enters_of Tryz.func58 (by kernel_rfl) rfl) (P_rmix (by rw [hXl]; decide) (by show _ < 18446744073709551616; omega)) ?_; refine HB_p (k := 15) rfl rfl rfl rfl rfl (fun _ hS => (R_assign rfl)) ?_; refine HB_end ?_; refine HL_nil (hK20 _ _ _ _ ?_); refine HC_ret (HQ_blockR (HQ_thenR ?_)); refine HQ_post rfl rfl (.cons (res_tmp rfl) .nil) (fun w1 hs1 => ?_); refine ⟨?_, hs1.keep⟩
              exfalso; omega
            · try exact Bool.noConfusion h19
              try simp only [ZZ] at h19
              refine HC_skip (HQ_blockN (hK2 _ _ _ _ ?_)); refine HC_seq fun K21 hK21 => HC_region ?_; refine HL_r rfl rfl rfl rfl (R_loadArr (xs := (Ty.mk k (N : Int) p ins).cells) (n := 3) rfl (known_L (k := 1) rfl) rfl rfl (Ty.mk k (N : Int) p ins).len) ?_; refine HL_r rfl rfl rfl rfl (R_loadArr (xs := (Vl.mk a b c d bits pb items pi pick).cells) (n := 7) rfl (known_L (k := 0) rfl) rfl rfl (Vl.mk a b c d bits pb items pi pick).len) ?_; refine HL_callR rfl rfl rfl (enters_of Tryz.func114 (by kernel_rfl) rfl) (hrw (by omega)) (fun q hq => Or.inr hq) ?_; refine HLm rfl ?_; refine HL_nil (hK21 _ _ _ _ ?_); refine HC_ret ?_; refine HQ_post rfl rfl (.cons (res_tmp rfl) .nil) (fun w1 hs1 => ?_); refine ⟨?_, hs1.keep⟩
              exfalso; omega
  · try exact Bool.noConfusion h6
    try simp only [ZZ] at h6
    refine HC_region (HLp rfl (HLm rfl ?_)); refine HL_nil (hK4 _ _ _ _ ?_); refine HC_cond rfl (fun h22 => ?_) (fun h22 => ?_)
    · try exact Bool.noConfusion h22
      try simp only [ZZ] at h22
      refine HC_seq fun K23 hK23 => HC_region ?_
      refine HL_r rfl rfl rfl rfl (R_fieldAddr rfl rfl (by first | (simp only [Nat.zero_add, Nat.reduceAdd, Nat.reduceMul, Nat.zero_mul, Nat.mul_one, Nat.add_zero]; exact rfl) | exact rfl)) ?_; refine HL_r rfl rfl rfl rfl (R_loadA (vs := [_, _, _, _]) rfl (known_L (k := 0) rfl) rfl rfl rfl rfl) ?_; refine HL_callP rfl rfl rfl (enters_of Tryz.func74 (by kernel_rfl) rfl) (P_Low hwd (n := 32) (by decide)) ?_; refine HLm rfl ?_; refine HL_nil (hK23 _ _ _ _ ?_); refine HC_ret (HQ_blockR (HQ_thenR ?_)); refine HQ_post rfl rfl (.cons (res_tmp rfl) .nil) (fun w1 hs1 => ?_); refine ⟨?_, hs1.keep⟩; rw [if_pos (by omega)]; rfl
    · try exact Bool.noConfusion h22
      try simp only [ZZ] at h22
      refine HC_seq fun K24 hK24 => HC_region ?_; refine HLp rfl (HLm rfl ?_); refine HL_nil (hK24 _ _ _ _ ?_); refine HC_cond rfl (fun h25 => ?_) (fun h25 => ?_)
      · try exact Bool.noConfusion h25
        try simp only [ZZ] at h25
        refine HC_seq fun K26 hK26 => ?_
        refine HC_drawB [] [(3, .pure), (5, .pure), (6, .pure), (7, .pure), (8, .pure)] 9 [0, 1, 3, 4, 5, 6, 2, 7, 8] (by kernel_rfl) (by kernel_rfl) (by first | exact (fun _ h => nomatch h) | simp [SubS] | (intro p hp; simp [hp])) ?_; refine HB_r (k := 0) rfl rfl rfl rfl rfl (R_loadArr (xs := (Ty.mk k (N : Int) p ins).cells) (n := 3) rfl (known_L (k := 1) rfl) rfl rfl (Ty.mk k (N : Int) p ins).len) ?_; refine HB_r (k := 1) rfl rfl rfl rfl rfl (R_loadArr (xs := (Vl.mk a b c d bits pb items pi pick).cells) (n := 7) rfl (known_L (k := 0) rfl) rfl rfl (Vl.mk a b c d bits pb items pi pick).len) ?_
        refine HB_p (k := 3) rfl rfl rfl rfl rfl (fun _ hS => (R_fieldAddr rfl rfl (by first | (simp only [Nat.zero_add, Nat.reduceAdd, Nat.reduceMul, Nat.zero_mul, Nat.mul_one, Nat.add_zero]; exact rfl) | exact rfl))) ?_; refine HB_r (k := 4) rfl rfl rfl rfl rfl (R_load rfl (known_L (k := 0) rfl) rfl rfl) ?_; refine HB_p (k := 5) rfl rfl rfl rfl rfl (fun _ hS => (R_lenPl rfl hs rfl)) ?_; refine HB_p (k := 6) rfl rfl rfl rfl rfl (fun _ _ => (R_pure rfl rfl rfl)) ?_; refine HB_as (show _ = uV (items.length) from congrArg (Value.int .u64) (wrap_u64 (by omega) (by omega))) ?_; refine HB_callR (k := 2) rfl rfl rfl rfl rfl (enters_of Tryz.func114 (by kernel_rfl) rfl) (hrw (by omega)) (fun q hq => Or.inr hq) ?_; refine HB_callP (k := 7) rfl rfl rfl rfl rfl (enters_of Tryz.func58 (by kernel_rfl) rfl) (P_rmix (by rw [hrl32 (by omega)]; decide) (by show _ < 18446744073709551616; omega)) ?_; refine HB_p (k := 8) rfl rfl rfl rfl rfl (fun _ hS => (R_assign rfl)) ?_; refine HB_end ?_; refine HL_nil (hK26 _ _ _ _ ?_); refine HC_ret (HQ_blockR (HQ_thenR ?_)); refine HQ_post rfl rfl (.cons (res_tmp rfl) .nil) (fun w1 hs1 => ?_); refine ⟨?_, hs1.keep⟩; rw [if_neg (by omega), if_pos (by omega), hRM8 (by omega)]; rfl
      · try exact Bool.noConfusion h25
        try simp only [ZZ] at h25
        refine HC_seq fun K27 hK27 => HC_region ?_; refine HLp rfl (HLm rfl ?_); refine HL_nil (hK27 _ _ _ _ ?_); refine HC_cond rfl (fun h28 => ?_) (fun h28 => ?_)
        · try exact Bool.noConfusion h28
          try simp only [ZZ] at h28
          refine HC_seq fun K29 hK29 => ?_
          have hN5 := (q2 (by omega)).2.1
          refine HC_drawB [] [(0, .pure), (3, .grow (geCall (rowP0 (cutC PB)) (fun x => rV x) (fun x => rL x))), (4, .pure), (6, .pure), (7, .pure), (9, .pure)] 10 [0, 1, 2, 4, 5, 6, 7, 3, 8, 9] (by kernel_rfl) (by kernel_rfl) (by first | exact (fun _ h => nomatch h) | simp [SubS] | (intro p hp; simp [hp])) ?_
          refine HB_p (k := 0) rfl rfl rfl rfl rfl (fun _ hS => (R_fieldAddr rfl rfl (by first | (simp only [Nat.zero_add, Nat.reduceAdd, Nat.reduceMul, Nat.zero_mul, Nat.mul_one, Nat.add_zero]; exact rfl) | exact rfl))) ?_; refine HB_r (k := 1) rfl rfl rfl rfl rfl (R_load rfl (known_L (k := 0) rfl) rfl rfl) ?_; refine HB_callR (k := 2) rfl rfl rfl rfl rfl (enters_of Tryz.func75 (by kernel_rfl) rfl) hpk (fun q hq => Or.inr hq) ?_
          refine HB_p (k := 4) rfl rfl rfl rfl rfl (fun _ hS => (R_fieldAddr rfl rfl (by first | (simp only [Nat.zero_add, Nat.reduceAdd, Nat.reduceMul, Nat.zero_mul, Nat.mul_one, Nat.add_zero]; exact rfl) | exact rfl))) ?_; refine HB_r (k := 5) rfl rfl rfl rfl rfl (R_load rfl (known_L (k := 1) rfl) rfl rfl) ?_
          refine HB_p (k := 6) rfl rfl rfl rfl rfl (fun _ _ => (R_pure rfl rfl rfl)) ?_; refine HB_as (show _ = Value.int .i64 ((N + 255 : Nat) : Int) from congrArg (Value.int .i64) (by first | exact rem_nat _ _ | exact quo_i64 (by omega) (by decide) (by omega) | (rw [wrap_i64 (by omega) (by omega)]; omega))) ?_
          refine HB_p (k := 7) rfl rfl rfl rfl rfl (fun _ _ => (R_pure rfl rfl rfl)) ?_; refine HB_as (show _ = Value.int .i64 (((N + 255) / 256 : Nat) : Int) from congrArg (Value.int .i64) (by first | exact rem_nat _ _ | exact quo_i64 (by omega) (by decide) (by omega) | (rw [wrap_i64 (by omega) (by omega)]; omega))) ?_
          refine HB_callRE (k := 3) rfl rfl rfl rfl rfl (enters_of Tryz.func115 (by kernel_rfl) rfl) (T_rchunksP (s := PB) (by omega)) (fun q hq => by first | exact .inr hq | cases hq) fun x => ?_; refine HB_callR (k := 8) rfl rfl rfl rfl rfl (enters_of Tryz.func55 (by kernel_rfl) rfl) (S_rtree (hnb (by omega)) (by have := (q2 (by omega)).2.1; omega) (rowP_seg x.2 (by decide)) (cutC_32 _)) (fun q hq => .inl (List.mem_append_left _ hq)) ?_; refine HB_p (k := 9) rfl rfl rfl rfl rfl (fun _ hS => (R_assign rfl)) ?_; refine HB_end ?_; refine HL_nil (hK29 _ _ _ _ ?_); refine HC_ret (HQ_blockR (HQ_thenR ?_)); refine HQ_post rfl rfl (.cons (res_tmp rfl) .nil) (fun w1 hs1 => ?_); refine ⟨?_, hs1.keep⟩; rw [if_neg (by omega), if_neg (by omega), if_pos (by omega)]; rfl
        · try exact Bool.noConfusion h28
          try simp only [ZZ] at h28
          refine HC_seq fun K30 hK30 => HC_region ?_; refine HLp rfl (HLm rfl ?_); refine HL_nil (hK30 _ _ _ _ ?_); refine HC_cond rfl (fun h31 => ?_) (fun h31 => ?_)
          · try exact Bool.noConfusion h31
            try simp only [ZZ] at h31
            refine HC_seq fun K32 hK32 => ?_
            have hN5 := (q2 (by omega)).2.1
            refine HC_drawB [] [(0, .pure), (3, .grow (geCall (rowP0 (cutC PB)) (fun x => rV x) (fun x => rL x))), (4, .pure), (6, .pure), (7, .pure), (9, .pure), (11, .pure), (12, .pure), (13, .pure), (14, .pure)] 15 [0, 1, 2, 4, 5, 6, 7, 9, 10, 11, 12, 3, 8, 13, 14] (by kernel_rfl) (by kernel_rfl) (by first | exact (fun _ h => nomatch h) | simp [SubS] | (intro p hp; simp [hp])) ?_
            refine HB_p (k := 0) rfl rfl rfl rfl rfl (fun _ hS => (R_fieldAddr rfl rfl (by first | (simp only [Nat.zero_add, Nat.reduceAdd, Nat.reduceMul, Nat.zero_mul, Nat.mul_one, Nat.add_zero]; exact rfl) | exact rfl))) ?_; refine HB_r (k := 1) rfl rfl rfl rfl rfl (R_load rfl (known_L (k := 0) rfl) rfl rfl) ?_; refine HB_callR (k := 2) rfl rfl rfl rfl rfl (enters_of Tryz.func75 (by kernel_rfl) rfl) hpk (fun q hq => Or.inr hq) ?_
            refine HB_p (k := 4) rfl rfl rfl rfl rfl (fun _ hS => (R_fieldAddr rfl rfl (by first | (simp only [Nat.zero_add, Nat.reduceAdd, Nat.reduceMul, Nat.zero_mul, Nat.mul_one, Nat.add_zero]; exact rfl) | exact rfl))) ?_; refine HB_r (k := 5) rfl rfl rfl rfl rfl (R_load rfl (known_L (k := 1) rfl) rfl rfl) ?_
            refine HB_p (k := 6) rfl rfl rfl rfl rfl (fun _ _ => (R_pure rfl rfl rfl)) ?_; refine HB_as (show _ = Value.int .i64 ((N + 255 : Nat) : Int) from congrArg (Value.int .i64) (by first | exact rem_nat _ _ | exact quo_i64 (by omega) (by decide) (by omega) | (rw [wrap_i64 (by omega) (by omega)]; omega))) ?_
            refine HB_p (k := 7) rfl rfl rfl rfl rfl (fun _ _ => (R_pure rfl rfl rfl)) ?_; refine HB_as (show _ = Value.int .i64 (((N + 255) / 256 : Nat) : Int) from congrArg (Value.int .i64) (by first | exact rem_nat _ _ | exact quo_i64 (by omega) (by decide) (by omega) | (rw [wrap_i64 (by omega) (by omega)]; omega))) ?_
            refine HB_p (k := 9) rfl rfl rfl rfl rfl (fun _ hS => (R_fieldAddr rfl rfl (by first | (simp only [Nat.zero_add, Nat.reduceAdd, Nat.reduceMul, Nat.zero_mul, Nat.mul_one, Nat.add_zero]; exact rfl) | exact rfl))) ?_; refine HB_r (k := 10) rfl rfl rfl rfl rfl (R_load rfl (known_L (k := 0) rfl) rfl rfl) ?_; refine HB_p (k := 11) rfl rfl rfl rfl rfl (fun _ hS => (R_lenPl rfl hsb rfl)) ?_; refine HB_p (k := 12) rfl rfl rfl rfl rfl (fun _ _ => (R_pure rfl rfl rfl)) ?_; refine HB_as (show _ = uV (bits.length) from congrArg (Value.int .u64) (wrap_u64 (by omega) (by omega))) ?_
            refine HB_callRE (k := 3) rfl rfl rfl rfl rfl (enters_of Tryz.func115 (by kernel_rfl) rfl) (T_rchunksP (s := PB) (by omega)) (fun q hq => by first | exact .inr hq | cases hq) fun x => ?_; refine HB_callR (k := 8) rfl rfl rfl rfl rfl (enters_of Tryz.func55 (by kernel_rfl) rfl) (S_rtree (hnb (by omega)) (by have := (q2 (by omega)).2.1; omega) (rowP_seg x.2 (by decide)) (cutC_32 _)) (fun q hq => .inl (List.mem_append_left _ hq)) ?_; refine HB_callP (k := 13) rfl rfl rfl rfl rfl (enters_of Tryz.func58 (by kernel_rfl) rfl) (P_rmix (by rw [rootC_len (hnb (by omega)) (cutC_32 _)]; decide) (by show _ < 18446744073709551616; omega)) ?_; refine HB_p (k := 14) rfl rfl rfl rfl rfl (fun _ hS => (R_assign rfl)) ?_; refine HB_end ?_; refine HL_nil (hK32 _ _ _ _ ?_); refine HC_ret (HQ_blockR (HQ_thenR ?_)); refine HQ_post rfl rfl (.cons (res_tmp rfl) .nil) (fun w1 hs1 => ?_); refine ⟨?_, hs1.keep⟩; rw [if_neg (by omega), if_neg (by omega), if_neg (by omega), if_pos (by omega)]; rfl
          · try exact Bool.noConfusion h31
            try simp only [ZZ] at h31
            refine HC_seq fun K33 hK33 => HC_region ?_; refine HLp rfl (HLm rfl ?_); refine HL_nil (hK33 _ _ _ _ ?_); refine HC_cond rfl (fun h34 => ?_) (fun h34 => ?_)
            · try exact Bool.noConfusion h34
              try simp only [ZZ] at h34
              refine HC_seq fun K35 hK35 => ?_
              have hk0 : k = 8 := by assumption
              obtain ⟨h81, h82, h83, h84⟩ := m4 hk0
              have hx8 := itm_get (l := items) (i := 0) (by omega)
              have hin8 := inX_lt (v := .mk a b c d bits pb items pi pick) (i := 0) hcz hf2 (show 0 < items.length by omega)
              have hty8 := inTy_get hin8
              have hix8 : inX k (Vl.pick (.mk a b c d bits pb items pi pick)) 0 = pick.toNat := by unfold inX; rw [if_neg (by omega), if_pos hk0]; rfl
              rw [hix8] at hty8
              have hg8 := fitL_get (j := 0) hf3 hx8.1
              have hrec8 := ih _ hx8.2 (hi _ hx8.2) _ 0 (hit _ hty8.2) (chk_sub hcz _ hty8.2) hg8 (hwi _ hx8.2)
              have hXl := rootV_len _ _ 0 (chk_sub hcz _ hty8.2) hg8
              have hro8 := rootL_one (k := k) (pick := pick) (ins := ins) h81
              refine HC_drawB [] [(0, .pure), (2, .pure), (4, .pure), (6, .pure), (8, .pure), (11, .pure), (13, .pure), (14, .pure), (15, .pure)] 16 [0, 1, 2, 3, 4, 5, 6, 7, 8, 9, 11, 12, 13, 10, 14, 15] (by kernel_rfl) (by kernel_rfl) (by first | exact (fun _ h => nomatch h) | simp [SubS] | (intro p hp; simp [hp])) ?_
              refine HB_p (k := 0) rfl rfl rfl rfl rfl (fun _ hS => (R_fieldAddr rfl rfl (by first | (simp only [Nat.zero_add, Nat.reduceAdd, Nat.reduceMul, Nat.zero_mul, Nat.mul_one, Nat.add_zero]; exact rfl) | exact rfl))) ?_; refine HB_r (k := 1) rfl rfl rfl rfl rfl (R_load rfl (known_L (k := 1) rfl) rfl rfl) ?_
              refine HB_p (k := 2) rfl rfl rfl rfl rfl (fun _ hS => (R_fieldAddr rfl rfl (by first | (simp only [Nat.zero_add, Nat.reduceAdd, Nat.reduceMul, Nat.zero_mul, Nat.mul_one, Nat.add_zero]; exact rfl) | exact rfl))) ?_; refine HB_r (k := 3) rfl rfl rfl rfl rfl (R_load rfl (known_L (k := 0) rfl) rfl rfl) ?_; refine HB_p (k := 4) rfl rfl rfl rfl rfl (fun E' hS => R_indexPl (j := pick.toNat) rfl hst rfl rfl rfl (by omega) (by omega)) ?_; refine HB_r (k := 5) rfl rfl rfl rfl rfl (R_loadTy (fun q hq => Or.inr hq) rfl hst hty8.1 rfl rfl) ?_
              refine HB_p (k := 6) rfl rfl rfl rfl rfl (fun _ hS => (R_fieldAddr rfl rfl (by first | (simp only [Nat.zero_add, Nat.reduceAdd, Nat.reduceMul, Nat.zero_mul, Nat.mul_one, Nat.add_zero]; exact rfl) | exact rfl))) ?_; refine HB_r (k := 7) rfl rfl rfl rfl rfl (R_load rfl (known_L (k := 0) rfl) rfl rfl) ?_
              refine HB_p (k := 8) rfl rfl rfl rfl rfl (fun E' hS => R_indexPl (j := 0) rfl hs rfl rfl rfl (by first | rfl | omega) (by omega)) ?_; refine HB_r (k := 9) rfl rfl rfl rfl rfl (R_loadVl (fun q hq => Or.inr hq) rfl hs hx8.1 rfl rfl) ?_
              refine HB_p (k := 11) rfl rfl rfl rfl rfl (fun _ hS => (R_fieldAddr rfl rfl (by first | (simp only [Nat.zero_add, Nat.reduceAdd, Nat.reduceMul, Nat.zero_mul, Nat.mul_one, Nat.add_zero]; exact rfl) | exact rfl))) ?_; refine HB_r (k := 12) rfl rfl rfl rfl rfl (R_load rfl (known_L (k := 0) rfl) rfl rfl) ?_; refine HB_p (k := 13) rfl rfl rfl rfl rfl (fun _ _ => (R_pure rfl rfl rfl)) ?_; refine HB_as (show _ = uV (pick.toNat) from congrArg (Value.int .u64) ((wrap_u64 (by omega) (by omega)).trans (by omega))) ?_; refine HB_callR (k := 10) rfl rfl rfl rfl rfl (enters_of Tryz.func61 (by kernel_rfl) rfl) hrec8 (fun q hq => Or.inr hq) ?_; refine HB_callP (k := 14) rfl rfl rfl rfl rfl (enters_of Tryz.func58 (by kernel_rfl) rfl) (P_rmix (by rw [hXl]; decide) (by show _ < 18446744073709551616; omega)) ?_; refine HB_p (k := 15) rfl rfl rfl rfl rfl (fun _ hS => (R_assign rfl)) ?_; refine HB_end ?_; refine HL_nil (hK35 _ _ _ _ ?_); refine HC_ret (HQ_blockR (HQ_thenR ?_)); refine HQ_post rfl rfl (.cons (res_tmp rfl) .nil) (fun w1 hs1 => ?_); refine ⟨?_, hs1.keep⟩; rw [if_neg (by omega), if_neg (by omega), if_neg (by omega), if_neg (by omega), if_pos (by omega), hro8]; rfl
            · try exact Bool.noConfusion h34
              try simp only [ZZ] at h34
              refine HC_skip (HQ_blockN (hK2 _ _ _ _ ?_)); refine HC_seq fun K36 hK36 => HC_region ?_; refine HL_r rfl rfl rfl rfl (R_loadArr (xs := (Ty.mk k (N : Int) p ins).cells) (n := 3) rfl (known_L (k := 1) rfl) rfl rfl (Ty.mk k (N : Int) p ins).len) ?_; refine HL_r rfl rfl rfl rfl (R_loadArr (xs := (Vl.mk a b c d bits pb items pi pick).cells) (n := 7) rfl (known_L (k := 0) rfl) rfl rfl (Vl.mk a b c d bits pb items pi pick).len) ?_; refine HL_callR rfl rfl rfl (enters_of Tryz.func114 (by kernel_rfl) rfl) (hrw (by omega)) (fun q hq => Or.inr hq) ?_; refine HLm rfl ?_; refine HL_nil (hK36 _ _ _ _ ?_); refine HC_ret ?_; refine HQ_post rfl rfl (.cons (res_tmp rfl) .nil) (fun w1 hs1 => ?_); refine ⟨?_, hs1.keep⟩; rw [if_neg (by omega), if_neg (by omega), if_neg (by omega), if_neg (by omega), if_neg (by omega), hRM8 (by omega)]; rfl
set_option maxRecDepth 10000 in
theorem S_rRoot {R : List (Nat × Obj)} {t : Ty} {v : Vl} (ht : t.In R) (hv : v.In R) (hw : wV v ≤ 20000) : PureR Tryz.prog 33 [t.val, v.val].toArray (resS (rootR t v)) R := by
  have h1 := S_ref_Fits ht hv
  have h2 := fun h => S_rOf hv t 0 ht (fits_split (t := t) (v := v) h).1 (fits_split h).2 hw
  unfold rootR
  generalize fitsT t v = e at h1 h2 ⊢
  generalize rootV v t = s at h2 ⊢
  obtain ⟨k, n, p, ins⟩ := t
  obtain ⟨a, b, c, d, bits, pb, items, pi, pick⟩ := v
  refine pureR_of_HC Tryz.func33 rfl rfl fun w => ?_; refine HC_seq fun K1 hK1 => HC_region ?_; refine HL_box (cs := #[_, _, _]) rfl rfl rfl rfl fun r1 => ?_; refine HL_box (cs := #[_, _, _, _, _, _, _]) rfl rfl rfl rfl fun r2 => ?_; refine HLm rfl (HLm rfl ?_); refine HL_nil (hK1 _ _ _ _ ?_); refine HC_seq fun K2 hK2 => HC_region ?_; refine HL_r rfl rfl rfl rfl (R_loadA (vs := [_, _, _]) rfl (known_L (k := 1) rfl) rfl rfl rfl rfl) ?_; refine HL_r rfl rfl rfl rfl (R_loadA (vs := [_, _, _, _, _, _, _]) rfl (known_L (k := 0) rfl) rfl rfl rfl rfl) ?_; refine HL_callR rfl rfl rfl (enters_of Tryz.func38 (by kernel_rfl) rfl) h1 (fun q hq => Or.inr hq) ?_; refine HLm rfl ?_; refine HL_nil (hK2 _ _ _ _ ?_); refine HC_seq fun K3 hK3 => ?_; refine HC_seq fun K4 hK4 => HC_region ?_; refine HLm rfl (HLp rfl ?_); refine HL_nil (hK4 _ _ _ _ ?_); refine HC_cond rfl (fun h5 => ?_) (fun h5 => ?_)
  · try exact Bool.noConfusion h5
    try simp only [ZZ] at h5
    refine HC_seq fun K6 hK6 => HC_region ?_; refine HLm rfl (HLm rfl (HLm rfl ?_)); refine HL_nil (hK6 _ _ _ _ ?_); refine HC_ret (HQ_thenR ?_); refine HQ_post rfl rfl (.cons (res_tmp rfl) (.cons (res_tmp rfl) .nil)) (fun w1 hs1 => ?_); refine ⟨?_, hs1.keep⟩; rw [if_pos (by omega)]; rfl
  · try exact Bool.noConfusion h5
    try simp only [ZZ] at h5
    refine HC_skip (hK3 _ _ _ _ ?_); refine HC_seq fun K7 hK7 => HC_region ?_; refine HL_r rfl rfl rfl rfl (R_loadA (vs := [_, _, _]) rfl (known_L (k := 1) rfl) rfl rfl rfl rfl) ?_; refine HL_r rfl rfl rfl rfl (R_loadA (vs := [_, _, _, _, _, _, _]) rfl (known_L (k := 0) rfl) rfl rfl rfl rfl) ?_; refine HL_callR rfl rfl rfl (enters_of Tryz.func61 (by kernel_rfl) rfl) (h2 (by omega)) (fun q hq => Or.inr hq) ?_; refine HLm rfl (HLm rfl ?_); refine HL_nil (hK7 _ _ _ _ ?_); refine HC_ret ?_; refine HQ_post rfl rfl (.cons (res_tmp rfl) (.cons (res_tmp rfl) .nil)) (fun w1 hs1 => ?_); refine ⟨?_, hs1.keep⟩; rw [if_neg (by omega)]; rfl
end Go.Proofs.YtlcbfphioeppaaaGreatDoor
namespace Go.Proofs.YtlcbfphioeppaaaGreatDoor
set_option linter.all false
open Go.SL Go.RowKit Go.Shelf
/-! ### How many chunks a type's roots need; the laws of roots -/
mutual
def wideT : Ty → Int
  | .mk k n _ ins => wideL ins (if k = 3 ∨ k = 4 then min (max n 0) 601 else 1)
def wideL : List Ty → Int → Int
  | [], n => n
  | x :: xs, n => if n ≤ 600 then wideL xs (n + wideT x) else n
end
mutual
def nT : Ty → Nat
  | .mk _ _ _ ins => 1 + nTL ins
def nTL : List Ty → Nat
  | [] => 0
  | x :: xs => nT x + nTL xs
end
theorem typL_ge : ∀ (l : List Ty) (most deep n : Int), n ≤ typL l most deep n
  | [], _, _, n => by rw [typL]; exact Int.le_refl _
  | x :: xs, most, deep, n => by
    rw [typL]
    split
    · have h1 := (typN_le x (most - n) (deep - 1) (by omega)).1
      have h2 := typL_ge xs most deep (n + typN x (most - n) (deep - 1))
      omega
    · exact Int.le_refl _
theorem typN_n (t : Ty) : ∀ most deep : Int, typN t most deep ≤ most → typN t most deep = (nT t : Nat) := by
  induction t using Ty.ind with
  | h k n p ins ih =>
    intro most deep h; rw [typN] at h ⊢
    split at h
    · omega
    · rename_i h1
      rw [if_neg h1]
      have key : ∀ l : List Ty, (∀ x ∈ l, x ∈ ins) → ∀ n : Int, typL l most deep n ≤ most → typL l most deep n = n + (nTL l : Nat) := by
        intro l
        induction l with
        | nil => intro _ n _; rw [typL, nTL]; simp
        | cons x xs ihl =>
          intro hs n hn
          have hnm : n ≤ most := Int.le_trans (typL_ge (x :: xs) most deep n) hn
          rw [typL] at hn ⊢; rw [if_pos hnm] at hn ⊢
          have h3 := ihl (fun y hy => hs y (List.mem_cons_of_mem _ hy)) _ hn
          have h4 := typL_ge xs most deep (n + typN x (most - n) (deep - 1))
          have h5 := ih x (hs x List.mem_cons_self) (most - n) (deep - 1) (by omega)
          rw [h3, h5, nTL]
          first | omega | (push_cast; omega)
      rw [key ins (fun _ h => h) _ h, nT]
      first | omega | (push_cast; omega)
theorem few_n {t : Ty} {v : Vl} (h : fewB t v = true) : nT t ≤ 60 := by
  unfold fewB at h
  rw [Bool.and_eq_true, decide_eq_true_eq, decide_eq_true_eq] at h
  have := typN_n t 60 9 h.1
  omega
theorem wide_le (t : Ty) : 0 ≤ wideT t ∧ wideT t ≤ 601 * (nT t : Nat) := by
  induction t using Ty.ind with
  | h k n p ins ih =>
    have key : ∀ l : List Ty, (∀ x ∈ l, x ∈ ins) → ∀ m : Int, 0 ≤ m → 0 ≤ wideL l m ∧ wideL l m ≤ m + 601 * (nTL l : Nat) := by
      intro l
      induction l with
      | nil => intro _ m hm; rw [wideL, nTL]; omega
      | cons x xs ihl =>
        intro hs m hm
        have h1 := ih x (hs x List.mem_cons_self)
        rw [wideL, nTL]
        split
        · have h2 := ihl (fun y hy => hs y (List.mem_cons_of_mem _ hy)) (m + wideT x) (by omega)
          omega
        · omega
    have h2 := key ins (fun _ h => h) (if k = 3 ∨ k = 4 then min (max n 0) 601 else 1) (by split <;> omega)
    rw [wideT, nT]
    have h3 : (if k = 3 ∨ k = 4 then min (max n 0) 601 else 1 : Int) ≤ 601 := by split <;> omega
    omega
section
variable {c : Cx} {l : List (Nat × Value)} {L : List (Nat × Obj)} {X : XP} {d : List Deferred} {i : Nat} {ps : String} {af : Array Edge} {gd : Option (Nat × Bool)} {ty : TypeId}
theorem R_max2 {x y : Operand} {k k' : IntKind} {a b r : Int} {ats : Array TypeId} (hx : evl l x = some (.int k a)) (hy : evl l y = some (.int k' b)) (hr : (if b > a then b else a) = r) :
    RunsTo c d l L X ⟨some i, .call ⟨.builtin .max, #[x, y], ats⟩, ty, ps, af, gd⟩ (.int k r) := fun a' w hf _ => by
  subst hr; simp only [execOp, Sem.run_bind, resolve]
  have h1 := hf.eval hx
  have h2 := hf.eval hy
  have h3 := run_max_int2 (P := c.P) (w := w) ats ty k k' a b
  simp [h1, h2, invoke, builtin, Result.andThen, h3]
end
theorem getTy {ins : List Ty} {i : Nat} (h : i < ins.length) : ∃ y, ins[i]? = some y ∧ y ∈ ins := ⟨ins[i], List.getElem?_eq_getElem h, List.getElem_mem h⟩
theorem dropTy {ins : List Ty} {i : Nat} {y : Ty} (h : ins[i]? = some y) : ins.drop i = y :: ins.drop (i + 1) := by
  obtain ⟨h1, h2⟩ := List.getElem?_eq_some_iff.1 h
  rw [List.drop_eq_getElem_cons h1, h2]
set_option maxRecDepth 10000 in
theorem S_wide {R : List (Nat × Obj)} {t : Ty} (ht : t.In R) : nT t ≤ 100000 → PureR Tryz.prog 59 [t.val].toArray (.int .i64 (wideT t)) R := by
  induction ht with
  | @mk k n p ins hk hn hl hs hi ih =>
  intro hnt; rw [nT] at hnt
  obtain ⟨S0, hS0⟩ : ∃ s, s = (if k = 3 ∨ k = 4 then min (max n 0) 601 else 1 : Int) := ⟨_, rfl⟩
  have hS1 : 0 ≤ S0 ∧ S0 ≤ 601 := by rw [hS0]; split <;> omega
  have hW : wideT (.mk k n p ins) = wideL ins S0 := by rw [wideT, hS0]
  rw [hW]; refine pureR_of_HC Tryz.func59 rfl rfl fun w => ?_; refine HC_seq fun K1 hK1 => HC_region ?_; refine HL_box (cs := #[_, _, _]) rfl rfl rfl rfl fun r1 => ?_; refine HLm rfl ?_; refine HL_nil (hK1 _ _ _ _ ?_); refine HC_seq fun K2 hK2 => HC_region ?_; refine HLm rfl ?_; refine HL_nil (hK2 _ _ _ _ ?_); refine HC_seq fun K3 hK3 => ?_; refine HC_seq fun K4 hK4 => HC_region ?_
  refine HL_r rfl rfl rfl rfl (R_fieldAddr rfl rfl (by first | (simp only [Nat.zero_add, Nat.reduceAdd, Nat.reduceMul, Nat.zero_mul, Nat.mul_one, Nat.add_zero]; exact rfl) | exact rfl)) ?_; refine HL_r rfl rfl rfl rfl (R_load rfl (known_L (k := 0) rfl) rfl rfl) ?_; refine HLp rfl (HLm rfl ?_)
  refine HL_case 8 rfl (fun hb5 => ?_) (fun hb5 => ?_) <;> (try simp only [ZZ] at hb5) <;> first | (refine HL_r rfl rfl rfl rfl (R_fieldAddr rfl rfl (by first | (simp only [Nat.zero_add, Nat.reduceAdd, Nat.reduceMul, Nat.zero_mul, Nat.mul_one, Nat.add_zero]; exact rfl) | exact rfl)) ?_) | (refine HL_skip rfl rfl rfl ?_)
  all_goals first
    | (refine HL_r rfl rfl rfl rfl (R_load rfl (known_L (k := 0) rfl) rfl rfl) ?_)
    | (refine HL_skip rfl rfl rfl ?_)
  all_goals first
    | (refine HLp rfl ?_)
    | (refine HL_skip rfl rfl rfl ?_)
  all_goals first
    | (refine HL_r rfl rfl rfl rfl (R_pickT rfl rfl) ?_)
    | (refine HL_r rfl rfl rfl rfl (R_pickF rfl rfl) ?_)
  all_goals refine HL_nil ?_
  all_goals (
   refine hK4 _ _ _ _ ?_; refine HC_cond rfl (fun h8 => ?_) (fun h8 => ?_)
   · try exact Bool.noConfusion h8
     try simp only [ZZ] at h8
     refine HC_region ?_
     refine HL_r rfl rfl rfl rfl (R_fieldAddr rfl rfl (by first | (simp only [Nat.zero_add, Nat.reduceAdd, Nat.reduceMul, Nat.zero_mul, Nat.mul_one, Nat.add_zero]; exact rfl) | exact rfl)) ?_; refine HL_r rfl rfl rfl rfl (R_load rfl (known_L (k := 0) rfl) rfl rfl) ?_
     refine HL_r rfl rfl rfl rfl (R_max2 (r := max n 0) rfl rfl (by split <;> omega)) ?_
     refine HL_r rfl rfl rfl rfl (R_min2 (r := min (max n 0) 601) rfl rfl (by split <;> omega)) ?_; refine HLm rfl ?_; refine HL_nil (hK3 _ _ _ _ ?_); refine HC_seq fun K9 hK9 => ?_; refine HC_seq fun K10 hK10 => ?_
     (have hS2 : S0 = min (max n 0) 601 := by rw [hS0, if_pos (by omega)]
      skip)
     refine HC_region (HLm rfl ?_); refine HL_nil (hK10 _ _ _ _ ?_); refine HC_block ?_; refine HC_loop (σ := Nat × Int) (fun s => s.1 ≤ ins.length ∧ 0 ≤ s.2 ∧ s.2 + 601 * (nTL (ins.drop s.1) : Nat) ≤ 601 + 601 * (nTL ins : Nat) ∧ wideL (ins.drop s.1) s.2 = wideL ins S0) (fun s => [(1, pt0 r1), (3, .int .i64 s.2), (4, .int .i64 (s.1 : Int))]) (fun _ => [tBlk r1 (.mk k n p ins)]) (fun _ _ _ => True) (fun s => ins.length - s.1) (0, S0) ⟨Nat.zero_le _, hS1.1, by show S0 + 601 * (nTL ins : Nat) ≤ _; omega, rfl⟩ (.cons rfl (.cons (by simp only; rw [hS2]; rfl) (.cons rfl .nil))) (List.Sublist.refl _) (fun _ _ h => h) ?_; rintro ⟨i, m⟩ ⟨hi1, hm2, hbd, hinv⟩; simp only at hi1 hm2 hbd hinv; change HC _ _ [(1, _), (3, .int .i64 m), (4, .int .i64 (i : Int))] ((r1, _) :: []) _ _ _; refine HC_seq fun K11 hK11 => ?_; refine HC_seq fun K12 hK12 => HC_region ?_; refine HLm rfl ?_
     refine HL_r rfl rfl rfl rfl (R_fieldAddr rfl rfl (by first | (simp only [Nat.zero_add, Nat.reduceAdd, Nat.reduceMul, Nat.zero_mul, Nat.mul_one, Nat.add_zero]; exact rfl) | exact rfl)) ?_; refine HL_r rfl rfl rfl rfl (R_load rfl (known_L (k := 0) rfl) rfl rfl) ?_; refine HL_r rfl rfl rfl rfl (R_lenPl rfl hs rfl) ?_; refine HLp rfl (HLm rfl ?_)
     refine HL_case 22 rfl (fun hb13 => ?_) (fun hb13 => ?_) <;> (try simp only [ZZ] at hb13) <;> first | (refine HLm rfl ?_) | (refine HL_skip rfl rfl rfl ?_)
     all_goals first
       | (refine HLp rfl ?_)
       | (refine HL_skip rfl rfl rfl ?_)
     all_goals first
       | (refine HL_r rfl rfl rfl rfl (R_pickT rfl rfl) ?_)
       | (refine HL_r rfl rfl rfl rfl (R_pickF rfl rfl) ?_)
     all_goals refine HL_nil ?_
     all_goals (
      refine hK12 _ _ _ _ ?_; refine HC_cond rfl (fun h15 => ?_) (fun h15 => ?_)
      · try exact Bool.noConfusion h15
        all_goals try simp only [ZZ] at h15
        all_goals (
         refine HC_skip (hK11 _ _ _ _ ?_); refine HC_seq fun K16 hK16 => HC_block ?_
         obtain ⟨y, hy, hmem⟩ := getTy (show i < ins.length by omega)
         have hyb := wide_le y
         rw [dropTy hy, wideL, if_pos (by omega)] at hinv; rw [dropTy hy, nTL] at hbd; refine HC_region (HLm rfl ?_)
         refine HL_r rfl rfl rfl rfl (R_fieldAddr rfl rfl (by first | (simp only [Nat.zero_add, Nat.reduceAdd, Nat.reduceMul, Nat.zero_mul, Nat.mul_one, Nat.add_zero]; exact rfl) | exact rfl)) ?_; refine HL_r rfl rfl rfl rfl (R_load rfl (known_L (k := 0) rfl) rfl rfl) ?_; refine HLm rfl ?_
         refine HL_r rfl rfl rfl rfl (R_indexPl (j := i) rfl hs rfl rfl rfl (by first | rfl | omega) (by omega)) ?_; refine HL_r rfl rfl rfl rfl (R_loadTy (fun q hq => Or.inr hq) rfl hs hy rfl rfl) ?_; refine HL_callR rfl rfl rfl (enters_of Tryz.func59 (by kernel_rfl) rfl) (ih y hmem (by omega)) (fun q hq => Or.inr hq) ?_; refine HLp rfl (HL_as (show _ = Value.int .i64 (m + wideT y) from congrArg (Value.int .i64) (wrap_i64 (by omega) (by omega))) ?_); refine HLm rfl (HL_nil ?_); refine HQ_blockN (hK16 _ _ _ _ ?_); refine HC_region (HLm rfl ?_)
         refine HLp rfl ?_; refine HL_as (show _ = Value.int .i64 ((i + 1 : Nat) : Int) from by rw [wrap_i64 (by omega) (by omega)]; congr 1 <;> omega) ?_; refine HLm rfl (HL_nil (HQ_then ?_)); exact HQ_again (i + 1, m + wideT y) ⟨by simp only; omega, by simp only; omega, by simp only; omega, hinv⟩ (by simp only; omega) (.cons rfl (.cons rfl (.cons rfl .nil))) (List.Sublist.refl _) (fun _ _ h => h)
         skip)
      · try exact Bool.noConfusion h15
        try simp only [ZZ] at h15
        refine HC_exit (HQ_thenE ?_); refine HQ_thenE (HQ_blockE (hK9 _ _ _ _ ?_)); refine HC_seq fun K17 hK17 => HC_region ?_; refine HLm rfl (HLm rfl ?_); refine HL_nil (hK17 _ _ _ _ ?_); refine HC_ret ?_; refine HQ_post rfl rfl (.cons (res_tmp rfl) .nil) (fun w1 hs1 => ?_); refine ⟨?_, hs1.keep⟩; rw [← hinv]
        first
          | (rw [List.drop_of_length_le (by omega), wideL]; rfl)
          | (obtain ⟨y, hy, _⟩ := getTy (show i < ins.length by omega); rw [dropTy hy, wideL, if_neg (by omega)]; rfl)
      skip)
   · try exact Bool.noConfusion h8
     all_goals try simp only [ZZ] at h8
     all_goals (
      refine HC_skip (hK3 _ _ _ _ ?_); refine HC_seq fun K18 hK18 => ?_; refine HC_seq fun K19 hK19 => ?_
      (have hS2 : S0 = 1 := by rw [hS0, if_neg (by omega)]
       skip)
      refine HC_region (HLm rfl ?_); refine HL_nil (hK19 _ _ _ _ ?_); refine HC_block ?_; refine HC_loop (σ := Nat × Int) (fun s => s.1 ≤ ins.length ∧ 0 ≤ s.2 ∧ s.2 + 601 * (nTL (ins.drop s.1) : Nat) ≤ 601 + 601 * (nTL ins : Nat) ∧ wideL (ins.drop s.1) s.2 = wideL ins S0) (fun s => [(1, pt0 r1), (3, .int .i64 s.2), (4, .int .i64 (s.1 : Int))]) (fun _ => [tBlk r1 (.mk k n p ins)]) (fun _ _ _ => True) (fun s => ins.length - s.1) (0, S0) ⟨Nat.zero_le _, hS1.1, by show S0 + 601 * (nTL ins : Nat) ≤ _; omega, rfl⟩ (.cons rfl (.cons (by simp only; rw [hS2]; rfl) (.cons rfl .nil))) (List.Sublist.refl _) (fun _ _ h => h) ?_; rintro ⟨i, m⟩ ⟨hi1, hm2, hbd, hinv⟩; simp only at hi1 hm2 hbd hinv; change HC _ _ [(1, _), (3, .int .i64 m), (4, .int .i64 (i : Int))] ((r1, _) :: []) _ _ _; refine HC_seq fun K20 hK20 => ?_; refine HC_seq fun K21 hK21 => HC_region ?_; refine HLm rfl ?_
      refine HL_r rfl rfl rfl rfl (R_fieldAddr rfl rfl (by first | (simp only [Nat.zero_add, Nat.reduceAdd, Nat.reduceMul, Nat.zero_mul, Nat.mul_one, Nat.add_zero]; exact rfl) | exact rfl)) ?_; refine HL_r rfl rfl rfl rfl (R_load rfl (known_L (k := 0) rfl) rfl rfl) ?_; refine HL_r rfl rfl rfl rfl (R_lenPl rfl hs rfl) ?_; refine HLp rfl (HLm rfl ?_)
      refine HL_case 22 rfl (fun hb22 => ?_) (fun hb22 => ?_) <;> (try simp only [ZZ] at hb22) <;> first | (refine HLm rfl ?_) | (refine HL_skip rfl rfl rfl ?_)
      all_goals first
        | (refine HLp rfl ?_)
        | (refine HL_skip rfl rfl rfl ?_)
      all_goals first
        | (refine HL_r rfl rfl rfl rfl (R_pickT rfl rfl) ?_)
        | (refine HL_r rfl rfl rfl rfl (R_pickF rfl rfl) ?_)
      all_goals refine HL_nil ?_
      all_goals (
       refine hK21 _ _ _ _ ?_; refine HC_cond rfl (fun h24 => ?_) (fun h24 => ?_)
       · try exact Bool.noConfusion h24
         all_goals try simp only [ZZ] at h24
         all_goals (
          refine HC_skip (hK20 _ _ _ _ ?_); refine HC_seq fun K25 hK25 => HC_block ?_
          obtain ⟨y, hy, hmem⟩ := getTy (show i < ins.length by omega)
          have hyb := wide_le y
          rw [dropTy hy, wideL, if_pos (by omega)] at hinv; rw [dropTy hy, nTL] at hbd; refine HC_region (HLm rfl ?_)
          refine HL_r rfl rfl rfl rfl (R_fieldAddr rfl rfl (by first | (simp only [Nat.zero_add, Nat.reduceAdd, Nat.reduceMul, Nat.zero_mul, Nat.mul_one, Nat.add_zero]; exact rfl) | exact rfl)) ?_; refine HL_r rfl rfl rfl rfl (R_load rfl (known_L (k := 0) rfl) rfl rfl) ?_; refine HLm rfl ?_
          refine HL_r rfl rfl rfl rfl (R_indexPl (j := i) rfl hs rfl rfl rfl (by first | rfl | omega) (by omega)) ?_; refine HL_r rfl rfl rfl rfl (R_loadTy (fun q hq => Or.inr hq) rfl hs hy rfl rfl) ?_; refine HL_callR rfl rfl rfl (enters_of Tryz.func59 (by kernel_rfl) rfl) (ih y hmem (by omega)) (fun q hq => Or.inr hq) ?_; refine HLp rfl (HL_as (show _ = Value.int .i64 (m + wideT y) from congrArg (Value.int .i64) (wrap_i64 (by omega) (by omega))) ?_); refine HLm rfl (HL_nil ?_); refine HQ_blockN (hK25 _ _ _ _ ?_); refine HC_region (HLm rfl ?_)
          refine HLp rfl ?_; refine HL_as (show _ = Value.int .i64 ((i + 1 : Nat) : Int) from by rw [wrap_i64 (by omega) (by omega)]; congr 1 <;> omega) ?_; refine HLm rfl (HL_nil (HQ_then ?_)); exact HQ_again (i + 1, m + wideT y) ⟨by simp only; omega, by simp only; omega, by simp only; omega, hinv⟩ (by simp only; omega) (.cons rfl (.cons rfl (.cons rfl .nil))) (List.Sublist.refl _) (fun _ _ h => h)
          skip)
       · try exact Bool.noConfusion h24
         try simp only [ZZ] at h24
         refine HC_exit (HQ_thenE ?_); refine HQ_thenE (HQ_blockE (hK18 _ _ _ _ ?_)); refine HC_seq fun K26 hK26 => HC_region ?_; refine HLm rfl (HLm rfl ?_); refine HL_nil (hK26 _ _ _ _ ?_); refine HC_ret ?_; refine HQ_post rfl rfl (.cons (res_tmp rfl) .nil) (fun w1 hs1 => ?_); refine ⟨?_, hs1.keep⟩; rw [← hinv]
         first
           | (rw [List.drop_of_length_le (by omega), wideL]; rfl)
           | (obtain ⟨y, hy, _⟩ := getTy (show i < ins.length by omega); rw [dropTy hy, wideL, if_neg (by omega)]; rfl)
       skip)
      skip)
   skip)
def fewM (t : Ty) (v : Vl) : Bool := fewB t v && decide (wideT t ≤ 600)
theorem fewM_w {t : Ty} {v : Vl} (h : fewM t v = true) : wV v ≤ 20000 := by
  unfold fewM at h
  rw [Bool.and_eq_true] at h
  have := few_w h.1
  omega
set_option maxRecDepth 10000 in
theorem S_few9 {R : List (Nat × Obj)} {t : Ty} {v : Vl} (ht : t.In R) (hv : v.In R) : PureR Tryz.prog 31 [t.val, v.val].toArray (.bool (fewM t v)) R := by
  have h1 := S_Few ht hv
  have h2 := fun h : fewB t v = true => S_wide ht (by have := few_n h; omega)
  unfold fewM
  generalize fewB t v = f at h1 h2 ⊢
  generalize wideT t = z at h2 ⊢
  obtain ⟨k, n, p, ins⟩ := t
  obtain ⟨a, b, c, d, bits, pb, items, pi, pick⟩ := v
  refine pureR_of_HC Tryz.func31 rfl rfl fun w => ?_; refine HC_seq fun K1 hK1 => HC_region ?_; refine HL_box (cs := #[_, _, _]) rfl rfl rfl rfl fun r1 => ?_; refine HL_box (cs := #[_, _, _, _, _, _, _]) rfl rfl rfl rfl fun r2 => ?_; refine HLm rfl ?_; refine HL_nil (hK1 _ _ _ _ ?_); clear hK1 K1; refine HC_seq fun K2 hK2 => HC_region ?_; refine HL_r rfl rfl rfl rfl (R_loadA (vs := [_, _, _]) rfl (known_L (k := 1) rfl) rfl rfl rfl rfl) ?_; refine HL_r rfl rfl rfl rfl (R_loadA (vs := [_, _, _, _, _, _, _]) rfl (known_L (k := 0) rfl) rfl rfl rfl rfl) ?_; refine HL_callR rfl rfl rfl (enters_of Tryz.func35 (by kernel_rfl) rfl) h1 (fun q hq => Or.inr hq) ?_; refine HLm rfl ?_; refine HL_nil (hK2 _ _ _ _ ?_); clear hK2 K2; refine HC_seq fun K3 hK3 => HC_region ?_; refine HLm rfl (HLm rfl ?_)
  refine HL_case 10 rfl (fun hb4 => ?_) (fun hb4 => ?_) <;> (try simp only [ZZ] at hb4) <;> first | (refine HL_r rfl rfl rfl rfl (R_loadA (vs := [_, _, _]) rfl (known_L (k := 0) rfl) rfl rfl rfl rfl) ?_) | (refine HL_r rfl rfl rfl rfl (R_loadA (vs := [_, _, _]) rfl (known_L (k := 1) rfl) rfl rfl rfl rfl) ?_) | (refine HL_skip rfl rfl rfl ?_)
  all_goals first
    | (refine HL_callR rfl rfl rfl (enters_of Tryz.func59 (by kernel_rfl) rfl) (h2 (by assumption)) (fun q hq => Or.inr hq) ?_)
    | (refine HL_skip rfl rfl rfl ?_)
  all_goals first
    | (refine HLp rfl ?_)
    | (refine HL_skip rfl rfl rfl ?_)
  all_goals first
    | (refine HL_r rfl rfl rfl rfl (R_pickT rfl rfl) ?_)
    | (refine HL_r rfl rfl rfl rfl (R_pickF rfl rfl) ?_)
  all_goals refine HLm rfl ?_
  all_goals refine HL_nil ?_
  all_goals (
   refine hK3 _ _ _ _ ?_; clear hK3 K3; refine HC_ret ?_; refine HQ_post rfl rfl (.cons (res_tmp rfl) .nil) (fun w1 hs1 => ?_); refine ⟨?_, hs1.keep⟩
   simp_all [resVal]
   skip)
set_option maxRecDepth 10000 in
theorem L_MerkleRoots {R : List (Nat × Obj)} {t : Ty} {v : Vl} (ht : t.In R) (hv : v.In R) : PureR Tryz.prog 10 [t.val, v.val].toArray (.bool true) R := by
  have h1 := S_few9 ht hv
  have h2 := fun h : fewM t v = true => S_mRoot ht hv (fewM_w h)
  have h3 := fun h : fewM t v = true => S_rRoot ht hv (fewM_w h)
  generalize fewM t v = f at h1 h2 h3
  generalize rootR t v = r at h2 h3
  obtain ⟨k, n, p, ins⟩ := t
  obtain ⟨a, b, c, d, bits, pb, items, pi, pick⟩ := v
  refine pureR_of_HC Tryz.func10 rfl rfl fun w => ?_; refine HC_seq fun K1 hK1 => HC_region ?_; refine HL_box (cs := #[_, _, _]) rfl rfl rfl rfl fun r1 => ?_; refine HL_box (cs := #[_, _, _, _, _, _, _]) rfl rfl rfl rfl fun r2 => ?_; refine HLm rfl ?_; refine HL_nil (hK1 _ _ _ _ ?_); refine HC_seq fun K2 hK2 => HC_region ?_; refine HL_callP rfl rfl rfl (enters_of Tryz.func26 (by kernel_rfl) rfl) P_works09 ?_; refine HLm rfl ?_; refine HL_nil (hK2 _ _ _ _ ?_); refine HC_seq fun K3 hK3 => ?_; refine HC_seq fun K4 hK4 => HC_region ?_; refine HLm rfl (HLp rfl ?_); refine HL_nil (hK4 _ _ _ _ ?_); refine HC_cond rfl (fun h5 => ?_) (fun h5 => ?_)
  · try exact Bool.noConfusion h5
  · try exact Bool.noConfusion h5
    try simp only [ZZ] at h5
    refine HC_skip (hK3 _ _ _ _ ?_); refine HC_seq fun K7 hK7 => HC_region ?_; refine HL_r rfl rfl rfl rfl (R_loadA (vs := [_, _, _]) rfl (known_L (k := 1) rfl) rfl rfl rfl rfl) ?_; refine HL_r rfl rfl rfl rfl (R_loadA (vs := [_, _, _, _, _, _, _]) rfl (known_L (k := 0) rfl) rfl rfl rfl rfl) ?_; refine HL_callR rfl rfl rfl (enters_of Tryz.func31 (by kernel_rfl) rfl) h1 (fun q hq => Or.inr hq) ?_; refine HLm rfl ?_; refine HL_nil (hK7 _ _ _ _ ?_); refine HC_seq fun K8 hK8 => ?_; refine HC_seq fun K9 hK9 => HC_region ?_; refine HLm rfl (HLp rfl ?_); refine HL_nil (hK9 _ _ _ _ ?_); refine HC_cond rfl (fun h10 => ?_) (fun h10 => ?_)
    · try exact Bool.noConfusion h10
      try simp only [ZZ] at h10
      refine HC_seq fun K11 hK11 => HC_region ?_; refine HLm rfl (HLm rfl ?_); refine HL_nil (hK11 _ _ _ _ ?_); refine HC_ret (HQ_thenR ?_); refine HQ_post rfl rfl (.cons (res_tmp rfl) .nil) (fun w1 hs1 => ?_); exact ⟨rfl, hs1.keep⟩
    · try exact Bool.noConfusion h10
      try simp only [ZZ] at h10
      refine HC_skip (hK8 _ _ _ _ ?_); refine HC_seq fun K12 hK12 => HC_region ?_; refine HL_r rfl rfl rfl rfl (R_loadA (vs := [_, _, _]) rfl (known_L (k := 1) rfl) rfl rfl rfl rfl) ?_; refine HL_r rfl rfl rfl rfl (R_loadA (vs := [_, _, _, _, _, _, _]) rfl (known_L (k := 0) rfl) rfl rfl rfl rfl) ?_; refine HL_callR rfl rfl rfl (enters_of Tryz.func32 (by kernel_rfl) rfl) (h2 (by assumption)) (fun q hq => Or.inr hq) ?_; refine HLm rfl (HL_r rfl rfl rfl rfl (R_extract rfl rfl) (HL_r rfl rfl rfl rfl (R_extract rfl rfl) ?_)); refine HLm rfl (HLm rfl ?_); refine HL_nil (hK12 _ _ _ _ ?_); refine HC_seq fun K13 hK13 => HC_region ?_; refine HL_r rfl rfl rfl rfl (R_loadA (vs := [_, _, _]) rfl (known_L (k := 1) rfl) rfl rfl rfl rfl) ?_; refine HL_r rfl rfl rfl rfl (R_loadA (vs := [_, _, _, _, _, _, _]) rfl (known_L (k := 0) rfl) rfl rfl rfl rfl) ?_; refine HL_callR rfl rfl rfl (enters_of Tryz.func33 (by kernel_rfl) rfl) (h3 (by assumption)) (fun q hq => Or.inr hq) ?_; refine HLm rfl (HL_r rfl rfl rfl rfl (R_extract rfl rfl) (HL_r rfl rfl rfl rfl (R_extract rfl rfl) ?_)); refine HLm rfl (HLm rfl ?_); refine HL_nil (hK13 _ _ _ _ ?_); refine HC_seq fun K14 hK14 => HC_region ?_; refine HLm rfl (HLm rfl ?_); refine HLm rfl (HLm rfl (HL_r rfl rfl rfl rfl (R_strEq rfl rfl) ?_)); refine HL_as (show _ = Value.bool true from bool_eq' (decide_eq_true rfl)) ?_; refine HL_r rfl rfl rfl rfl (R_pickT rfl rfl) ?_; refine HLm rfl (HLm rfl ?_); refine HLm rfl (HLp rfl (HL_as (show _ = Value.bool true from bool_eq' (ieqT rfl)) ?_)); refine HL_r rfl rfl rfl rfl (R_pickT rfl rfl) ?_; refine HLm rfl ?_; refine HL_nil (hK14 _ _ _ _ ?_); refine HC_ret ?_; refine HQ_post rfl rfl (.cons (res_tmp rfl) .nil) (fun w1 hs1 => ?_); exact ⟨rfl, hs1.keep⟩
end Go.Proofs.YtlcbfphioeppaaaGreatDoor
